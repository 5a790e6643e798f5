/-
  TableAll.
-/
import Derived.Test.YtofcmdkmhbbbjaaFnsI
set_option linter.unusedSimpArgs false
set_option linter.unusedVariables false
set_option maxRecDepth 100000
open Nat renaming reduceEqDiff → qA, reduceAdd → qB, reduceSub → qC, reduceMul → qD, reduceLeDiff → qE, reduceLT → qF
open Int renaming reduceToNat → qG, reduceEq → qH, reduceLT → qI, reduceLE → qJ
namespace Go.Proofs.Ytofcmdkmhbbbjaa
open Go Go.Eng
set_option maxRecDepth 100000
def turnS (s : List UInt8) (i : Nat) (b : UInt8) : List UInt8 := s.set i (s.getD i 0 ^^^ b)
theorem turnS_len {s : List UInt8} {i : Nat} {b : UInt8} : (turnS s i b).length = s.length := by simp [turnS]
theorem turn_byt {s : List UInt8} {i : Nat} {b : UInt8} : (s.map Byt.mk).set i ⟨s.getD i 0 ^^^ b⟩ = (turnS s i b).map Byt.mk := by
  simp [turnS, List.map_set]
theorem row_byt {s : List UInt8} {i : Nat} (h : i < s.length) : (List.map Cell.enc (List.map Byt.mk s)).getD i [] = [.int .u8 ((s.getD i 0).toNat : Int)] := by
  rw [row_at (by simpa using h)]
  simp [enc_byt, List.getD_eq_getElem?_getD, h]
theorem taken_noF {s : List UInt8} : NoF (takeTb s).1 := by
  rw [takeTb]
  split
  · next hk =>
    have h1 : takeOk F1 s = true := by rw [tkTok, Bool.and_eq_true] at hk; exact hk.1
    refine ⟨?_, fun d hd => ?_⟩
    · show (dsT s (cntT s)).length ≤ 100000
      rw [dsT_len]
      have := (cnt_bd h1).2
      omega
    · obtain ⟨i, _, rfl⟩ := List.mem_map.1 hd
      rfl
  · exact ⟨Nat.zero_le _, fun d hd => by cases hd⟩
theorem tb_len {s : List UInt8} : (takeTb s).2.1.length ≤ 1000 := by
  rw [takeTb]
  split
  · next hk =>
    have h1 : takeOk F1 s = true := by rw [tkTok, Bool.and_eq_true] at hk; exact hk.1
    show (ptT s (cntT s)).length ≤ 1000
    rw [ptT_len]
    have := (cnt_bd h1).2
    omega
  · exact Nat.zero_le _
theorem map_mk_v (s : List UInt8) : (s.map Byt.mk).map Byt.v = s := map_v s
theorem row28 (d : TDset) (p : TPtr) : (rowB d p).length ≤ 28 := by
  obtain ⟨_, h4, _⟩ := take_put (f := F4) (l := numsD d) [] (by decide) rfl
  have d1 : (digs F4).sum = 6 := by decide
  rw [d1] at h4
  have h5 := ptrsF_len [p]
  have h6 : [p].length = 1 := rfl
  rw [h6] at h5
  rw [rowB, List.length_append]; omega
theorem rows28 (l : List TDset) (p : List TPtr) : ∀ i, (rowsB l p i).length ≤ 28 * i
  | 0 => Nat.le_refl _
  | i + 1 => by
    have h := rows28 l p i
    have h2 := row28 (l.getD i default) (p.getD i default)
    rw [rowsB, List.length_append]; omega
theorem tab225 {h : List TDset} {P : List TPtr} (hto : tabOk h P = true) : (tabB h P).length ≤ 225 ∧ 0 < (tabB h P).length := by
  have h1 := rows28 h P h.length
  have h3 : h.length ≤ 8 := by
    rw [tabOk, Bool.and_eq_true, decide_eq_true_eq] at hto; exact hto.1
  obtain ⟨_, h4, _⟩ := take_put (f := F1) (l := [(h.length : Int)]) [] (by decide) rfl
  have d1 : (digs F1).sum = 1 := by decide
  rw [d1] at h4
  have h5 : (headB h).length = (putF F1 [(h.length : Int)]).length := rfl
  rw [tabB, if_pos hto, List.length_append]; omega
def G_law17_TableAll_27 : GCode := .seq (.seq (.seq .weak (.region [⟨(some 29), none, .assign (.const (.int .i64 0))⟩])) (.block 4 (.loop (.seq .weak (.seq (.seq (.region [⟨(some 200), none, .move (.tmp 29)⟩, ⟨(some 201), none, .move (.tmp 28)⟩, ⟨(some 202), none, .call ⟨.builtin .len, #[.tmp 201], #[44]⟩⟩, ⟨(some 203), none, .binOp .lss 3 (.tmp 200) (.tmp 202) 3⟩]) (.cond (.tmp 203) (.skip) (.exit 4))) (.seq (.block 5 (.seq (.seq .weak (.region [⟨(some 207), none, .move (.tmp 28)⟩, ⟨(some 208), none, .move (.tmp 29)⟩, ⟨(some 209), none, .indexAddr 44 (.tmp 207) (.tmp 208)⟩, ⟨(some 210), none, .load 9 (.tmp 209)⟩, ⟨(some 211), none, .call ⟨.value (.func 18), #[.tmp 210], #[9]⟩⟩, ⟨(some 206), none, .move (.tmp 211)⟩, ⟨(some 212), none, .extract (.tmp 206) 0⟩, ⟨(some 213), none, .extract (.tmp 206) 1⟩, ⟨(some 214), none, .extract (.tmp 206) 2⟩, ⟨(some 30), none, .assign (.tmp 212)⟩, ⟨(some 31), none, .assign (.tmp 213)⟩, ⟨(some 32), none, .assign (.tmp 214)⟩])) (.seq (.seq .weak (.region [⟨(some 216), none, .move (.tmp 28)⟩, ⟨(some 217), none, .move (.tmp 29)⟩, ⟨(some 218), none, .indexAddr 44 (.tmp 216) (.tmp 217)⟩, ⟨(some 219), none, .load 9 (.tmp 218)⟩, ⟨(some 220), none, .call ⟨.value (.func 19), #[.tmp 219], #[9]⟩⟩, ⟨(some 215), none, .move (.tmp 220)⟩, ⟨(some 221), none, .extract (.tmp 215) 0⟩, ⟨(some 222), none, .extract (.tmp 215) 1⟩, ⟨(some 223), none, .extract (.tmp 215) 2⟩, ⟨(some 33), none, .assign (.tmp 221)⟩, ⟨(some 34), none, .assign (.tmp 222)⟩, ⟨(some 35), none, .assign (.tmp 223)⟩])) (.seq (.seq .weak (.region [⟨(some 225), none, .move (.tmp 28)⟩, ⟨(some 226), none, .move (.tmp 29)⟩, ⟨(some 227), none, .indexAddr 44 (.tmp 225) (.tmp 226)⟩, ⟨(some 228), none, .load 9 (.tmp 227)⟩, ⟨(some 229), none, .call ⟨.value (.func 20), #[.tmp 228], #[9]⟩⟩, ⟨(some 224), none, .move (.tmp 229)⟩, ⟨(some 230), none, .extract (.tmp 224) 0⟩, ⟨(some 231), none, .extract (.tmp 224) 1⟩, ⟨(some 36), none, .alloc 31⟩, ⟨none, none, .store 31 (.tmp 36) (.tmp 230)⟩, ⟨(some 37), none, .assign (.tmp 231)⟩])) (.seq (.seq .weak (.region [⟨(some 233), none, .move (.tmp 28)⟩, ⟨(some 234), none, .move (.tmp 29)⟩, ⟨(some 235), none, .indexAddr 44 (.tmp 233) (.tmp 234)⟩, ⟨(some 236), none, .load 9 (.tmp 235)⟩, ⟨(some 237), none, .call ⟨.value (.func 21), #[.tmp 236], #[9]⟩⟩, ⟨(some 232), none, .move (.tmp 237)⟩, ⟨(some 238), none, .extract (.tmp 232) 0⟩, ⟨(some 239), none, .extract (.tmp 232) 1⟩, ⟨(some 38), none, .alloc 31⟩, ⟨none, none, .store 31 (.tmp 38) (.tmp 238)⟩, ⟨(some 39), none, .assign (.tmp 239)⟩])) (.seq (.seq .weak (.region [⟨(some 240), none, .move (.tmp 32)⟩, ⟨(some 241), none, .move (.tmp 35)⟩, ⟨(some 242), none, .binOp .neq 4 (.tmp 240) (.tmp 241) 4⟩, ⟨(some 243), none, .move (.tmp 242)⟩, ⟨(some 244), (some (243, false)), .move (.tmp 30)⟩, ⟨(some 245), (some (243, false)), .move (.tmp 33)⟩, ⟨(some 246), (some (243, false)), .call ⟨.value (.func 22), #[.tmp 244, .tmp 245], #[23, 23]⟩⟩, ⟨(some 247), (some (243, false)), .unOp .not 4 (.tmp 246)⟩, ⟨(some 248), none, .pick (.tmp 243) (.const (.bool true)) (.tmp 247)⟩, ⟨(some 249), none, .move (.tmp 248)⟩, ⟨(some 250), (some (249, false)), .move (.tmp 31)⟩, ⟨(some 251), (some (249, false)), .move (.tmp 34)⟩, ⟨(some 252), (some (249, false)), .call ⟨.value (.func 23), #[.tmp 250, .tmp 251], #[24, 24]⟩⟩, ⟨(some 253), (some (249, false)), .unOp .not 4 (.tmp 252)⟩, ⟨(some 254), none, .pick (.tmp 249) (.const (.bool true)) (.tmp 253)⟩, ⟨(some 255), none, .move (.tmp 254)⟩, ⟨(some 256), (some (255, false)), .move (.tmp 37)⟩, ⟨(some 257), (some (255, false)), .move (.tmp 39)⟩, ⟨(some 258), (some (255, false)), .binOp .neq 4 (.tmp 256) (.tmp 257) 4⟩, ⟨(some 259), none, .pick (.tmp 255) (.const (.bool true)) (.tmp 258)⟩, ⟨(some 260), none, .move (.tmp 259)⟩, ⟨(some 261), (some (260, false)), .load 31 (.tmp 36)⟩, ⟨(some 262), (some (260, false)), .load 31 (.tmp 38)⟩, ⟨(some 263), (some (260, false)), .binOp .neq 31 (.tmp 261) (.tmp 262) 31⟩, ⟨(some 264), none, .pick (.tmp 260) (.const (.bool true)) (.tmp 263)⟩])) (.cond (.tmp 264) (.seq (.region [⟨(some 18), none, .assign (.const (.bool false))⟩]) (.ret)) (.skip)))))))) (.region [⟨(some 204), none, .move (.tmp 29)⟩, ⟨(some 205), none, .binOp .add 3 (.tmp 204) (.const (.int .i64 1)) 3⟩, ⟨(some 29), none, .assign (.tmp 205)⟩]))))))) (.seq (.seq .weak (.region [⟨(some 265), none, .move (.tmp 24)⟩, ⟨(some 266), none, .call ⟨.builtin .len, #[.tmp 265], #[9]⟩⟩, ⟨(some 267), none, .binOp .leq 3 (.tmp 266) (.const (.int .i64 249)) 3⟩, ⟨(some 268), none, .move (.tmp 267)⟩, ⟨(some 269), (some (268, true)), .move (.tmp 25)⟩, ⟨(some 270), (some (268, true)), .call ⟨.builtin .len, #[.tmp 269], #[9]⟩⟩, ⟨(some 271), (some (268, true)), .binOp .leq 3 (.tmp 270) (.const (.int .i64 249)) 3⟩, ⟨(some 272), none, .pick (.tmp 268) (.tmp 271) (.const (.bool false))⟩, ⟨(some 18), none, .assign (.tmp 272)⟩])) (.ret))
def G_law17_TableAll_17 : GCode := .seq (.seq (.seq .weak (.region [⟨(some 108), none, .move (.tmp 20)⟩, ⟨(some 109), none, .move (.tmp 21)⟩, ⟨(some 110), none, .call ⟨.value (.func 13), #[.tmp 108, .tmp 109], #[23, 24]⟩⟩, ⟨(some 111), none, .move (.tmp 20)⟩, ⟨(some 112), none, .move (.tmp 21)⟩, ⟨(some 113), none, .call ⟨.value (.func 14), #[.tmp 111, .tmp 112], #[23, 24]⟩⟩, ⟨(some 114), none, .binOp .neq 9 (.tmp 110) (.tmp 113) 9⟩, ⟨(some 115), none, .move (.tmp 114)⟩, ⟨(some 116), (some (115, false)), .move (.tmp 2)⟩, ⟨(some 117), (some (115, false)), .move (.tmp 3)⟩, ⟨(some 118), (some (115, false)), .call ⟨.value (.func 13), #[.tmp 116, .tmp 117], #[23, 24]⟩⟩, ⟨(some 119), (some (115, false)), .move (.tmp 2)⟩, ⟨(some 120), (some (115, false)), .move (.tmp 3)⟩, ⟨(some 121), (some (115, false)), .call ⟨.value (.func 14), #[.tmp 119, .tmp 120], #[23, 24]⟩⟩, ⟨(some 122), (some (115, false)), .binOp .neq 9 (.tmp 118) (.tmp 121) 9⟩, ⟨(some 123), none, .pick (.tmp 115) (.const (.bool true)) (.tmp 122)⟩, ⟨(some 124), none, .move (.tmp 123)⟩, ⟨(some 125), (some (124, false)), .move (.tmp 20)⟩, ⟨(some 126), (some (124, false)), .move (.tmp 3)⟩, ⟨(some 127), (some (124, false)), .call ⟨.value (.func 13), #[.tmp 125, .tmp 126], #[23, 24]⟩⟩, ⟨(some 128), (some (124, false)), .move (.tmp 20)⟩, ⟨(some 129), (some (124, false)), .move (.tmp 3)⟩, ⟨(some 130), (some (124, false)), .call ⟨.value (.func 14), #[.tmp 128, .tmp 129], #[23, 24]⟩⟩, ⟨(some 131), (some (124, false)), .binOp .neq 9 (.tmp 127) (.tmp 130) 9⟩, ⟨(some 132), none, .pick (.tmp 124) (.const (.bool true)) (.tmp 131)⟩, ⟨(some 133), none, .move (.tmp 132)⟩, ⟨(some 134), (some (133, false)), .move (.tmp 2)⟩, ⟨(some 135), (some (133, false)), .move (.tmp 21)⟩, ⟨(some 136), (some (133, false)), .call ⟨.value (.func 13), #[.tmp 134, .tmp 135], #[23, 24]⟩⟩, ⟨(some 137), (some (133, false)), .move (.tmp 2)⟩, ⟨(some 138), (some (133, false)), .move (.tmp 21)⟩, ⟨(some 139), (some (133, false)), .call ⟨.value (.func 14), #[.tmp 137, .tmp 138], #[23, 24]⟩⟩, ⟨(some 140), (some (133, false)), .binOp .neq 9 (.tmp 136) (.tmp 139) 9⟩, ⟨(some 141), none, .pick (.tmp 133) (.const (.bool true)) (.tmp 140)⟩])) (.cond (.tmp 141) (.seq (.region [⟨(some 18), none, .assign (.const (.bool false))⟩]) (.ret)) (.skip))) (.seq (.region [⟨(some 142), none, .move (.tmp 5)⟩, ⟨(some 143), none, .call ⟨.value (.func 11), #[.tmp 142], #[22]⟩⟩, ⟨(some 144), none, .call ⟨.value (.func 15), #[.tmp 143], #[38]⟩⟩, ⟨(some 23), none, .alloc 31⟩, ⟨none, none, .store 31 (.tmp 23) (.tmp 144)⟩]) (.seq (.seq (.seq .weak (.region [⟨(some 145), none, .load 31 (.tmp 23)⟩, ⟨(some 146), none, .call ⟨.value (.func 16), #[.tmp 145], #[31]⟩⟩, ⟨(some 147), none, .load 31 (.tmp 23)⟩, ⟨(some 148), none, .call ⟨.value (.func 17), #[.tmp 147], #[31]⟩⟩, ⟨(some 149), none, .binOp .neq 9 (.tmp 146) (.tmp 148) 9⟩, ⟨(some 150), none, .move (.tmp 149)⟩, ⟨(some 151), (some (150, false)), .load 31 (.tmp 13)⟩, ⟨(some 152), (some (150, false)), .call ⟨.value (.func 16), #[.tmp 151], #[31]⟩⟩, ⟨(some 153), (some (150, false)), .load 31 (.tmp 13)⟩, ⟨(some 154), (some (150, false)), .call ⟨.value (.func 17), #[.tmp 153], #[31]⟩⟩, ⟨(some 155), (some (150, false)), .binOp .neq 9 (.tmp 152) (.tmp 154) 9⟩, ⟨(some 156), none, .pick (.tmp 150) (.const (.bool true)) (.tmp 155)⟩])) (.cond (.tmp 156) (.seq (.region [⟨(some 18), none, .assign (.const (.bool false))⟩]) (.ret)) (.skip))) (.seq (.seq .weak (.region [⟨(some 157), none, .move (.tmp 20)⟩, ⟨(some 158), none, .move (.tmp 21)⟩, ⟨(some 159), none, .call ⟨.value (.func 14), #[.tmp 157, .tmp 158], #[23, 24]⟩⟩, ⟨(some 160), none, .load 31 (.tmp 23)⟩, ⟨(some 161), none, .call ⟨.value (.func 17), #[.tmp 160], #[31]⟩⟩, ⟨(some 24), none, .assign (.tmp 159)⟩, ⟨(some 25), none, .assign (.tmp 161)⟩])) (.seq (.seq .weak (.region [⟨(some 162), none, .move (.tmp 24)⟩, ⟨(some 163), none, .convert 9 22 (.tmp 162)⟩, ⟨(some 164), none, .move (.tmp 25)⟩, ⟨(some 165), none, .convert 9 22 (.tmp 164)⟩, ⟨(some 26), none, .assign (.tmp 163)⟩, ⟨(some 27), none, .assign (.tmp 165)⟩])) (.seq (.region [⟨(some 166), none, .move (.tmp 26)⟩, ⟨(some 167), none, .move (.tmp 7)⟩, ⟨(some 168), none, .convert 5 3 (.tmp 167)⟩, ⟨(some 169), none, .move (.tmp 26)⟩, ⟨(some 170), none, .call ⟨.builtin .len, #[.tmp 169], #[22]⟩⟩, ⟨(some 171), none, .binOp .rem 3 (.tmp 168) (.tmp 170) 3⟩, ⟨(some 172), none, .indexAddr 22 (.tmp 166) (.tmp 171)⟩, ⟨(some 173), none, .load 5 (.tmp 172)⟩, ⟨(some 174), none, .move (.tmp 8)⟩, ⟨(some 175), none, .binOp .xor 5 (.tmp 173) (.tmp 174) 5⟩, ⟨(some 176), none, .indexAddr 22 (.tmp 166) (.tmp 171)⟩, ⟨none, none, .store 5 (.tmp 176) (.tmp 175)⟩]) (.seq (.region [⟨(some 177), none, .move (.tmp 27)⟩, ⟨(some 178), none, .move (.tmp 7)⟩, ⟨(some 179), none, .convert 5 3 (.tmp 178)⟩, ⟨(some 180), none, .move (.tmp 27)⟩, ⟨(some 181), none, .call ⟨.builtin .len, #[.tmp 180], #[22]⟩⟩, ⟨(some 182), none, .binOp .rem 3 (.tmp 179) (.tmp 181) 3⟩, ⟨(some 183), none, .indexAddr 22 (.tmp 177) (.tmp 182)⟩, ⟨(some 184), none, .load 5 (.tmp 183)⟩, ⟨(some 185), none, .move (.tmp 8)⟩, ⟨(some 186), none, .binOp .xor 5 (.tmp 184) (.tmp 185) 5⟩, ⟨(some 187), none, .indexAddr 22 (.tmp 177) (.tmp 182)⟩, ⟨none, none, .store 5 (.tmp 187) (.tmp 186)⟩]) (.seq (.seq .weak (.region [⟨(some 188), none, .move (.tmp 6)⟩, ⟨(some 189), none, .move (.tmp 24)⟩, ⟨(some 190), none, .move (.tmp 25)⟩, ⟨(some 191), none, .move (.tmp 26)⟩, ⟨(some 192), none, .convert 22 9 (.tmp 191)⟩, ⟨(some 193), none, .move (.tmp 27)⟩, ⟨(some 194), none, .convert 22 9 (.tmp 193)⟩, ⟨(some 195), none, .move (.tmp 24)⟩, ⟨(some 196), none, .binOp .add 9 (.tmp 195) (.const (.string ⟨#[120]⟩)) 9⟩, ⟨(some 197), none, .move (.tmp 25)⟩, ⟨(some 198), none, .binOp .add 9 (.tmp 197) (.const (.string ⟨#[120]⟩)) 9⟩, ⟨(some 199), none, .buildSlice 44 7 #[(0, .tmp 188), (1, .tmp 189), (2, .tmp 190), (3, .tmp 192), (4, .tmp 194), (5, .tmp 196), (6, .tmp 198)]⟩, ⟨(some 28), none, .assign (.tmp 199)⟩])) (G_law17_TableAll_27))))))))
def G_law17_TableAll_10 : GCode := .seq (.seq .weak (.region [⟨(some 83), none, .move (.tmp 0)⟩, ⟨(some 84), none, .call ⟨.value (.func 10), #[.tmp 83], #[22]⟩⟩, ⟨(some 20), none, .assign (.tmp 84)⟩])) (.seq (.seq .weak (.region [⟨(some 85), none, .move (.tmp 1)⟩, ⟨(some 86), none, .call ⟨.value (.func 11), #[.tmp 85], #[22]⟩⟩, ⟨(some 87), none, .move (.tmp 20)⟩, ⟨(some 88), none, .call ⟨.builtin .len, #[.tmp 87], #[23]⟩⟩, ⟨(some 89), none, .call ⟨.value (.func 12), #[.tmp 86, .tmp 88], #[38, 3]⟩⟩, ⟨(some 21), none, .assign (.tmp 89)⟩])) (.seq (.seq (.seq .weak (.region [⟨(some 22), none, .assign (.const (.int .i64 0))⟩])) (.block 2 (.loop (.seq .weak (.seq (.seq (.region [⟨(some 90), none, .move (.tmp 22)⟩, ⟨(some 91), none, .move (.tmp 21)⟩, ⟨(some 92), none, .call ⟨.builtin .len, #[.tmp 91], #[24]⟩⟩, ⟨(some 93), none, .binOp .lss 3 (.tmp 90) (.tmp 92) 3⟩]) (.cond (.tmp 93) (.skip) (.exit 2))) (.seq (.block 3 (.seq (.seq .weak (.region [⟨(some 96), none, .move (.tmp 21)⟩, ⟨(some 97), none, .move (.tmp 22)⟩, ⟨(some 98), none, .indexAddr 24 (.tmp 96) (.tmp 97)⟩, ⟨(some 99), none, .fieldAddr 29 (.tmp 98) 0⟩, ⟨(some 100), none, .load 3 (.tmp 99)⟩, ⟨(some 101), none, .binOp .eql 3 (.tmp 100) (.const (.int .i64 0)) 3⟩])) (.cond (.tmp 101) (.seq .weak (.region [⟨(some 102), none, .move (.tmp 21)⟩, ⟨(some 103), none, .move (.tmp 22)⟩, ⟨(some 104), none, .move (.tmp 22)⟩, ⟨(some 105), none, .binOp .add 3 (.const (.int .i64 30)) (.tmp 104) 3⟩, ⟨(some 106), none, .build 29 #[(0, .tmp 105), (1, .const (.int .i64 1))]⟩, ⟨(some 107), none, .indexAddr 24 (.tmp 102) (.tmp 103)⟩, ⟨none, none, .store 29 (.tmp 107) (.tmp 106)⟩])) (.skip)))) (.region [⟨(some 94), none, .move (.tmp 22)⟩, ⟨(some 95), none, .binOp .add 3 (.tmp 94) (.const (.int .i64 1)) 3⟩, ⟨(some 22), none, .assign (.tmp 95)⟩]))))))) (G_law17_TableAll_17)))
def G_law17_TableAll : GCode := .seq (.region [⟨(some 13), none, .box 31 (.tmp 4)⟩, ⟨(some 18), none, .assign (.const (.bool false))⟩]) (.seq (.seq (.seq .weak (.region [⟨(some 40), none, .call ⟨.value (.func 9), #[], #[]⟩⟩, ⟨(some 41), none, .unOp .not 4 (.tmp 40)⟩])) (.cond (.tmp 41) (.seq (.region [⟨(some 18), none, .assign (.const (.bool false))⟩]) (.ret)) (.skip))) (.seq (.seq (.region [⟨(some 42), none, .move (.tmp 0)⟩, ⟨(some 43), none, .call ⟨.builtin .len, #[.tmp 42], #[22]⟩⟩, ⟨(some 44), none, .binOp .gtr 3 (.tmp 43) (.const (.int .i64 24)) 3⟩, ⟨(some 45), none, .move (.tmp 44)⟩, ⟨(some 46), (some (45, false)), .move (.tmp 1)⟩, ⟨(some 47), (some (45, false)), .call ⟨.builtin .len, #[.tmp 46], #[22]⟩⟩, ⟨(some 48), (some (45, false)), .binOp .gtr 3 (.tmp 47) (.const (.int .i64 40)) 3⟩, ⟨(some 49), none, .pick (.tmp 45) (.const (.bool true)) (.tmp 48)⟩, ⟨(some 50), none, .move (.tmp 49)⟩, ⟨(some 51), (some (50, false)), .move (.tmp 2)⟩, ⟨(some 52), (some (50, false)), .call ⟨.builtin .len, #[.tmp 51], #[23]⟩⟩, ⟨(some 53), (some (50, false)), .binOp .gtr 3 (.tmp 52) (.const (.int .i64 9)) 3⟩, ⟨(some 54), none, .pick (.tmp 50) (.const (.bool true)) (.tmp 53)⟩, ⟨(some 55), none, .move (.tmp 54)⟩, ⟨(some 56), (some (55, false)), .move (.tmp 3)⟩, ⟨(some 57), (some (55, false)), .call ⟨.builtin .len, #[.tmp 56], #[24]⟩⟩, ⟨(some 58), (some (55, false)), .binOp .gtr 3 (.tmp 57) (.const (.int .i64 9)) 3⟩, ⟨(some 59), none, .pick (.tmp 55) (.const (.bool true)) (.tmp 58)⟩, ⟨(some 60), none, .move (.tmp 59)⟩, ⟨(some 61), (some (60, false)), .move (.tmp 5)⟩, ⟨(some 62), (some (60, false)), .call ⟨.builtin .len, #[.tmp 61], #[22]⟩⟩, ⟨(some 63), (some (60, false)), .binOp .gtr 3 (.tmp 62) (.const (.int .i64 20)) 3⟩, ⟨(some 64), none, .pick (.tmp 60) (.const (.bool true)) (.tmp 63)⟩, ⟨(some 65), none, .move (.tmp 64)⟩, ⟨(some 66), (some (65, false)), .move (.tmp 6)⟩, ⟨(some 67), (some (65, false)), .call ⟨.builtin .len, #[.tmp 66], #[9]⟩⟩, ⟨(some 68), (some (65, false)), .binOp .gtr 3 (.tmp 67) (.const (.int .i64 260)) 3⟩, ⟨(some 69), none, .pick (.tmp 65) (.const (.bool true)) (.tmp 68)⟩]) (.cond (.tmp 69) (.seq (.region [⟨(some 18), none, .assign (.const (.bool true))⟩]) (.ret)) (.skip))) (.seq (.seq (.seq .weak (.region [⟨(some 19), none, .assign (.const (.int .i64 0))⟩])) (.block 0 (.loop (.seq .weak (.seq (.seq (.region [⟨(some 70), none, .move (.tmp 19)⟩, ⟨(some 71), none, .move (.tmp 2)⟩, ⟨(some 72), none, .call ⟨.builtin .len, #[.tmp 71], #[23]⟩⟩, ⟨(some 73), none, .binOp .lss 3 (.tmp 70) (.tmp 72) 3⟩]) (.cond (.tmp 73) (.skip) (.exit 0))) (.seq (.block 1 (.seq (.seq .weak (.region [⟨(some 76), none, .move (.tmp 2)⟩, ⟨(some 77), none, .move (.tmp 19)⟩, ⟨(some 78), none, .indexAddr 23 (.tmp 76) (.tmp 77)⟩, ⟨(some 79), none, .fieldAddr 36 (.tmp 78) 4⟩, ⟨(some 80), none, .load 34 (.tmp 79)⟩, ⟨(some 81), none, .call ⟨.builtin .len, #[.tmp 80], #[34]⟩⟩, ⟨(some 82), none, .binOp .gtr 3 (.tmp 81) (.const (.int .i64 0)) 3⟩])) (.cond (.tmp 82) (.seq (.region [⟨(some 18), none, .assign (.const (.bool true))⟩]) (.ret)) (.skip)))) (.region [⟨(some 74), none, .move (.tmp 19)⟩, ⟨(some 75), none, .binOp .add 3 (.tmp 74) (.const (.int .i64 1)) 3⟩, ⟨(some 19), none, .assign (.tmp 75)⟩]))))))) (G_law17_TableAll_10))))
noncomputable def l_law17_TableAll : List (Nat × Con) := [(9, c_law17_begun), (10, c_law17_heads), (11, c_made_Made), (12, c_made_Picks_Ptrs), (13, c_table_Table), (14, c_ref16_PutTable), (15, c_made_Picks_Root), (16, c_table_Root), (17, c_ref16_PutRoot), (18, c_table_TakeTable), (19, c_ref16_TakeTable), (20, c_table_TakeRoot), (21, c_ref16_TakeRoot), (22, c_law17_same), (23, c_ref1_SamePtrs)]
noncomputable abbrev K_law17_TableAll : Ctx := ctx (cl l_law17_TableAll)
theorem geq_law17_TableAll : gof K_law17_TableAll Try.f3 = some G_law17_TableAll.strip := by kernel_rfl
theorem sys_law17_TableAll : Go.Eng.Sys Try.prog K_law17_TableAll := sys_of' ⟨ok_law17_begun, ok_law17_heads, ok_made_Made, ok_made_Picks_Ptrs, ok_table_Table, ok_ref16_PutTable, ok_made_Picks_Root, ok_table_Root, ok_ref16_PutRoot, ok_table_TakeTable, ok_ref16_TakeTable, ok_table_TakeRoot, ok_ref16_TakeRoot, ok_law17_same, ok_ref1_SamePtrs, trivial⟩
theorem hm_law17_TableAll : ConMono K_law17_TableAll := conMono_of sys_law17_TableAll.con
noncomputable def k_law17_TableAll_law17_begun := PLift.up (call_scal (C := K_law17_TableAll) (f := 9) (A := A_law17_begun) (p := p_law17_begun) (r := r_law17_begun) rfl)
noncomputable def k_law17_TableAll_law17_heads := PLift.up (call_fn (C := K_law17_TableAll) (f := 10) (A := A_law17_heads) (p := p_law17_heads) (r := r_law17_heads) rfl)
noncomputable def k_law17_TableAll_made_Made := PLift.up (call_new (C := K_law17_TableAll) (f := 11) (c := q_made_Made) (e := e_made_Made) (mk := mk_made_Made) rfl)
noncomputable def k_law17_TableAll_made_Picks_Ptrs := PLift.up (call_gen (C := K_law17_TableAll) (f := 12) (modes := m_made_Picks_Ptrs) (F := F_made_Picks_Ptrs) rfl)
noncomputable def k_law17_TableAll_table_Table := PLift.up (call_scal (C := K_law17_TableAll) (f := 13) (A := A_table_Table) (p := p_table_Table) (r := r_table_Table) rfl)
noncomputable def k_law17_TableAll_ref16_PutTable := PLift.up (call_scal (C := K_law17_TableAll) (f := 14) (A := A_ref16_PutTable) (p := p_ref16_PutTable) (r := r_ref16_PutTable) rfl)
noncomputable def k_law17_TableAll_made_Picks_Root := PLift.up (call_gen (C := K_law17_TableAll) (f := 15) (modes := m_made_Picks_Root) (F := F_made_Picks_Root) rfl)
noncomputable def k_law17_TableAll_table_Root := PLift.up (call_scal (C := K_law17_TableAll) (f := 16) (A := A_table_Root) (p := p_table_Root) (r := r_table_Root) rfl)
noncomputable def k_law17_TableAll_ref16_PutRoot := PLift.up (call_scal (C := K_law17_TableAll) (f := 17) (A := A_ref16_PutRoot) (p := p_ref16_PutRoot) (r := r_ref16_PutRoot) rfl)
noncomputable def k_law17_TableAll_table_TakeTable := PLift.up (call_fn (C := K_law17_TableAll) (f := 18) (A := A_table_TakeTable) (p := p_table_TakeTable) (r := r_table_TakeTable) rfl)
noncomputable def k_law17_TableAll_ref16_TakeTable := PLift.up (call_fn (C := K_law17_TableAll) (f := 19) (A := A_ref16_TakeTable) (p := p_ref16_TakeTable) (r := r_ref16_TakeTable) rfl)
noncomputable def k_law17_TableAll_table_TakeRoot := PLift.up (call_fn (C := K_law17_TableAll) (f := 20) (A := A_table_TakeRoot) (p := p_table_TakeRoot) (r := r_table_TakeRoot) rfl)
noncomputable def k_law17_TableAll_ref16_TakeRoot := PLift.up (call_fn (C := K_law17_TableAll) (f := 21) (A := A_ref16_TakeRoot) (p := p_ref16_TakeRoot) (r := r_ref16_TakeRoot) rfl)
noncomputable def k_law17_TableAll_law17_same := PLift.up (call_scal (C := K_law17_TableAll) (f := 22) (A := A_law17_same) (p := p_law17_same) (r := r_law17_same) rfl)
noncomputable def k_law17_TableAll_ref1_SamePtrs := PLift.up (call_scal (C := K_law17_TableAll) (f := 23) (A := A_ref1_SamePtrs) (p := p_ref1_SamePtrs) (r := r_ref1_SamePtrs) rfl)
set_option maxHeartbeats 4000000 in
theorem all_27 {W : List (List UInt8)} {T U : List UInt8} (hW : W.length = 7) (hw : ∀ w ∈ W, w.length ≤ 1000000) (hT : T.length ≤ 225) (hU : U.length = 82) {σ : St} (hσ : Wk σ (mkS [(24, .t (.str T)), (25, .t (.str U)), (28, .t (sl W))] .empty)) :
    avp K_law17_TableAll G_law17_TableAll_27 (Ret K_law17_TableAll [.tmp 18] fun v _ => v = .t (.bool true)) σ := by
  unfold G_law17_TableAll_27
  simp only [avp_seq]
  refine ⟨_, hσ, ?_⟩
  simp only [vP.down, vS.down, vE.down, qA, qB, qC, qD, qE, qF, qG, reduceIte, reduceCtorEq, qH, qI, qJ, ↓avp_condG, ↓tf_arrow, ↓ft_arrow]
  refine loop_weak hm_law17_TableAll (fun m σ => ∃ i : Nat, m = 7 - i ∧ i ≤ 7 ∧ σ = mkS [(24, .t (.str T)), (25, .t (.str U)), (28, .t (sl W)), (29, .t (.int .i64 (i : Nat)))] .empty) ⟨0, rfl, by omega, rfl⟩ (wk_to fewer_refl (by simp only [vP.down, vS.down, vE.down, qA, qB, qC, qD, qE, qF, qG, reduceIte, reduceCtorEq, qH, qI, qJ, ↓avp_condG, ↓tf_arrow, ↓ft_arrow, wP.down, Int.natCast_zero])) ?_
  rintro m _ ⟨i, rfl, hi, rfl⟩
  have hi1 : IntKind.i64.wrap ((i : Int) + 1) = ((i + 1 : Nat) : Int) := by rw [IntWalk.i64_in _ (by omega)]; rfl
  by_cases hlt : i < 7
  case neg =>
    obtain rfl : i = 7 := by omega
    have hge : ¬ ((7 : Int) < 7) := by omega
    have t1 : (T.length : Int) ≤ 249 := by omega
    have t2 : (U.length : Int) ≤ 249 := by omega
    simp only [vP.down, vS.down, vE.down, qA, qB, qC, qD, qE, qF, qG, reduceIte, reduceCtorEq, qH, qI, qJ, ↓avp_condG, ↓tf_arrow, ↓ft_arrow, hW, hge, show ((7 : Nat) : Int) = 7 from rfl]
    refine weak_at [(24, .t (.str T)), (25, .t (.str U))] .empty fewer_refl (by simp only [vP.down, vS.down, vE.down, qA, qB, qC, qD, qE, qF, qG, reduceIte, reduceCtorEq, qH, qI, qJ, ↓avp_condG, ↓tf_arrow, ↓ft_arrow, wP.down]) ?_
    simp only [vP.down, vS.down, vE.down, qA, qB, qC, qD, qE, qF, qG, reduceIte, reduceCtorEq, qH, qI, qJ, ↓avp_condG, ↓tf_arrow, ↓ft_arrow, t1, t2, pick_of, pick_ot]
    simp only [vP.down, vS.down, vE.down, qA, qB, qC, qD, qE, qF, qG, reduceIte, reduceCtorEq, qH, qI, qJ, ↓avp_condG, ↓tf_arrow, ↓ft_arrow, vT.down]
  have hlt' : (i : Int) < 7 := by omega
  have x0 := idx_at (C := K_law17_TableAll) (l := W) (i := i) ty_Lstring ty_string rfl (by omega) .i64
  have hq : (W.getD i default).length ≤ 1000000 := hw _ (by
    rw [List.getD_eq_getElem?_getD, List.getElem?_eq_getElem (by omega)]; exact List.getElem_mem _)
  obtain ⟨q, hq'⟩ : ∃ q, q = W.getD i default := ⟨_, rfl⟩
  rw [← hq'] at x0 hq
  have b2 := taken_noF (s := q)
  have b3 := tb_len (s := q)
  obtain ⟨X, hX⟩ : ∃ X, X = (takeTb q).1 := ⟨_, rfl⟩
  obtain ⟨Q, hQ⟩ : ∃ X, X = (takeTb q).2.1 := ⟨_, rfl⟩
  obtain ⟨o1, ho1⟩ : ∃ X, X = (takeTb q).2.2 := ⟨_, rfl⟩
  obtain ⟨Y, hY⟩ : ∃ X, X = (takeRt q).1 := ⟨_, rfl⟩
  obtain ⟨o2, ho2⟩ : ∃ X, X = (takeRt q).2 := ⟨_, rfl⟩
  rw [← hX] at b2
  rw [← hQ] at b3
  have pQ : Q.length < 4611686018427387904 := by omega
  simp only [vP.down, vS.down, vE.down, qA, qB, qC, qD, qE, qF, qG, reduceIte, reduceCtorEq, qH, qI, qJ, ↓avp_condG, ↓tf_arrow, ↓ft_arrow, hW, show ((7 : Nat) : Int) = 7 from rfl, hlt']
  refine weak_at [(24, .t (.str T)), (25, .t (.str U)), (28, .t (sl W)), (29, .t (.int .i64 (i : Nat)))] .empty fewer_refl (by simp only [vP.down, vS.down, vE.down, qA, qB, qC, qD, qE, qF, qG, reduceIte, reduceCtorEq, qH, qI, qJ, ↓avp_condG, ↓tf_arrow, ↓ft_arrow, wP.down]) ?_
  simp only [vP.down, vS.down, vE.down, qA, qB, qC, qD, qE, qF, qG, reduceIte, reduceCtorEq, qH, qI, qJ, ↓avp_condG, ↓tf_arrow, ↓ft_arrow, x0, hq, ← hX, ← hQ, ← ho1, k_law17_TableAll_table_TakeTable.down, A_table_TakeTable, p_table_TakeTable, r_table_TakeTable, k_law17_TableAll_ref16_TakeTable.down, A_ref16_TakeTable, p_ref16_TakeTable, r_ref16_TakeTable]
  refine weak_at [(24, .t (.str T)), (25, .t (.str U)), (28, .t (sl W)), (29, .t (.int .i64 (i : Nat))), (30, .t (sl X)), (31, .t (sl Q)), (32, .t (.bool o1))] .empty fewer_refl (by simp only [vP.down, vS.down, vE.down, qA, qB, qC, qD, qE, qF, qG, reduceIte, reduceCtorEq, qH, qI, qJ, ↓avp_condG, ↓tf_arrow, ↓ft_arrow, wP.down]) ?_
  simp only [vP.down, vS.down, vE.down, qA, qB, qC, qD, qE, qF, qG, reduceIte, reduceCtorEq, qH, qI, qJ, ↓avp_condG, ↓tf_arrow, ↓ft_arrow, x0, hq, ← hX, ← hQ, ← ho1, k_law17_TableAll_table_TakeTable.down, A_table_TakeTable, p_table_TakeTable, r_table_TakeTable, k_law17_TableAll_ref16_TakeTable.down, A_ref16_TakeTable, p_ref16_TakeTable, r_ref16_TakeTable]
  refine weak_at [(24, .t (.str T)), (25, .t (.str U)), (28, .t (sl W)), (29, .t (.int .i64 (i : Nat))), (30, .t (sl X)), (31, .t (sl Q)), (32, .t (.bool o1)), (33, .t (sl X)), (34, .t (sl Q)), (35, .t (.bool o1))] .empty fewer_refl (by simp only [vP.down, vS.down, vE.down, qA, qB, qC, qD, qE, qF, qG, reduceIte, reduceCtorEq, qH, qI, qJ, ↓avp_condG, ↓tf_arrow, ↓ft_arrow, wP.down]) ?_
  simp only [vP.down, vS.down, vE.down, qA, qB, qC, qD, qE, qF, qG, reduceIte, reduceCtorEq, qH, qI, qJ, ↓avp_condG, ↓tf_arrow, ↓ft_arrow, x0, hq, ← hY, ← ho2, rtC, ptC, List.cons_append, List.nil_append, k_law17_TableAll_table_TakeRoot.down, A_table_TakeRoot, p_table_TakeRoot, r_table_TakeRoot, k_law17_TableAll_ref16_TakeRoot.down, A_ref16_TakeRoot, p_ref16_TakeRoot, r_ref16_TakeRoot]
  intro g36 hg36
  refine weak_at [(24, .t (.str T)), (25, .t (.str U)), (28, .t (sl W)), (29, .t (.int .i64 (i : Nat))), (30, .t (sl X)), (31, .t (sl Q)), (32, .t (.bool o1)), (33, .t (sl X)), (34, .t (sl Q)), (35, .t (.bool o1)), (36, .imm (rtC Y)), (37, .t (.bool o2))] .empty fewer_empty (by
    simp only [vP.down, vS.down, vE.down, qA, qB, qC, qD, qE, qF, qG, reduceIte, reduceCtorEq, qH, qI, qJ, ↓avp_condG, ↓tf_arrow, ↓ft_arrow, wP.down, rtC, ptC, List.cons_append, List.nil_append]
    exact w2_imm (l := rtC Y) (ro := false) (Store.set_same _ _ _) rfl) ?_
  clear hg36
  simp only [vP.down, vS.down, vE.down, qA, qB, qC, qD, qE, qF, qG, reduceIte, reduceCtorEq, qH, qI, qJ, ↓avp_condG, ↓tf_arrow, ↓ft_arrow, x0, hq, ← hY, ← ho2, rtC, ptC, List.cons_append, List.nil_append, k_law17_TableAll_table_TakeRoot.down, A_table_TakeRoot, p_table_TakeRoot, r_table_TakeRoot, k_law17_TableAll_ref16_TakeRoot.down, A_ref16_TakeRoot, p_ref16_TakeRoot, r_ref16_TakeRoot]
  intro g38 hg38
  refine weak_at [(24, .t (.str T)), (25, .t (.str U)), (28, .t (sl W)), (29, .t (.int .i64 (i : Nat))), (30, .t (sl X)), (31, .t (sl Q)), (32, .t (.bool o1)), (33, .t (sl X)), (34, .t (sl Q)), (35, .t (.bool o1)), (36, .imm (rtC Y)), (37, .t (.bool o2)), (38, .imm (rtC Y)), (39, .t (.bool o2))] .empty fewer_empty (by
    simp only [vP.down, vS.down, vE.down, qA, qB, qC, qD, qE, qF, qG, reduceIte, reduceCtorEq, qH, qI, qJ, ↓avp_condG, ↓tf_arrow, ↓ft_arrow, wP.down, rtC, ptC, List.cons_append, List.nil_append]
    exact w2_imm (l := rtC Y) (ro := false) (Store.set_same _ _ _) rfl) ?_
  clear hg38
  simp only [vP.down, vS.down, vE.down, qA, qB, qC, qD, qE, qF, qG, reduceIte, reduceCtorEq, qH, qI, qJ, ↓avp_condG, ↓tf_arrow, ↓ft_arrow, b2, pQ, rtC, ptC, List.cons_append, List.nil_append, bne_self_eq_false, pick_of, pick_ot, false_implies, k_law17_TableAll_law17_same.down, A_law17_same, p_law17_same, r_law17_same, k_law17_TableAll_ref1_SamePtrs.down, A_ref1_SamePtrs, p_ref1_SamePtrs, r_ref1_SamePtrs]
  exact round_to (7 - (i + 1)) [(24, .t (.str T)), (25, .t (.str U)), (28, .t (sl W)), (29, .t (.int .i64 (i + 1 : Nat)))] .empty (by omega) fewer_refl (by simp only [vP.down, vS.down, vE.down, qA, qB, qC, qD, qE, qF, qG, reduceIte, reduceCtorEq, qH, qI, qJ, ↓avp_condG, ↓tf_arrow, ↓ft_arrow, wP.down, hi1]) ⟨i + 1, rfl, by omega, rfl⟩
set_option maxHeartbeats 4000000 in
theorem all_17 {h D : List TDset} {P Z : List TPtr} {m : List Byt} {f : List UInt8} {r0 : TRoot} (hto : tabOk h P = true) (lm : m.length ≤ 1000) (hf : f.length ≤ 260) {at_ by_ : UInt8} {σ : St}
    (hσ : Wk σ (mkS [(2, .t (sl D)), (3, .t (sl Z)), (5, .t (sl m)), (6, .t (.str f)), (7, .t (.int .u8 (at_.toNat : Int))), (8, .t (.int .u8 (by_.toNat : Int))), (13, .imm (rtC r0)), (20, .t (sl h)), (21, .t (sl P))] .empty)) :
    avp K_law17_TableAll G_law17_TableAll_17 (Ret K_law17_TableAll [.tmp 18] fun v _ => v = .t (.bool true)) σ := by
  unfold G_law17_TableAll_17
  simp only [avp_seq]
  refine ⟨_, hσ, ?_⟩
  simp only [vP.down, vS.down, vE.down, qA, qB, qC, qD, qE, qF, qG, reduceIte, reduceCtorEq, qH, qI, qJ, ↓avp_condG, ↓tf_arrow, ↓ft_arrow, bne_self_eq_false, pick_of, pick_ot, false_implies, k_law17_TableAll_table_Table.down, A_table_Table, p_table_Table, r_table_Table, k_law17_TableAll_ref16_PutTable.down, A_ref16_PutTable, p_ref16_PutTable, r_ref16_PutTable, k_law17_TableAll_made_Made.down, q_made_Made, e_made_Made, mk_made_Made, k_law17_TableAll_made_Picks_Root.down, m_made_Picks_Root]
  refine ⟨⟨m, rfl⟩, fun g1 hg1 => ⟨g1, m, rfl, pk_new hg1 (by omega), fun r S1 hr H1 => ?_⟩⟩
  simp only [vP.down, vS.down, vE.down, qA, qB, qC, qD, qE, qF, qG, reduceIte, reduceCtorEq, qH, qI, qJ, ↓avp_condG, ↓tf_arrow, ↓ft_arrow, rtC, ptC, List.cons_append, List.nil_append]
  intro g23 hg23
  refine weak_at [(6, .t (.str f)), (7, .t (.int .u8 (at_.toNat : Int))), (8, .t (.int .u8 (by_.toNat : Int))), (13, .imm (rtC r0)), (20, .t (sl h)), (21, .t (sl P)), (23, .imm (rtC r))] .empty fewer_empty (by
    simp only [vP.down, vS.down, vE.down, qA, qB, qC, qD, qE, qF, qG, reduceIte, reduceCtorEq, qH, qI, qJ, ↓avp_condG, ↓tf_arrow, ↓ft_arrow, wP.down, rtC, ptC, List.cons_append, List.nil_append]
    exact w2_imm (l := rtC r) (ro := false) (Store.set_same _ _ _) rfl) ?_
  clear hg23 H1 hg1
  simp only [vP.down, vS.down, vE.down, qA, qB, qC, qD, qE, qF, qG, reduceIte, reduceCtorEq, qH, qI, qJ, ↓avp_condG, ↓tf_arrow, ↓ft_arrow, rtC, ptC, List.cons_append, List.nil_append, dec_TRoot, bne_self_eq_false, pick_of, pick_ot, false_implies, k_law17_TableAll_table_Root.down, A_table_Root, p_table_Root, r_table_Root, k_law17_TableAll_ref16_PutRoot.down, A_ref16_PutRoot, p_ref16_PutRoot, r_ref16_PutRoot]
  refine weak_at [(6, .t (.str f)), (7, .t (.int .u8 (at_.toNat : Int))), (8, .t (.int .u8 (by_.toNat : Int))), (13, .imm (rtC r0)), (20, .t (sl h)), (21, .t (sl P)), (23, .imm (rtC r))] .empty fewer_refl (by simp only [vP.down, vS.down, vE.down, qA, qB, qC, qD, qE, qF, qG, reduceIte, reduceCtorEq, qH, qI, qJ, ↓avp_condG, ↓tf_arrow, ↓ft_arrow, wP.down, rtC, ptC, List.cons_append, List.nil_append]) ?_
  obtain ⟨rb, rl⟩ := rt_back hr
  have tl := tab225 hto
  obtain ⟨T, hT⟩ : ∃ B, B = tabB h P := ⟨_, rfl⟩
  obtain ⟨U, hU⟩ : ∃ B, B = rootB r := ⟨_, rfl⟩
  rw [← hT] at tl
  rw [← hU] at rl
  have c1 : T.length ≤ 140737488355328 := by omega
  have c2 : U.length ≤ 140737488355328 := by omega
  simp only [vP.down, vS.down, vE.down, qA, qB, qC, qD, qE, qF, qG, reduceIte, reduceCtorEq, qH, qI, qJ, ↓avp_condG, ↓tf_arrow, ↓ft_arrow, rtC, ptC, List.cons_append, List.nil_append, dec_TRoot, ← hT, ← hU, k_law17_TableAll_table_Table.down, A_table_Table, p_table_Table, r_table_Table, k_law17_TableAll_ref16_PutTable.down, A_ref16_PutTable, p_ref16_PutTable, r_ref16_PutTable, k_law17_TableAll_table_Root.down, A_table_Root, p_table_Root, r_table_Root, k_law17_TableAll_ref16_PutRoot.down, A_ref16_PutRoot, p_ref16_PutRoot, r_ref16_PutRoot]
  refine weak_at [(6, .t (.str f)), (7, .t (.int .u8 (at_.toNat : Int))), (8, .t (.int .u8 (by_.toNat : Int))), (24, .t (.str T)), (25, .t (.str U))] .empty fewer_refl (by simp only [vP.down, vS.down, vE.down, qA, qB, qC, qD, qE, qF, qG, reduceIte, reduceCtorEq, qH, qI, qJ, ↓avp_condG, ↓tf_arrow, ↓ft_arrow, wP.down]) ?_
  have z1 : ¬ ((T.length : Int) = 0) := by omega
  have z2 : ¬ ((U.length : Int) = 0) := by omega
  simp only [vP.down, vS.down, vE.down, qA, qB, qC, qD, qE, qF, qG, reduceIte, reduceCtorEq, qH, qI, qJ, ↓avp_condG, ↓tf_arrow, ↓ft_arrow, c1, c2]
  intro g26 hg26 g27 hg27
  have n1 := Store.ne_new hg27
  obtain ⟨i, hi⟩ : ∃ i, i = at_.toNat % T.length := ⟨_, rfl⟩
  obtain ⟨j, hj⟩ : ∃ j, j = at_.toNat % U.length := ⟨_, rfl⟩
  have il : i < T.length := hi ▸ Nat.mod_lt _ (by omega)
  have jl : j < U.length := hj ▸ Nat.mod_lt _ (by omega)
  have wat : IntKind.i64.wrap (at_.toNat : Int) = (at_.toNat : Int) := IntWalk.i64_in _ (by have := at_.toNat_lt; omega)
  have tmn : ∀ a b : Nat, (a : Int).tmod (b : Int) = ((a % b : Nat) : Int) := fun a b => by rw [Int.tmod_eq_emod_of_nonneg (by omega)]; rfl
  have hti : (at_.toNat : Int).tmod (T.length : Int) = (i : Int) := by rw [tmn, hi]
  have htj : (at_.toNat : Int).tmod (U.length : Int) = (j : Int) := by rw [tmn, hj]
  have w1 : IntKind.i64.wrap (i : Int) = (i : Int) := IntWalk.i64_in _ (by omega)
  have w2 : IntKind.i64.wrap (j : Int) = (j : Int) := IntWalk.i64_in _ (by omega)
  have l1 : ((T.map Byt.mk).map Cell.enc).length = T.length := by simp
  have l2 : ((U.map Byt.mk).map Cell.enc).length = U.length := by simp
  simp only [vP.down, vS.down, vE.down, qA, qB, qC, qD, qE, qF, qG, reduceIte, reduceCtorEq, qH, qI, qJ, ↓avp_condG, ↓tf_arrow, ↓ft_arrow, z1, z2, w1, w2, or_self, and_self, not_false_eq_true, true_implies, false_implies, wat, hti, htj, Int.toNat_natCast, set_f, n1, n1.symm, if_true, if_false, row_byt il, row_byt jl, turn_byt, l1, l2]
  refine ⟨⟨by omega, by omega⟩, il, ⟨by omega, by omega⟩, il, by simp, ⟨by omega, by omega⟩, jl, ⟨by omega, by omega⟩, jl, by simp, ?_⟩
  refine weak_at [(6, .t (.str f)), (24, .t (.str T)), (25, .t (.str U)), (26, .t (sl ((turnS T i by_).map Byt.mk))), (27, .t (sl ((turnS U j by_).map Byt.mk)))] .empty fewer_empty (by
    simp only [vP.down, vS.down, vE.down, qA, qB, qC, qD, qE, qF, qG, reduceIte, reduceCtorEq, qH, qI, qJ, ↓avp_condG, ↓tf_arrow, ↓ft_arrow, wP.down]
    refine ⟨?_, ?_⟩
    · refine LV.w2 (s' := Store.empty) (lv_at (α := Byt) (l := (turnS T i by_).map Byt.mk) (ro := false) (by rw [List.length_map, turnS_len]) ?_) (fun _ _ => rfl)
      simp only [set_f, n1, n1.symm, if_true, if_false]; rfl
    · refine LV.w2 (s' := Store.empty) (lv_at (α := Byt) (l := (turnS U j by_).map Byt.mk) (ro := false) (by rw [List.length_map, turnS_len]) ?_) (fun _ _ => rfl)
      simp only [set_f, n1, n1.symm, if_true, if_false]; rfl) ?_
  clear hg26 hg27 n1
  have k1 : (turnS T i by_).length = T.length := turnS_len
  have k2 : (turnS U j by_).length = U.length := turnS_len
  obtain ⟨V, hV⟩ : ∃ V, V = turnS T i by_ := ⟨_, rfl⟩
  obtain ⟨X, hX⟩ : ∃ V, V = turnS U j by_ := ⟨_, rfl⟩
  rw [← hV] at k1 ⊢
  rw [← hX] at k2 ⊢
  simp only [vP.down, vS.down, vE.down, qA, qB, qC, qD, qE, qF, qG, reduceIte, reduceCtorEq, qH, qI, qJ, ↓avp_condG, ↓tf_arrow, ↓ft_arrow, map_mk_v]
  refine ⟨by omega, by omega, fun g28 hg28 => ?_⟩
  refine all_27 (W := [f, T, U, V, X, T ++ [120], U ++ [120]]) (T := T) (U := U) rfl (fun w hw => ?_) tl.1 rl (wk_to fewer_empty (by
    simp only [vP.down, vS.down, vE.down, qA, qB, qC, qD, qE, qF, qG, reduceIte, reduceCtorEq, qH, qI, qJ, ↓avp_condG, ↓tf_arrow, ↓ft_arrow, wP.down]
    exact (lv_at (α := List UInt8) (l := [f, T, U, V, X, T ++ [120], U ++ [120]]) (ro := false) rfl (Store.set_same _ _ _)).w2 fun _ _ => rfl))
  simp only [List.mem_cons, List.not_mem_nil, or_false] at hw
  have e1 : (T ++ [120]).length = T.length + 1 := by rw [List.length_append]; rfl
  have e2 : (U ++ [120]).length = U.length + 1 := by rw [List.length_append]; rfl
  rcases hw with rfl | rfl | rfl | rfl | rfl | rfl | rfl <;> omega
set_option maxHeartbeats 4000000 in
theorem all_10 {D : List TDset} {Z : List TPtr} {l pk m : List Byt} {f : List UInt8} {r0 : TRoot} (ll : l.length ≤ 24) (lp : pk.length ≤ 40) (lm : m.length ≤ 20) (hf : f.length ≤ 260) {at_ by_ : UInt8} {σ : St}
    (hσ : Wk σ (mkS [(0, .t (sl l)), (1, .t (sl pk)), (2, .t (sl D)), (3, .t (sl Z)), (5, .t (sl m)), (6, .t (.str f)), (7, .t (.int .u8 (at_.toNat : Int))), (8, .t (.int .u8 (by_.toNat : Int))), (13, .imm (rtC r0))] .empty)) :
    avp K_law17_TableAll G_law17_TableAll_10 (Ret K_law17_TableAll [.tmp 18] fun v _ => v = .t (.bool true)) σ := by
  unfold G_law17_TableAll_10
  simp only [avp_seq]
  refine ⟨_, hσ, ?_⟩
  have pl : l.length ≤ 1000 := by omega
  simp only [vP.down, vS.down, vE.down, qA, qB, qC, qD, qE, qF, qG, reduceIte, reduceCtorEq, qH, qI, qJ, ↓avp_condG, ↓tf_arrow, ↓ft_arrow, pl, k_law17_TableAll_law17_heads.down, A_law17_heads, p_law17_heads, r_law17_heads]
  have hN := head_noF (l := l)
  have hlen := head_len (l := l)
  have hk8 : hdK l ≤ 8 := by unfold hdK; omega
  have hok := fun (p : List TPtr) => head_ok (l := l) (p := p)
  obtain ⟨h, hh⟩ : ∃ h, h = headL l := ⟨_, rfl⟩
  obtain ⟨K, hK⟩ : ∃ k, k = hdK l := ⟨_, rfl⟩
  rw [← hh] at hN hlen hok ⊢
  rw [← hK] at hlen hk8 hok
  refine weak_at [(2, .t (sl D)), (3, .t (sl Z)), (5, .t (sl m)), (6, .t (.str f)), (7, .t (.int .u8 (at_.toNat : Int))), (8, .t (.int .u8 (by_.toNat : Int))), (13, .imm (rtC r0)), (1, .t (sl pk)), (20, .t (sl h))] .empty fewer_refl (by simp only [vP.down, vS.down, vE.down, qA, qB, qC, qD, qE, qF, qG, reduceIte, reduceCtorEq, qH, qI, qJ, ↓avp_condG, ↓tf_arrow, ↓ft_arrow, wP.down]) ?_
  simp only [vP.down, vS.down, vE.down, qA, qB, qC, qD, qE, qF, qG, reduceIte, reduceCtorEq, qH, qI, qJ, ↓avp_condG, ↓tf_arrow, ↓ft_arrow, hlen, k_law17_TableAll_made_Made.down, q_made_Made, e_made_Made, mk_made_Made, k_law17_TableAll_made_Picks_Ptrs.down, m_made_Picks_Ptrs]
  refine ⟨⟨pk, rfl⟩, fun g1 hg1 => ⟨g1, pk, K, rfl, pk_new hg1 (by omega), by omega, fun v0 S0 L hv0 hLm hLl H1 _ => ?_⟩⟩
  clear H1 hg1
  refine weak_at [(2, .t (sl D)), (3, .t (sl Z)), (5, .t (sl m)), (6, .t (.str f)), (7, .t (.int .u8 (at_.toNat : Int))), (8, .t (.int .u8 (by_.toNat : Int))), (13, .imm (rtC r0)), (20, .t (sl h)), (21, v0)] S0 fewer_refl (by simp only [vP.down, vS.down, vE.down, qA, qB, qC, qD, qE, qF, qG, reduceIte, reduceCtorEq, qH, qI, qJ, ↓avp_condG, ↓tf_arrow, ↓ft_arrow, wP.down]) ?_
  simp only [vP.down, vS.down, vE.down, qA, qB, qC, qD, qE, qF, qG, reduceIte, reduceCtorEq, qH, qI, qJ, ↓avp_condG, ↓tf_arrow, ↓ft_arrow]
  refine loop_weak hm_law17_TableAll (fun mz σ => ∃ (i : Nat) (v : AV) (S : Store), mz = L.length - i ∧ i ≤ L.length ∧ OW S v (fixL L i) ∧ σ = mkS [(2, .t (sl D)), (3, .t (sl Z)), (5, .t (sl m)), (6, .t (.str f)), (7, .t (.int .u8 (at_.toNat : Int))), (8, .t (.int .u8 (by_.toNat : Int))), (13, .imm (rtC r0)), (20, .t (sl h)), (21, v), (22, .t (.int .i64 (i : Nat)))] S)
    ⟨0, v0, S0, rfl, by omega, hv0, rfl⟩ (wk_to fewer_refl (by simp only [vP.down, vS.down, vE.down, qA, qB, qC, qD, qE, qF, qG, reduceIte, reduceCtorEq, qH, qI, qJ, ↓avp_condG, ↓tf_arrow, ↓ft_arrow, wP.down, Int.natCast_zero])) ?_
  clear hv0
  rintro mz _ ⟨i, v, S, rfl, hi, hv, rfl⟩
  have hi1 : IntKind.i64.wrap ((i : Int) + 1) = ((i + 1 : Nat) : Int) := by rw [IntWalk.i64_in _ (by omega)]; rfl
  have hMl := fixL_len (L := L) i
  have hln := hv.lv.len (C := K_law17_TableAll) ty_Lapi_Ptr
  rw [hMl] at hln
  by_cases hlt : i < L.length
  case pos =>
    have hlt' : (i : Int) < (L.length : Int) := by omega
    have hst : fixL L (i + 1) = (fixL L i).set i (fix1 i ((fixL L i).getD i default)) := rfl
    rcases hv with ⟨_, h0⟩ | ⟨g, rfl, hr⟩
    · rw [h0] at hMl
      simp at hMl
      omega
    obtain ⟨M, hM⟩ : ∃ M, M = fixL L i := ⟨_, rfl⟩
    rw [← hM] at hr hMl hst hln ⊢
    have hrow := row_ptr (M := M) (i := i) (by omega)
    have hrl : (M.map Cell.enc).length = L.length := by rw [List.length_map, hMl]
    obtain ⟨q, hq⟩ : ∃ q, q = M.getD i default := ⟨_, rfl⟩
    rw [← hq] at hrow hst
    have hi0 : (0 : Int) ≤ (i : Int) := by omega
    simp only [vP.down, vS.down, vE.down, qA, qB, qC, qD, qE, qF, qG, reduceIte, reduceCtorEq, qH, qI, qJ, ↓avp_condG, ↓tf_arrow, ↓ft_arrow, hMl, hlt']
    refine weak_at [(2, .t (sl D)), (3, .t (sl Z)), (5, .t (sl m)), (6, .t (.str f)), (7, .t (.int .u8 (at_.toNat : Int))), (8, .t (.int .u8 (by_.toNat : Int))), (13, .imm (rtC r0)), (20, .t (sl h)), (21, .tok g 6 0 L.length), (22, .t (.int .i64 (i : Nat)))] S fewer_refl (by simp only [vP.down, vS.down, vE.down, qA, qB, qC, qD, qE, qF, qG, reduceIte, reduceCtorEq, qH, qI, qJ, ↓avp_condG, ↓tf_arrow, ↓ft_arrow, wP.down, hMl]) ?_
    by_cases h0 : q.Addr = 0
    · have e1 : fix1 i q = ⟨30 + (i : Int), 1, (0, 0, 0, 0)⟩ := by rw [fix1, if_pos h0]
      have hpt := fix_put (M := M) (i := i) (x := ⟨30 + (i : Int), 1, (0, 0, 0, 0)⟩) (by omega)
      rw [← e1, ← hst] at hpt
      have hpt' : putRow (M.map Cell.enc) i 0 [.int .i64 (30 + (i : Int)), .int .i64 1, .int .u32 0, .int .u32 0, .int .u32 0, .int .u32 0] = (fixL L (i + 1)).map Cell.enc := by rw [← hpt, e1]; rfl
      have w30 : IntKind.i64.wrap (30 + (i : Int)) = 30 + (i : Int) := IntWalk.i64_in _ (by omega)
      have hl1 := fixL_len (L := L) (i + 1)
      simp only [vP.down, vS.down, vE.down, qA, qB, qC, qD, qE, qF, qG, reduceIte, reduceCtorEq, qH, qI, qJ, ↓avp_condG, ↓tf_arrow, ↓ft_arrow, hr, hrow, hrl, hlt, hlt', hi0, ptC, h0, hMl]
      refine weak_at [(2, .t (sl D)), (3, .t (sl Z)), (5, .t (sl m)), (6, .t (.str f)), (7, .t (.int .u8 (at_.toNat : Int))), (8, .t (.int .u8 (by_.toNat : Int))), (13, .imm (rtC r0)), (20, .t (sl h)), (21, .tok g 6 0 L.length), (22, .t (.int .i64 (i : Nat)))] S fewer_refl (by simp only [vP.down, vS.down, vE.down, qA, qB, qC, qD, qE, qF, qG, reduceIte, reduceCtorEq, qH, qI, qJ, ↓avp_condG, ↓tf_arrow, ↓ft_arrow, wP.down]) ?_
      simp only [vP.down, vS.down, vE.down, qA, qB, qC, qD, qE, qF, qG, reduceIte, reduceCtorEq, qH, qI, qJ, ↓avp_condG, ↓tf_arrow, ↓ft_arrow, hr, hrow, hrl, hlt, hlt', hi0, ptC, w30, hpt', hMl]
      refine ⟨by simp, ?_⟩
      exact round_to (L.length - (i + 1)) [(2, .t (sl D)), (3, .t (sl Z)), (5, .t (sl m)), (6, .t (.str f)), (7, .t (.int .u8 (at_.toNat : Int))), (8, .t (.int .u8 (by_.toNat : Int))), (13, .imm (rtC r0)), (20, .t (sl h)), (21, .tok g 6 0 L.length), (22, .t (.int .i64 (i + 1 : Nat)))] (S.set g (some (.row 6 ((fixL L (i + 1)).map Cell.enc) false))) (by omega) fewer_refl (by simp only [vP.down, vS.down, vE.down, qA, qB, qC, qD, qE, qF, qG, reduceIte, reduceCtorEq, qH, qI, qJ, ↓avp_condG, ↓tf_arrow, ↓ft_arrow, wP.down, hi1]) ⟨i + 1, _, _, rfl, by omega, .inr ⟨g, by rw [hl1]; rfl, Store.set_same _ _ _⟩, rfl⟩
    · have e1 : fix1 i q = q := by rw [fix1, if_neg h0]
      have e2 : fixL L (i + 1) = M := by
        rw [hst, e1, hq]
        refine List.ext_getElem (by rw [List.length_set]) fun j h1 h2 => ?_
        rw [List.getElem_set]
        split
        · next hij => subst hij; rw [List.getD_eq_getElem?_getD, List.getElem?_eq_getElem h2]; rfl
        · rfl
      simp only [vP.down, vS.down, vE.down, qA, qB, qC, qD, qE, qF, qG, reduceIte, reduceCtorEq, qH, qI, qJ, ↓avp_condG, ↓tf_arrow, ↓ft_arrow, hr, hrow, hrl, hlt, hlt', hi0, ptC, h0, hMl]
      exact round_to (L.length - (i + 1)) [(2, .t (sl D)), (3, .t (sl Z)), (5, .t (sl m)), (6, .t (.str f)), (7, .t (.int .u8 (at_.toNat : Int))), (8, .t (.int .u8 (by_.toNat : Int))), (13, .imm (rtC r0)), (20, .t (sl h)), (21, .tok g 6 0 L.length), (22, .t (.int .i64 (i + 1 : Nat)))] S (by omega) fewer_refl (by simp only [vP.down, vS.down, vE.down, qA, qB, qC, qD, qE, qF, qG, reduceIte, reduceCtorEq, qH, qI, qJ, ↓avp_condG, ↓tf_arrow, ↓ft_arrow, wP.down, hi1]) ⟨i + 1, _, S, rfl, by omega, .inr ⟨g, by rw [fixL_len]; rfl, by rw [e2]; exact hr⟩, rfl⟩
  obtain rfl : i = L.length := by omega
  have hge : ¬ (L.length : Int) < (L.length : Int) := by omega
  have hpo := fixL_ok hLm (by omega)
  have hto := hok (fixL L L.length) (by rw [fixL_len, hLl]) hpo
  simp only [vP.down, vS.down, vE.down, qA, qB, qC, qD, qE, qF, qG, reduceIte, reduceCtorEq, qH, qI, qJ, ↓avp_condG, ↓tf_arrow, ↓ft_arrow, hln, hge]
  exact all_17 (m := m) (f := f) (r0 := r0) (D := D) (Z := Z) (at_ := at_) (by_ := by_) hto (by omega) (by omega) (wk_to fewer_empty (by
    simp only [vP.down, vS.down, vE.down, qA, qB, qC, qD, qE, qF, qG, reduceIte, reduceCtorEq, qH, qI, qJ, ↓avp_condG, ↓tf_arrow, ↓ft_arrow, wP.down, rtC, ptC, List.cons_append, List.nil_append]
    refine LV.w2 (s' := Store.empty) hv.lv ?_
    exact fun _ _ => rfl))
noncomputable def A_law17_TableAll : Arms ((List Byt) × (List Byt) × (List TDset) × (List TPtr) × TRoot × (List Byt) × (List UInt8) × Byt × Byt × Unit) := Arms.cons (argT (List Byt)) (Arms.cons (argT (List Byt)) (Arms.cons (argT (List TDset)) (Arms.cons (argT (List TPtr)) (Arms.cons (argA TRoot) (Arms.cons (argT (List Byt)) (Arms.cons (argT (List UInt8)) (Arms.cons (argT Byt) (Arms.cons (argT Byt) (Arms.nil)))))))))
def p_law17_TableAll (x : (List Byt) × (List Byt) × (List TDset) × (List TPtr) × TRoot × (List Byt) × (List UInt8) × Byt × Byt × Unit) : Prop := (goodList (fun x : Byt => goodAny x) x.1) ∧ (goodList (fun x : Byt => goodAny x) x.2.1) ∧ (goodList (fun x : TDset => (goodInt x.ID ∧ (goodInt x.Kind ∧ (goodInt x.Origin ∧ (goodInt x.Quota ∧ (goodList (fun x : TNode => (goodInt x.Kind ∧ (goodInt x.Up ∧ (goodStr x.Name ∧ (goodStr x.Body ∧ (goodInt x.Bad)))))) x.Files)))))) x.2.2.1) ∧ (goodList (fun x : TPtr => (goodInt x.Addr ∧ (goodInt x.Birth ∧ ((goodAny x.Sum.1 ∧ (goodAny x.Sum.2.1 ∧ (goodAny x.Sum.2.2.1 ∧ (goodAny x.Sum.2.2.2)))))))) x.2.2.2.1) ∧ ((goodInt x.2.2.2.2.1.Txg ∧ (goodInt x.2.2.2.2.1.Next ∧ (goodInt x.2.2.2.2.1.Guid ∧ ((goodInt x.2.2.2.2.1.Table.Addr ∧ (goodInt x.2.2.2.2.1.Table.Birth ∧ ((goodAny x.2.2.2.2.1.Table.Sum.1 ∧ (goodAny x.2.2.2.2.1.Table.Sum.2.1 ∧ (goodAny x.2.2.2.2.1.Table.Sum.2.2.1 ∧ (goodAny x.2.2.2.2.1.Table.Sum.2.2.2))))))) ∧ ((goodInt x.2.2.2.2.1.Space.Addr ∧ (goodInt x.2.2.2.2.1.Space.Birth ∧ ((goodAny x.2.2.2.2.1.Space.Sum.1 ∧ (goodAny x.2.2.2.2.1.Space.Sum.2.1 ∧ (goodAny x.2.2.2.2.1.Space.Sum.2.2.1 ∧ (goodAny x.2.2.2.2.1.Space.Sum.2.2.2))))))) ∧ ((goodInt x.2.2.2.2.1.Kept.Addr ∧ (goodInt x.2.2.2.2.1.Kept.Birth ∧ ((goodAny x.2.2.2.2.1.Kept.Sum.1 ∧ (goodAny x.2.2.2.2.1.Kept.Sum.2.1 ∧ (goodAny x.2.2.2.2.1.Kept.Sum.2.2.1 ∧ (goodAny x.2.2.2.2.1.Kept.Sum.2.2.2))))))) ∧ (goodInt x.2.2.2.2.1.KeptTxg)))))))) ∧ (goodList (fun x : Byt => goodAny x) x.2.2.2.2.2.1) ∧ (goodStr x.2.2.2.2.2.2.1) ∧ (goodAny x.2.2.2.2.2.2.2.1) ∧ (goodAny x.2.2.2.2.2.2.2.2.1) ∧ goodAny (x.2.2.2.2.2.2.2.2.2)
abbrev r_law17_TableAll (x : (List Byt) × (List Byt) × (List TDset) × (List TPtr) × TRoot × (List Byt) × (List UInt8) × Byt × Byt × Unit) : AV := rTrue x
theorem rd_law17_TableAll : ReadsA Try.prog [22, 22, 23, 24, 31, 22, 9, 5, 5] A_law17_TableAll p_law17_TableAll := (readsA_T (reads_list Try.underlying22 (reads_u8 Try.underlying5) (by kernel_rfl) (by decide)) (by kernel_rfl) (readsA_T (reads_list Try.underlying22 (reads_u8 Try.underlying5) (by kernel_rfl) (by decide)) (by kernel_rfl) (readsA_T (reads_list Try.underlying23 (reads_iso (h := fun _ => rfl) (h' := fun _ => rfl) (reads_struct Try.underlying36 (by kernel_rfl) (by kernel_rfl) (readsL_cons (reads_int Try.underlying3) (by kernel_rfl) (readsL_cons (reads_int Try.underlying3) (by kernel_rfl) (readsL_cons (reads_int Try.underlying3) (by kernel_rfl) (readsL_cons (reads_int Try.underlying3) (by kernel_rfl) (readsL_one (reads_list Try.underlying34 (reads_iso (h := fun _ => rfl) (h' := fun _ => rfl) (reads_struct Try.underlying123 (by kernel_rfl) (by kernel_rfl) (readsL_cons (reads_int Try.underlying3) (by kernel_rfl) (readsL_cons (reads_int Try.underlying3) (by kernel_rfl) (readsL_cons (reads_str Try.underlying9) (by kernel_rfl) (readsL_cons (reads_str Try.underlying9) (by kernel_rfl) (readsL_one (reads_int Try.underlying3) (by kernel_rfl)))))))) (by kernel_rfl) (by decide)) (by kernel_rfl)))))))) (by kernel_rfl) (by decide)) (by kernel_rfl) (readsA_T (reads_list Try.underlying24 (reads_iso (h := fun _ => rfl) (h' := fun _ => rfl) (reads_struct Try.underlying29 (by kernel_rfl) (by kernel_rfl) (readsL_cons (reads_int Try.underlying3) (by kernel_rfl) (readsL_cons (reads_int Try.underlying3) (by kernel_rfl) (readsL_one (reads_arr Try.underlying27 (by kernel_rfl) (readsL_cons (reads_u32 Try.underlying25) (by kernel_rfl) (readsL_cons (reads_u32 Try.underlying25) (by kernel_rfl) (readsL_cons (reads_u32 Try.underlying25) (by kernel_rfl) (readsL_one (reads_u32 Try.underlying25) (by kernel_rfl)))))) (by kernel_rfl)))))) (by kernel_rfl) (by decide)) (by kernel_rfl) (readsA_A (reads_iso (h := fun _ => rfl) (h' := fun _ => rfl) (reads_struct Try.underlying31 (by kernel_rfl) (by kernel_rfl) (readsL_cons (reads_int Try.underlying3) (by kernel_rfl) (readsL_cons (reads_int Try.underlying3) (by kernel_rfl) (readsL_cons (reads_int Try.underlying3) (by kernel_rfl) (readsL_cons (reads_iso (h := fun _ => rfl) (h' := fun _ => rfl) (reads_struct Try.underlying29 (by kernel_rfl) (by kernel_rfl) (readsL_cons (reads_int Try.underlying3) (by kernel_rfl) (readsL_cons (reads_int Try.underlying3) (by kernel_rfl) (readsL_one (reads_arr Try.underlying27 (by kernel_rfl) (readsL_cons (reads_u32 Try.underlying25) (by kernel_rfl) (readsL_cons (reads_u32 Try.underlying25) (by kernel_rfl) (readsL_cons (reads_u32 Try.underlying25) (by kernel_rfl) (readsL_one (reads_u32 Try.underlying25) (by kernel_rfl)))))) (by kernel_rfl)))))) (by kernel_rfl) (readsL_cons (reads_iso (h := fun _ => rfl) (h' := fun _ => rfl) (reads_struct Try.underlying29 (by kernel_rfl) (by kernel_rfl) (readsL_cons (reads_int Try.underlying3) (by kernel_rfl) (readsL_cons (reads_int Try.underlying3) (by kernel_rfl) (readsL_one (reads_arr Try.underlying27 (by kernel_rfl) (readsL_cons (reads_u32 Try.underlying25) (by kernel_rfl) (readsL_cons (reads_u32 Try.underlying25) (by kernel_rfl) (readsL_cons (reads_u32 Try.underlying25) (by kernel_rfl) (readsL_one (reads_u32 Try.underlying25) (by kernel_rfl)))))) (by kernel_rfl)))))) (by kernel_rfl) (readsL_cons (reads_iso (h := fun _ => rfl) (h' := fun _ => rfl) (reads_struct Try.underlying29 (by kernel_rfl) (by kernel_rfl) (readsL_cons (reads_int Try.underlying3) (by kernel_rfl) (readsL_cons (reads_int Try.underlying3) (by kernel_rfl) (readsL_one (reads_arr Try.underlying27 (by kernel_rfl) (readsL_cons (reads_u32 Try.underlying25) (by kernel_rfl) (readsL_cons (reads_u32 Try.underlying25) (by kernel_rfl) (readsL_cons (reads_u32 Try.underlying25) (by kernel_rfl) (readsL_one (reads_u32 Try.underlying25) (by kernel_rfl)))))) (by kernel_rfl)))))) (by kernel_rfl) (readsL_one (reads_int Try.underlying3) (by kernel_rfl)))))))))) (by kernel_rfl) (readsA_T (reads_list Try.underlying22 (reads_u8 Try.underlying5) (by kernel_rfl) (by decide)) (by kernel_rfl) (readsA_T (reads_str Try.underlying9) (by kernel_rfl) (readsA_T (reads_u8 Try.underlying5) (by kernel_rfl) (readsA_T (reads_u8 Try.underlying5) (by kernel_rfl) readsA_nil)))))))))
set_option maxHeartbeats 4000000 in
theorem body_law17_TableAll (x) (hx : p_law17_TableAll x) : avp K_law17_TableAll G_law17_TableAll (Ret K_law17_TableAll [.tmp 18] fun v _ => v = r_law17_TableAll x) (entry (A_law17_TableAll.enc x) .empty) := by
  obtain ⟨l, pk, D, Z, r0, m, f, ⟨at_⟩, ⟨by_⟩, ⟨⟩⟩ := x
  change avp _ _ (Ret _ _ fun v _ => v = .t (.bool true)) (entry [.t (sl l), .t (sl pk), .t (sl D), .t (sl Z), .agg ((rtC r0).map .t), .t (sl m), .t (.str f), .t (.int .u8 (at_.toNat : Int)), .t (.int .u8 (by_.toNat : Int))] .empty)
  unfold G_law17_TableAll
  simp only [vP.down, vS.down, vE.down, qA, qB, qC, qD, qE, qF, qG, reduceIte, reduceCtorEq, qH, qI, qJ, ↓avp_condG, ↓tf_arrow, ↓ft_arrow, rtC, ptC, List.cons_append, List.nil_append]
  intro g13 hg13
  refine weak_at [(0, .t (sl l)), (1, .t (sl pk)), (2, .t (sl D)), (3, .t (sl Z)), (5, .t (sl m)), (6, .t (.str f)), (7, .t (.int .u8 (at_.toNat : Int))), (8, .t (.int .u8 (by_.toNat : Int))), (13, .imm (rtC r0))] .empty fewer_empty (by
    simp only [vP.down, vS.down, vE.down, qA, qB, qC, qD, qE, qF, qG, reduceIte, reduceCtorEq, qH, qI, qJ, ↓avp_condG, ↓tf_arrow, ↓ft_arrow, wP.down]
    exact w2_imm (l := rtC r0) (ro := false) (Store.set_same _ _ _) rfl) ?_
  clear hg13
  by_cases c1 : (24 : Int) < (l.length : Int)
  · simp only [vP.down, vS.down, vE.down, qA, qB, qC, qD, qE, qF, qG, reduceIte, reduceCtorEq, qH, qI, qJ, ↓avp_condG, ↓tf_arrow, ↓ft_arrow, k_law17_TableAll_law17_begun.down, A_law17_begun, p_law17_begun, r_law17_begun, c1, gt_iff_lt, pick_of, pick_ot]
    simp only [vP.down, vS.down, vE.down, qA, qB, qC, qD, qE, qF, qG, reduceIte, reduceCtorEq, qH, qI, qJ, ↓avp_condG, ↓tf_arrow, ↓ft_arrow, vT.down]
  by_cases c2 : (40 : Int) < (pk.length : Int)
  · simp only [vP.down, vS.down, vE.down, qA, qB, qC, qD, qE, qF, qG, reduceIte, reduceCtorEq, qH, qI, qJ, ↓avp_condG, ↓tf_arrow, ↓ft_arrow, k_law17_TableAll_law17_begun.down, A_law17_begun, p_law17_begun, r_law17_begun, c1, c2, gt_iff_lt, pick_of, pick_ot]
    simp only [vP.down, vS.down, vE.down, qA, qB, qC, qD, qE, qF, qG, reduceIte, reduceCtorEq, qH, qI, qJ, ↓avp_condG, ↓tf_arrow, ↓ft_arrow, vT.down]
  by_cases c3 : (9 : Int) < (D.length : Int)
  · simp only [vP.down, vS.down, vE.down, qA, qB, qC, qD, qE, qF, qG, reduceIte, reduceCtorEq, qH, qI, qJ, ↓avp_condG, ↓tf_arrow, ↓ft_arrow, k_law17_TableAll_law17_begun.down, A_law17_begun, p_law17_begun, r_law17_begun, c1, c2, c3, gt_iff_lt, pick_of, pick_ot]
    simp only [vP.down, vS.down, vE.down, qA, qB, qC, qD, qE, qF, qG, reduceIte, reduceCtorEq, qH, qI, qJ, ↓avp_condG, ↓tf_arrow, ↓ft_arrow, vT.down]
  by_cases c4 : (9 : Int) < (Z.length : Int)
  · simp only [vP.down, vS.down, vE.down, qA, qB, qC, qD, qE, qF, qG, reduceIte, reduceCtorEq, qH, qI, qJ, ↓avp_condG, ↓tf_arrow, ↓ft_arrow, k_law17_TableAll_law17_begun.down, A_law17_begun, p_law17_begun, r_law17_begun, c1, c2, c3, c4, gt_iff_lt, pick_of, pick_ot]
    simp only [vP.down, vS.down, vE.down, qA, qB, qC, qD, qE, qF, qG, reduceIte, reduceCtorEq, qH, qI, qJ, ↓avp_condG, ↓tf_arrow, ↓ft_arrow, vT.down]
  by_cases c5 : (20 : Int) < (m.length : Int)
  · simp only [vP.down, vS.down, vE.down, qA, qB, qC, qD, qE, qF, qG, reduceIte, reduceCtorEq, qH, qI, qJ, ↓avp_condG, ↓tf_arrow, ↓ft_arrow, k_law17_TableAll_law17_begun.down, A_law17_begun, p_law17_begun, r_law17_begun, c1, c2, c3, c4, c5, gt_iff_lt, pick_of, pick_ot]
    simp only [vP.down, vS.down, vE.down, qA, qB, qC, qD, qE, qF, qG, reduceIte, reduceCtorEq, qH, qI, qJ, ↓avp_condG, ↓tf_arrow, ↓ft_arrow, vT.down]
  by_cases c6 : (260 : Int) < (f.length : Int)
  · simp only [vP.down, vS.down, vE.down, qA, qB, qC, qD, qE, qF, qG, reduceIte, reduceCtorEq, qH, qI, qJ, ↓avp_condG, ↓tf_arrow, ↓ft_arrow, k_law17_TableAll_law17_begun.down, A_law17_begun, p_law17_begun, r_law17_begun, c1, c2, c3, c4, c5, c6, gt_iff_lt, pick_of, pick_ot]
    simp only [vP.down, vS.down, vE.down, qA, qB, qC, qD, qE, qF, qG, reduceIte, reduceCtorEq, qH, qI, qJ, ↓avp_condG, ↓tf_arrow, ↓ft_arrow, vT.down]
  simp only [vP.down, vS.down, vE.down, qA, qB, qC, qD, qE, qF, qG, reduceIte, reduceCtorEq, qH, qI, qJ, ↓avp_condG, ↓tf_arrow, ↓ft_arrow, k_law17_TableAll_law17_begun.down, A_law17_begun, p_law17_begun, r_law17_begun, c1, c2, c3, c4, c5, c6, gt_iff_lt, pick_of, pick_ot]
  refine weak_at [(0, .t (sl l)), (1, .t (sl pk)), (2, .t (sl D)), (3, .t (sl Z)), (5, .t (sl m)), (6, .t (.str f)), (7, .t (.int .u8 (at_.toNat : Int))), (8, .t (.int .u8 (by_.toNat : Int))), (13, .imm (rtC r0))] .empty fewer_refl (by simp only [vP.down, vS.down, vE.down, qA, qB, qC, qD, qE, qF, qG, reduceIte, reduceCtorEq, qH, qI, qJ, ↓avp_condG, ↓tf_arrow, ↓ft_arrow, wP.down, rtC, ptC, List.cons_append, List.nil_append]) ?_
  have lD : D.length ≤ 9 := by omega
  simp only [vP.down, vS.down, vE.down, qA, qB, qC, qD, qE, qF, qG, reduceIte, reduceCtorEq, qH, qI, qJ, ↓avp_condG, ↓tf_arrow, ↓ft_arrow]
  refine loop_weak hm_law17_TableAll (fun mz σ => ∃ i : Nat, mz = D.length - i ∧ i ≤ D.length ∧ σ = mkS [(0, .t (sl l)), (1, .t (sl pk)), (2, .t (sl D)), (3, .t (sl Z)), (5, .t (sl m)), (6, .t (.str f)), (7, .t (.int .u8 (at_.toNat : Int))), (8, .t (.int .u8 (by_.toNat : Int))), (13, .imm (rtC r0)), (19, .t (.int .i64 (i : Nat)))] .empty) ⟨0, rfl, by omega, rfl⟩ (wk_to fewer_refl (by simp only [vP.down, vS.down, vE.down, qA, qB, qC, qD, qE, qF, qG, reduceIte, reduceCtorEq, qH, qI, qJ, ↓avp_condG, ↓tf_arrow, ↓ft_arrow, wP.down, Int.natCast_zero, rtC, ptC, List.cons_append, List.nil_append])) ?_
  rintro mz _ ⟨i, rfl, hi, rfl⟩
  have hi1 : IntKind.i64.wrap ((i : Int) + 1) = ((i + 1 : Nat) : Int) := by rw [IntWalk.i64_in _ (by omega)]; rfl
  by_cases hlt : i < D.length
  case neg =>
    obtain rfl : i = D.length := by omega
    have hge : ¬ ((D.length : Int) < (D.length : Int)) := by omega
    simp only [vP.down, vS.down, vE.down, qA, qB, qC, qD, qE, qF, qG, reduceIte, reduceCtorEq, qH, qI, qJ, ↓avp_condG, ↓tf_arrow, ↓ft_arrow, hge]
    exact all_10 (D := D) (Z := Z) (l := l) (pk := pk) (m := m) (f := f) (r0 := r0) (at_ := at_) (by_ := by_) (by omega) (by omega) (by omega) (by omega) (wk_to fewer_refl (by simp only [vP.down, vS.down, vE.down, qA, qB, qC, qD, qE, qF, qG, reduceIte, reduceCtorEq, qH, qI, qJ, ↓avp_condG, ↓tf_arrow, ↓ft_arrow, wP.down, rtC, ptC, List.cons_append, List.nil_append]))
  have hlt' : (i : Int) < (D.length : Int) := by omega
  have x0 := idx_at (C := K_law17_TableAll) (l := D) (i := i) ty_Lapi_Dset ty_api_Dset rfl hlt .i64
  obtain ⟨q, hq⟩ : ∃ q, q = D.getD i default := ⟨_, rfl⟩
  rw [← hq] at x0
  have hc : (Cell.enc q : List TV) = dsC q := rfl
  rw [hc] at x0
  simp only [vP.down, vS.down, vE.down, qA, qB, qC, qD, qE, qF, qG, reduceIte, reduceCtorEq, qH, qI, qJ, ↓avp_condG, ↓tf_arrow, ↓ft_arrow, hlt']
  refine weak_at [(0, .t (sl l)), (1, .t (sl pk)), (2, .t (sl D)), (3, .t (sl Z)), (5, .t (sl m)), (6, .t (.str f)), (7, .t (.int .u8 (at_.toNat : Int))), (8, .t (.int .u8 (by_.toNat : Int))), (13, .imm (rtC r0)), (19, .t (.int .i64 (i : Nat)))] .empty fewer_refl (by simp only [vP.down, vS.down, vE.down, qA, qB, qC, qD, qE, qF, qG, reduceIte, reduceCtorEq, qH, qI, qJ, ↓avp_condG, ↓tf_arrow, ↓ft_arrow, wP.down, rtC, ptC, List.cons_append, List.nil_append]) ?_
  simp only [vP.down, vS.down, vE.down, qA, qB, qC, qD, qE, qF, qG, reduceIte, reduceCtorEq, qH, qI, qJ, ↓avp_condG, ↓tf_arrow, ↓ft_arrow, x0, dsC, gt_iff_lt, hlt']
  refine ⟨fun _ => ?_, fun _ => ?_⟩
  · simp only [vP.down, vS.down, vE.down, qA, qB, qC, qD, qE, qF, qG, reduceIte, reduceCtorEq, qH, qI, qJ, ↓avp_condG, ↓tf_arrow, ↓ft_arrow, vT.down]
  · exact round_to (D.length - (i + 1)) [(0, .t (sl l)), (1, .t (sl pk)), (2, .t (sl D)), (3, .t (sl Z)), (5, .t (sl m)), (6, .t (.str f)), (7, .t (.int .u8 (at_.toNat : Int))), (8, .t (.int .u8 (by_.toNat : Int))), (13, .imm (rtC r0)), (19, .t (.int .i64 (i + 1 : Nat)))] .empty (by omega) fewer_refl (by simp only [vP.down, vS.down, vE.down, qA, qB, qC, qD, qE, qF, qG, reduceIte, reduceCtorEq, qH, qI, qJ, ↓avp_condG, ↓tf_arrow, ↓ft_arrow, wP.down, hi1, rtC, ptC, List.cons_append, List.nil_append]) ⟨i + 1, rfl, by omega, rfl⟩
noncomputable def c_law17_TableAll : Con := fnScal A_law17_TableAll p_law17_TableAll r_law17_TableAll
theorem ok_law17_TableAll : COk Try.prog 3 c_law17_TableAll := fn_sok sys_law17_TableAll mixed Try.func3 (by kernel_rfl) geq_law17_TableAll Try.ntmps3 (by rw [Try.results3]) (fun x => by simp [rTrue, AV.scal]) fun x hx => ⟨Nat.le_of_ble_eq_true rfl, body_law17_TableAll x hx⟩
theorem says_law17_TableAll : SaysTrue Rows.tableAllSpec 9 := ⟨rfl, fun H ds h => by
  match ds, h with
  | [d0, d1, d2, d3, d4, d5, d6, d7, d8], _ => exact ⟨rfl, rfl, rfl⟩⟩
set_option maxRecDepth 100000 in
theorem lifted_law17_TableAll (os : Os) (started : os.Started) (H : Type) (enc : TypeId × Value → H) :
    ReturnsInHanded {} Try.checked os 3 .any (Rows.tableAllSpec.pre6 enc Try.prog Try.f3 Rows.tableAllRow.domain false) (Rows.tableAllSpec.post enc Try.prog Try.f3 false true false false) := by
  refine returnsInHanded_of_change (C := Try.checked) own started (by kernel_rfl) Try.func3
    (ChangeSpec.witness6 (enc := enc) (C := Try.checked) false ⟨#[], #[.slice none 0 0, .slice none 0 0, .slice none 0 0, .slice none 0 0, .agg #[.int .i64 0, .int .i64 0, .int .i64 0, .int .i64 0, .int .i64 0, .int .u32 0, .int .u32 0, .int .u32 0, .int .u32 0, .int .i64 0, .int .i64 0, .int .u32 0, .int .u32 0, .int .u32 0, .int .u32 0, .int .i64 0, .int .i64 0, .int .u32 0, .int .u32 0, .int .u32 0, .int .u32 0, .int .i64 0], .slice none 0 0, .string ⟨#[]⟩, .int .u8 0, .int .u8 0], []⟩ 8 (by kernel_rfl) (by kernel_rfl) (by kernel_rfl) (by kernel_rfl)) ?_
  intro W base args ds gs before hval hW _ _
  exact law_contract (ts := [22, 22, 23, 24, 31, 22, 9, 5, 5]) (tb := 4) ok_law17_TableAll (by rw [Try.params3]) (by kernel_rfl) Try.underlying4 laid (by kernel_rfl) rd_law17_TableAll (fun _ h => h) says_law17_TableAll H enc W base args ds gs before hval hW
theorem over_law17_TableAll : Rows.tableAllRow.holds Try.pinned (OpenSpec.ofChange Rows.tableAllSpec) :=
  OpenClaim.holds_of_wide 3 Try.f3 rfl rfl rfl rfl rfl rfl rfl ⟨rfl, rfl, rfl, rfl, rfl⟩ rfl rfl rfl rfl rfl (by kernel_rfl) Try.func3 (by kernel_rfl)
    (of_decide_eq_true (by kernel_rfl)) (by unfold Func.isWrapper; first | (rw [if_pos (by decide +kernel)]; kernel_rfl) | (rw [if_neg (by decide +kernel)]; exact ⟨rfl, rfl⟩))
    (fun os started H enc _ => lifted_law17_TableAll os started H enc)
theorem tableAll_holds : Rows.TableAllSaid := over_law17_TableAll
end Go.Proofs.Ytofcmdkmhbbbjaa
