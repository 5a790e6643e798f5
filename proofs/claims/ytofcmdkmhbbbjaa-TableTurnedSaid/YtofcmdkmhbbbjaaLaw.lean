/-
  TableTurned.
-/
import Derived.Test.YtofcmdkmhbbbjaaFnsI
set_option linter.unusedSimpArgs false
set_option linter.unusedVariables false
set_option maxRecDepth 100000
namespace Go.Proofs.Ytofcmdkmhbbbjaa
open Go Go.Eng
theorem dec_TRoot {x y : TRoot} : (decide (x.Txg = y.Txg) && (decide (x.Next = y.Next) && (decide (x.Guid = y.Guid) && (decide (x.Table.Addr = y.Table.Addr) && (decide (x.Table.Birth = y.Table.Birth) && (decide ((x.Table.Sum.1.toNat : Int) = (y.Table.Sum.1.toNat : Int)) && (decide ((x.Table.Sum.2.1.toNat : Int) = (y.Table.Sum.2.1.toNat : Int)) && (decide ((x.Table.Sum.2.2.1.toNat : Int) = (y.Table.Sum.2.2.1.toNat : Int)) && (decide ((x.Table.Sum.2.2.2.toNat : Int) = (y.Table.Sum.2.2.2.toNat : Int)) && (decide (x.Space.Addr = y.Space.Addr) && (decide (x.Space.Birth = y.Space.Birth) && (decide ((x.Space.Sum.1.toNat : Int) = (y.Space.Sum.1.toNat : Int)) && (decide ((x.Space.Sum.2.1.toNat : Int) = (y.Space.Sum.2.1.toNat : Int)) && (decide ((x.Space.Sum.2.2.1.toNat : Int) = (y.Space.Sum.2.2.1.toNat : Int)) && (decide ((x.Space.Sum.2.2.2.toNat : Int) = (y.Space.Sum.2.2.2.toNat : Int)) && (decide (x.Kept.Addr = y.Kept.Addr) && (decide (x.Kept.Birth = y.Kept.Birth) && (decide ((x.Kept.Sum.1.toNat : Int) = (y.Kept.Sum.1.toNat : Int)) && (decide ((x.Kept.Sum.2.1.toNat : Int) = (y.Kept.Sum.2.1.toNat : Int)) && (decide ((x.Kept.Sum.2.2.1.toNat : Int) = (y.Kept.Sum.2.2.1.toNat : Int)) && (decide ((x.Kept.Sum.2.2.2.toNat : Int) = (y.Kept.Sum.2.2.2.toNat : Int)) && (decide (x.KeptTxg = y.KeptTxg))))))))))))))))))))))) = decide (x = y) := by
  first | (cases x; cases y; simp [← UInt32.toNat_inj, Int.ofNat_inj, Prod.ext_iff, and_assoc]; done) | (cases x; cases y; simp only [dec_TNode, dec_TPtr]; simp; done) | (rcases x with ⟨_, _, _, ⟨_, _, _⟩, ⟨_, _, _⟩, ⟨_, _, _⟩, _⟩; rcases y with ⟨_, _, _, ⟨_, _, _⟩, ⟨_, _, _⟩, ⟨_, _, _⟩, _⟩; simp [← UInt32.toNat_inj, Int.ofNat_inj, Prod.ext_iff, and_assoc])
end Go.Proofs.Ytofcmdkmhbbbjaa
namespace Go.Proofs.Ytofcmdkmhbbbjaa
open Go Go.Eng
theorem gl0 : lenS ⟨[], [], [], []⟩ := by unfold lenS; decide
end Go.Proofs.Ytofcmdkmhbbbjaa
namespace Go.Proofs.Ytofcmdkmhbbbjaa
open Go Go.Eng
theorem dsT_len {s : List UInt8} {i : Nat} : (dsT s i).length = i := by simp [dsT]
end Go.Proofs.Ytofcmdkmhbbbjaa
namespace Go.Proofs.Ytofcmdkmhbbbjaa
open Go Go.Eng
set_option maxRecDepth 100000
/-- A text of which one byte is turned. -/
def turnS (s : List UInt8) (i : Nat) (b : UInt8) : List UInt8 := s.set i (s.getD i 0 ^^^ b)
theorem turnS_len {s : List UInt8} {i : Nat} {b : UInt8} : (turnS s i b).length = s.length := by simp [turnS]
theorem turnS_ne {s : List UInt8} {i : Nat} {b : UInt8} (hi : i < s.length) (hb : b ≠ 0) : turnS s i b ≠ s := by
  intro h
  have h1 := congrArg (fun l => l.getD i 0) h
  simp only [turnS, List.getD_eq_getElem?_getD, List.getElem?_set_self hi, Option.getD_some] at h1
  refine hb ?_
  have h2 := congrArg (fun c => (s[i]?.getD 0) ^^^ c) h1
  simp only [← UInt8.xor_assoc, UInt8.xor_self, UInt8.zero_xor] at h2
  exact h2
theorem turn_byt {s : List UInt8} {i : Nat} {b : UInt8} : (s.map Byt.mk).set i ⟨s.getD i 0 ^^^ b⟩ = (turnS s i b).map Byt.mk := by
  simp [turnS, List.map_set]
theorem row_byt {s : List UInt8} {i : Nat} (h : i < s.length) : (List.map Cell.enc (List.map Byt.mk s)).getD i [] = [.int .u8 ((s.getD i 0).toNat : Int)] := by
  rw [row_at (by simpa using h)]
  simp [enc_byt, List.getD_eq_getElem?_getD, h]
theorem sp_freeze0 {S : Store} {g : Nat} {b c d : TV} {v : AV} {w : List TRun} (h : S.f g = some (.box [v, .t b, .t c, .t d] false)) (hv : LV S v w) : Fewer S (Store.empty.set g (some (.box [.t (sl w), .t b, .t c, .t d] false))) := fun k e' hk => by
  have hvg := hv.notbox h
  by_cases hkg : k = g
  · subst hkg
    rw [Store.set_same] at hk
    cases hk
    refine ⟨_, h, .inr ⟨_, _, false, rfl, rfl, ⟨box_w1 hv fun x hx => ?_, .inl rfl, .inl rfl, .inl rfl, trivial⟩, rfl⟩⟩
    exact Store.set_other _ _ fun hh => hx (hh ▸ hvg)
  · rw [Store.set_other _ _ hkg] at hk; cases hk
theorem taken_noF {s : List UInt8} : NoF (takeTb s).1 := by
  rw [takeTb]
  split
  · next hk =>
    have h1 : takeOk F1 s = true := by rw [tkTok, Bool.and_eq_true] at hk; exact hk.1
    refine ⟨?_, fun d hd => ?_⟩
    · show (dsT s (cntT s)).length ≤ 100000
      rw [dsT_len]
      have := (cnt_bd h1).2
      omega
    · obtain ⟨i, _, rfl⟩ := List.mem_map.1 hd
      rfl
  · exact ⟨Nat.zero_le _, fun d hd => by cases hd⟩
theorem tb_put {s : List UInt8} (h : (takeTb s).2.2 = true) : tabB (takeTb s).1 (takeTb s).2.1 = s := by
  rw [takeTb] at h ⊢
  split at h
  · next hk =>
    rw [if_pos hk]
    simp only [tkTok, Bool.and_eq_true, decide_eq_true_eq] at hk
    exact hk.2.2
  · cases h
theorem tb_len {s : List UInt8} : (takeTb s).2.1.length ≤ 1000 := by
  rw [takeTb]
  split
  · next hk =>
    have h1 : takeOk F1 s = true := by rw [tkTok, Bool.and_eq_true] at hk; exact hk.1
    show (ptT s (cntT s)).length ≤ 1000
    rw [ptT_len]
    have := (cnt_bd h1).2
    omega
  · exact Nat.zero_le _
theorem rt_put {s : List UInt8} (h : (takeRt s).2 = true) : rootB (takeRt s).1 = s := by
  rw [takeRt] at h ⊢
  split at h
  · next hk =>
    rw [if_pos hk]
    simp only [rtTok, Bool.and_eq_true, decide_eq_true_eq] at hk
    exact hk.2.2.2
  · cases h
theorem sp_put {n : Int} {s : List UInt8} (h : (takeSp n s).2 = true) : spaceB n (takeSp n s).1 = s := by
  rw [takeSp] at h ⊢
  split at h
  · next hk =>
    rw [if_pos hk]
    have hk' := hk
    simp only [tkOk, Bool.and_eq_true] at hk'
    obtain ⟨a, b, c, d, _⟩ := hk'
    have hb := tk_back (n := n) (s := s) fun i hi => by
      rcases (by omega : i = 0 ∨ i = 1 ∨ i = 2 ∨ i = 3) with rfl | rfl | rfl | rfl
      · exact a
      · exact b
      · exact c
      · exact d
    exact of_decide_eq_true (hb.trans hk)
  · cases h
theorem sp_len {n : Int} {s : List UInt8} : lenS (takeSp n s).1 := by
  rw [takeSp]
  split
  · exact tkS_len
  · exact gl0
theorem imp2 {A B : Prop} : A → A ∧ (B → A ∧ B) := fun h => ⟨h, fun h2 => ⟨h, h2⟩⟩
theorem map_mk_v (s : List UInt8) : (s.map Byt.mk).map Byt.v = s := map_v s
def G_law17_TableTurned_12 : GCode := .seq (.seq .weak (.region [⟨(some 77), none, .move (.tmp 2)⟩, ⟨(some 78), none, .call ⟨.value (.func 11), #[.tmp 77], #[22]⟩⟩, ⟨(some 79), none, .call ⟨.value (.func 15), #[.tmp 78], #[38]⟩⟩, ⟨(some 16), none, .alloc 31⟩, ⟨none, none, .store 31 (.tmp 16) (.tmp 79)⟩])) (.seq (.seq .weak (.region [⟨(some 80), none, .move (.tmp 3)⟩, ⟨(some 81), none, .call ⟨.value (.func 11), #[.tmp 80], #[22]⟩⟩, ⟨(some 82), none, .call ⟨.value (.func 24), #[.tmp 81, .const (.int .i64 8)], #[38, 3]⟩⟩, ⟨(some 83), none, .build 56 #[(0, .tmp 82)]⟩, ⟨(some 17), none, .alloc 56⟩, ⟨none, none, .store 56 (.tmp 17) (.tmp 83)⟩])) (.seq (.seq .weak (.seq .weak (.region [⟨(some 84), none, .move (.tmp 13)⟩, ⟨(some 85), none, .move (.tmp 14)⟩, ⟨(some 86), none, .call ⟨.value (.func 13), #[.tmp 84, .tmp 85], #[23, 24]⟩⟩, ⟨(some 87), none, .convert 9 22 (.tmp 86)⟩, ⟨(some 88), none, .load 31 (.tmp 16)⟩, ⟨(some 89), none, .call ⟨.value (.func 16), #[.tmp 88], #[31]⟩⟩, ⟨(some 90), none, .convert 9 22 (.tmp 89)⟩, ⟨(some 91), none, .load 56 (.tmp 17)⟩, ⟨(some 92), none, .call ⟨.value (.func 26), #[.const (.int .i64 40), .tmp 91], #[3, 56]⟩⟩, ⟨(some 93), none, .convert 9 22 (.tmp 92)⟩, ⟨(some 18), none, .assign (.tmp 87)⟩, ⟨(some 19), none, .assign (.tmp 90)⟩, ⟨(some 20), none, .assign (.tmp 93)⟩]))) (.seq (.seq (.region [⟨(some 94), none, .move (.tmp 18)⟩, ⟨(some 95), none, .call ⟨.builtin .len, #[.tmp 94], #[22]⟩⟩, ⟨(some 96), none, .binOp .eql 3 (.tmp 95) (.const (.int .i64 0)) 3⟩, ⟨(some 97), none, .move (.tmp 96)⟩, ⟨(some 98), (some (97, false)), .move (.tmp 19)⟩, ⟨(some 99), (some (97, false)), .call ⟨.builtin .len, #[.tmp 98], #[22]⟩⟩, ⟨(some 100), (some (97, false)), .binOp .eql 3 (.tmp 99) (.const (.int .i64 0)) 3⟩, ⟨(some 101), none, .pick (.tmp 97) (.const (.bool true)) (.tmp 100)⟩, ⟨(some 102), none, .move (.tmp 101)⟩, ⟨(some 103), (some (102, false)), .move (.tmp 20)⟩, ⟨(some 104), (some (102, false)), .call ⟨.builtin .len, #[.tmp 103], #[22]⟩⟩, ⟨(some 105), (some (102, false)), .binOp .eql 3 (.tmp 104) (.const (.int .i64 0)) 3⟩, ⟨(some 106), none, .pick (.tmp 102) (.const (.bool true)) (.tmp 105)⟩]) (.cond (.tmp 106) (.seq (.region [⟨(some 12), none, .assign (.const (.bool false))⟩]) (.ret)) (.skip))) (.seq (.region [⟨(some 107), none, .move (.tmp 18)⟩, ⟨(some 108), none, .move (.tmp 4)⟩, ⟨(some 109), none, .convert 5 3 (.tmp 108)⟩, ⟨(some 110), none, .move (.tmp 18)⟩, ⟨(some 111), none, .call ⟨.builtin .len, #[.tmp 110], #[22]⟩⟩, ⟨(some 112), none, .binOp .rem 3 (.tmp 109) (.tmp 111) 3⟩, ⟨(some 113), none, .indexAddr 22 (.tmp 107) (.tmp 112)⟩, ⟨(some 114), none, .load 5 (.tmp 113)⟩, ⟨(some 115), none, .move (.tmp 5)⟩, ⟨(some 116), none, .binOp .xor 5 (.tmp 114) (.tmp 115) 5⟩, ⟨(some 117), none, .indexAddr 22 (.tmp 107) (.tmp 112)⟩, ⟨none, none, .store 5 (.tmp 117) (.tmp 116)⟩]) (.seq (.region [⟨(some 118), none, .move (.tmp 19)⟩, ⟨(some 119), none, .move (.tmp 4)⟩, ⟨(some 120), none, .convert 5 3 (.tmp 119)⟩, ⟨(some 121), none, .move (.tmp 19)⟩, ⟨(some 122), none, .call ⟨.builtin .len, #[.tmp 121], #[22]⟩⟩, ⟨(some 123), none, .binOp .rem 3 (.tmp 120) (.tmp 122) 3⟩, ⟨(some 124), none, .indexAddr 22 (.tmp 118) (.tmp 123)⟩, ⟨(some 125), none, .load 5 (.tmp 124)⟩, ⟨(some 126), none, .move (.tmp 5)⟩, ⟨(some 127), none, .binOp .xor 5 (.tmp 125) (.tmp 126) 5⟩, ⟨(some 128), none, .indexAddr 22 (.tmp 118) (.tmp 123)⟩, ⟨none, none, .store 5 (.tmp 128) (.tmp 127)⟩]) (.seq (.region [⟨(some 129), none, .move (.tmp 20)⟩, ⟨(some 130), none, .move (.tmp 4)⟩, ⟨(some 131), none, .convert 5 3 (.tmp 130)⟩, ⟨(some 132), none, .move (.tmp 20)⟩, ⟨(some 133), none, .call ⟨.builtin .len, #[.tmp 132], #[22]⟩⟩, ⟨(some 134), none, .binOp .rem 3 (.tmp 131) (.tmp 133) 3⟩, ⟨(some 135), none, .indexAddr 22 (.tmp 129) (.tmp 134)⟩, ⟨(some 136), none, .load 5 (.tmp 135)⟩, ⟨(some 137), none, .move (.tmp 5)⟩, ⟨(some 138), none, .binOp .xor 5 (.tmp 136) (.tmp 137) 5⟩, ⟨(some 139), none, .indexAddr 22 (.tmp 129) (.tmp 134)⟩, ⟨none, none, .store 5 (.tmp 139) (.tmp 138)⟩]) (.seq (.seq .weak (.region [⟨(some 141), none, .move (.tmp 18)⟩, ⟨(some 142), none, .convert 22 9 (.tmp 141)⟩, ⟨(some 143), none, .call ⟨.value (.func 18), #[.tmp 142], #[9]⟩⟩, ⟨(some 140), none, .move (.tmp 143)⟩, ⟨(some 144), none, .extract (.tmp 140) 0⟩, ⟨(some 145), none, .extract (.tmp 140) 1⟩, ⟨(some 146), none, .extract (.tmp 140) 2⟩, ⟨(some 21), none, .assign (.tmp 144)⟩, ⟨(some 22), none, .assign (.tmp 145)⟩, ⟨(some 23), none, .assign (.tmp 146)⟩])) (.seq (.seq .weak (.region [⟨(some 148), none, .move (.tmp 19)⟩, ⟨(some 149), none, .convert 22 9 (.tmp 148)⟩, ⟨(some 150), none, .call ⟨.value (.func 20), #[.tmp 149], #[9]⟩⟩, ⟨(some 147), none, .move (.tmp 150)⟩, ⟨(some 151), none, .extract (.tmp 147) 0⟩, ⟨(some 152), none, .extract (.tmp 147) 1⟩, ⟨(some 24), none, .alloc 31⟩, ⟨none, none, .store 31 (.tmp 24) (.tmp 151)⟩, ⟨(some 25), none, .assign (.tmp 152)⟩])) (.seq (.seq .weak (.region [⟨(some 154), none, .move (.tmp 20)⟩, ⟨(some 155), none, .convert 22 9 (.tmp 154)⟩, ⟨(some 156), none, .call ⟨.value (.func 28), #[.const (.int .i64 40), .tmp 155], #[3, 9]⟩⟩, ⟨(some 153), none, .move (.tmp 156)⟩, ⟨(some 157), none, .extract (.tmp 153) 0⟩, ⟨(some 158), none, .extract (.tmp 153) 1⟩, ⟨(some 26), none, .alloc 56⟩, ⟨none, none, .store 56 (.tmp 26) (.tmp 157)⟩, ⟨(some 27), none, .assign (.tmp 158)⟩])) (.seq (.seq .weak (.region [⟨(some 159), none, .move (.tmp 23)⟩, ⟨(some 160), none, .unOp .not 4 (.tmp 159)⟩, ⟨(some 161), none, .move (.tmp 160)⟩, ⟨(some 162), (some (161, false)), .move (.tmp 21)⟩, ⟨(some 163), (some (161, false)), .move (.tmp 13)⟩, ⟨(some 164), (some (161, false)), .call ⟨.value (.func 22), #[.tmp 162, .tmp 163], #[23, 23]⟩⟩, ⟨(some 165), (some (161, false)), .unOp .not 4 (.tmp 164)⟩, ⟨(some 166), (some (161, false)), .move (.tmp 165)⟩, ⟨(some 167), (some (166, false)), .move (.tmp 22)⟩, ⟨(some 168), (some (166, false)), .move (.tmp 14)⟩, ⟨(some 169), (some (166, false)), .call ⟨.value (.func 23), #[.tmp 167, .tmp 168], #[24, 24]⟩⟩, ⟨(some 170), (some (166, false)), .unOp .not 4 (.tmp 169)⟩, ⟨(some 171), (some (161, false)), .pick (.tmp 166) (.const (.bool true)) (.tmp 170)⟩, ⟨(some 172), (some (161, false)), .move (.tmp 171)⟩, ⟨(some 173), (some (172, true)), .move (.tmp 21)⟩, ⟨(some 174), (some (172, true)), .move (.tmp 22)⟩, ⟨(some 175), (some (172, true)), .call ⟨.value (.func 13), #[.tmp 173, .tmp 174], #[23, 24]⟩⟩, ⟨(some 176), (some (172, true)), .move (.tmp 18)⟩, ⟨(some 177), (some (172, true)), .convert 22 9 (.tmp 176)⟩, ⟨(some 178), (some (172, true)), .binOp .eql 9 (.tmp 175) (.tmp 177) 9⟩, ⟨(some 179), (some (161, false)), .pick (.tmp 172) (.tmp 178) (.const (.bool false))⟩, ⟨(some 180), none, .pick (.tmp 161) (.const (.bool true)) (.tmp 179)⟩, ⟨(some 181), none, .move (.tmp 180)⟩, ⟨(some 182), (some (181, true)), .move (.tmp 25)⟩, ⟨(some 183), (some (181, true)), .unOp .not 4 (.tmp 182)⟩, ⟨(some 184), (some (181, true)), .move (.tmp 183)⟩, ⟨(some 185), (some (184, false)), .load 31 (.tmp 24)⟩, ⟨(some 186), (some (184, false)), .load 31 (.tmp 16)⟩, ⟨(some 187), (some (184, false)), .binOp .neq 31 (.tmp 185) (.tmp 186) 31⟩, ⟨(some 188), (some (184, false)), .move (.tmp 187)⟩, ⟨(some 189), (some (188, true)), .load 31 (.tmp 24)⟩, ⟨(some 190), (some (188, true)), .call ⟨.value (.func 16), #[.tmp 189], #[31]⟩⟩, ⟨(some 191), (some (188, true)), .move (.tmp 19)⟩, ⟨(some 192), (some (188, true)), .convert 22 9 (.tmp 191)⟩, ⟨(some 193), (some (188, true)), .binOp .eql 9 (.tmp 190) (.tmp 192) 9⟩, ⟨(some 194), (some (184, false)), .pick (.tmp 188) (.tmp 193) (.const (.bool false))⟩, ⟨(some 195), (some (181, true)), .pick (.tmp 184) (.const (.bool true)) (.tmp 194)⟩, ⟨(some 196), none, .pick (.tmp 181) (.tmp 195) (.const (.bool false))⟩, ⟨(some 197), none, .move (.tmp 196)⟩, ⟨(some 198), (some (197, true)), .move (.tmp 27)⟩, ⟨(some 199), (some (197, true)), .unOp .not 4 (.tmp 198)⟩, ⟨(some 200), (some (197, true)), .move (.tmp 199)⟩, ⟨(some 201), (some (200, false)), .load 56 (.tmp 26)⟩, ⟨(some 202), (some (200, false)), .load 56 (.tmp 17)⟩, ⟨(some 203), (some (200, false)), .call ⟨.value (.func 30), #[.tmp 201, .tmp 202], #[56, 56]⟩⟩, ⟨(some 204), (some (200, false)), .unOp .not 4 (.tmp 203)⟩, ⟨(some 205), (some (200, false)), .move (.tmp 204)⟩, ⟨(some 206), (some (205, true)), .load 56 (.tmp 26)⟩, ⟨(some 207), (some (205, true)), .call ⟨.value (.func 26), #[.const (.int .i64 40), .tmp 206], #[3, 56]⟩⟩, ⟨(some 208), (some (205, true)), .move (.tmp 20)⟩, ⟨(some 209), (some (205, true)), .convert 22 9 (.tmp 208)⟩, ⟨(some 210), (some (205, true)), .binOp .eql 9 (.tmp 207) (.tmp 209) 9⟩, ⟨(some 211), (some (200, false)), .pick (.tmp 205) (.tmp 210) (.const (.bool false))⟩, ⟨(some 212), (some (197, true)), .pick (.tmp 200) (.const (.bool true)) (.tmp 211)⟩, ⟨(some 213), none, .pick (.tmp 197) (.tmp 212) (.const (.bool false))⟩, ⟨(some 12), none, .assign (.tmp 213)⟩])) (.ret)))))))))))
def G_law17_TableTurned : GCode := .seq (.region [⟨(some 12), none, .assign (.const (.bool false))⟩]) (.seq (.seq (.region [⟨(some 28), none, .call ⟨.value (.func 9), #[], #[]⟩⟩, ⟨(some 29), none, .unOp .not 4 (.tmp 28)⟩]) (.cond (.tmp 29) (.seq (.region [⟨(some 12), none, .assign (.const (.bool false))⟩]) (.ret)) (.skip))) (.seq (.seq (.region [⟨(some 30), none, .move (.tmp 0)⟩, ⟨(some 31), none, .call ⟨.builtin .len, #[.tmp 30], #[22]⟩⟩, ⟨(some 32), none, .binOp .gtr 3 (.tmp 31) (.const (.int .i64 24)) 3⟩, ⟨(some 33), none, .move (.tmp 32)⟩, ⟨(some 34), (some (33, false)), .move (.tmp 1)⟩, ⟨(some 35), (some (33, false)), .call ⟨.builtin .len, #[.tmp 34], #[22]⟩⟩, ⟨(some 36), (some (33, false)), .binOp .gtr 3 (.tmp 35) (.const (.int .i64 40)) 3⟩, ⟨(some 37), none, .pick (.tmp 33) (.const (.bool true)) (.tmp 36)⟩, ⟨(some 38), none, .move (.tmp 37)⟩, ⟨(some 39), (some (38, false)), .move (.tmp 2)⟩, ⟨(some 40), (some (38, false)), .call ⟨.builtin .len, #[.tmp 39], #[22]⟩⟩, ⟨(some 41), (some (38, false)), .binOp .gtr 3 (.tmp 40) (.const (.int .i64 20)) 3⟩, ⟨(some 42), none, .pick (.tmp 38) (.const (.bool true)) (.tmp 41)⟩, ⟨(some 43), none, .move (.tmp 42)⟩, ⟨(some 44), (some (43, false)), .move (.tmp 3)⟩, ⟨(some 45), (some (43, false)), .call ⟨.builtin .len, #[.tmp 44], #[22]⟩⟩, ⟨(some 46), (some (43, false)), .binOp .gtr 3 (.tmp 45) (.const (.int .i64 20)) 3⟩, ⟨(some 47), none, .pick (.tmp 43) (.const (.bool true)) (.tmp 46)⟩, ⟨(some 48), none, .move (.tmp 47)⟩, ⟨(some 49), (some (48, false)), .move (.tmp 5)⟩, ⟨(some 50), (some (48, false)), .binOp .eql 5 (.tmp 49) (.const (.int .u8 0)) 5⟩, ⟨(some 51), none, .pick (.tmp 48) (.const (.bool true)) (.tmp 50)⟩]) (.cond (.tmp 51) (.seq (.region [⟨(some 12), none, .assign (.const (.bool true))⟩]) (.ret)) (.skip))) (.seq (.seq .weak (.region [⟨(some 52), none, .move (.tmp 0)⟩, ⟨(some 53), none, .call ⟨.value (.func 10), #[.tmp 52], #[22]⟩⟩, ⟨(some 13), none, .assign (.tmp 53)⟩])) (.seq (.seq .weak (.region [⟨(some 54), none, .move (.tmp 1)⟩, ⟨(some 55), none, .call ⟨.value (.func 11), #[.tmp 54], #[22]⟩⟩, ⟨(some 56), none, .move (.tmp 13)⟩, ⟨(some 57), none, .call ⟨.builtin .len, #[.tmp 56], #[23]⟩⟩, ⟨(some 58), none, .call ⟨.value (.func 12), #[.tmp 55, .tmp 57], #[38, 3]⟩⟩, ⟨(some 14), none, .assign (.tmp 58)⟩])) (.seq (.seq (.seq .weak (.region [⟨(some 15), none, .assign (.const (.int .i64 0))⟩])) (.block 0 (.loop (.seq .weak (.seq (.seq (.region [⟨(some 59), none, .move (.tmp 15)⟩, ⟨(some 60), none, .move (.tmp 14)⟩, ⟨(some 61), none, .call ⟨.builtin .len, #[.tmp 60], #[24]⟩⟩, ⟨(some 62), none, .binOp .lss 3 (.tmp 59) (.tmp 61) 3⟩]) (.cond (.tmp 62) (.skip) (.exit 0))) (.seq (.block 1 (.seq (.seq .weak (.region [⟨(some 65), none, .move (.tmp 14)⟩, ⟨(some 66), none, .move (.tmp 15)⟩, ⟨(some 67), none, .indexAddr 24 (.tmp 65) (.tmp 66)⟩, ⟨(some 68), none, .fieldAddr 29 (.tmp 67) 0⟩, ⟨(some 69), none, .load 3 (.tmp 68)⟩, ⟨(some 70), none, .binOp .eql 3 (.tmp 69) (.const (.int .i64 0)) 3⟩])) (.cond (.tmp 70) (.seq .weak (.region [⟨(some 71), none, .move (.tmp 14)⟩, ⟨(some 72), none, .move (.tmp 15)⟩, ⟨(some 73), none, .move (.tmp 15)⟩, ⟨(some 74), none, .binOp .add 3 (.const (.int .i64 30)) (.tmp 73) 3⟩, ⟨(some 75), none, .build 29 #[(0, .tmp 74), (1, .const (.int .i64 1))]⟩, ⟨(some 76), none, .indexAddr 24 (.tmp 71) (.tmp 72)⟩, ⟨none, none, .store 29 (.tmp 76) (.tmp 75)⟩])) (.skip)))) (.region [⟨(some 63), none, .move (.tmp 15)⟩, ⟨(some 64), none, .binOp .add 3 (.tmp 63) (.const (.int .i64 1)) 3⟩, ⟨(some 15), none, .assign (.tmp 64)⟩]))))))) (G_law17_TableTurned_12))))))
noncomputable def l_law17_TableTurned : List (Nat × Con) := [(9, c_law17_begun), (10, c_law17_heads), (11, c_made_Made), (12, c_made_Picks_Ptrs), (15, c_made_Picks_Root), (24, c_made_Picks_Runs), (13, c_table_Table), (16, c_table_Root), (26, c_table_Space), (18, c_table_TakeTable), (20, c_table_TakeRoot), (28, c_table_TakeSpace), (22, c_law17_same), (23, c_ref1_SamePtrs), (30, c_ref8_SameSpace)]
noncomputable abbrev K_law17_TableTurned : Ctx := ctx (cl l_law17_TableTurned)
theorem geq_law17_TableTurned : gof K_law17_TableTurned Try.f7 = some G_law17_TableTurned.strip := by kernel_rfl
theorem sys_law17_TableTurned : Go.Eng.Sys Try.prog K_law17_TableTurned := sys_of' ⟨ok_law17_begun, ok_law17_heads, ok_made_Made, ok_made_Picks_Ptrs, ok_made_Picks_Root, ok_made_Picks_Runs, ok_table_Table, ok_table_Root, ok_table_Space, ok_table_TakeTable, ok_table_TakeRoot, ok_table_TakeSpace, ok_law17_same, ok_ref1_SamePtrs, ok_ref8_SameSpace, trivial⟩
theorem hm_law17_TableTurned : ConMono K_law17_TableTurned := conMono_of sys_law17_TableTurned.con
noncomputable def k_law17_TableTurned_law17_begun := PLift.up (call_scal (C := K_law17_TableTurned) (f := 9) (A := A_law17_begun) (p := p_law17_begun) (r := r_law17_begun) rfl)
noncomputable def k_law17_TableTurned_law17_heads := PLift.up (call_fn (C := K_law17_TableTurned) (f := 10) (A := A_law17_heads) (p := p_law17_heads) (r := r_law17_heads) rfl)
noncomputable def k_law17_TableTurned_made_Made := PLift.up (call_new (C := K_law17_TableTurned) (f := 11) (c := q_made_Made) (e := e_made_Made) (mk := mk_made_Made) rfl)
noncomputable def k_law17_TableTurned_made_Picks_Ptrs := PLift.up (call_gen (C := K_law17_TableTurned) (f := 12) (modes := m_made_Picks_Ptrs) (F := F_made_Picks_Ptrs) rfl)
noncomputable def k_law17_TableTurned_made_Picks_Root := PLift.up (call_gen (C := K_law17_TableTurned) (f := 15) (modes := m_made_Picks_Root) (F := F_made_Picks_Root) rfl)
noncomputable def k_law17_TableTurned_made_Picks_Runs := PLift.up (call_gen (C := K_law17_TableTurned) (f := 24) (modes := m_made_Picks_Runs) (F := F_made_Picks_Runs) rfl)
noncomputable def k_law17_TableTurned_table_Table := PLift.up (call_scal (C := K_law17_TableTurned) (f := 13) (A := A_table_Table) (p := p_table_Table) (r := r_table_Table) rfl)
noncomputable def k_law17_TableTurned_table_Root := PLift.up (call_scal (C := K_law17_TableTurned) (f := 16) (A := A_table_Root) (p := p_table_Root) (r := r_table_Root) rfl)
noncomputable def k_law17_TableTurned_table_Space := PLift.up (call_scal (C := K_law17_TableTurned) (f := 26) (A := A_table_Space) (p := p_table_Space) (r := r_table_Space) rfl)
noncomputable def k_law17_TableTurned_table_TakeTable := PLift.up (call_fn (C := K_law17_TableTurned) (f := 18) (A := A_table_TakeTable) (p := p_table_TakeTable) (r := r_table_TakeTable) rfl)
noncomputable def k_law17_TableTurned_table_TakeRoot := PLift.up (call_fn (C := K_law17_TableTurned) (f := 20) (A := A_table_TakeRoot) (p := p_table_TakeRoot) (r := r_table_TakeRoot) rfl)
noncomputable def k_law17_TableTurned_table_TakeSpace := PLift.up (call_fn (C := K_law17_TableTurned) (f := 28) (A := A_table_TakeSpace) (p := p_table_TakeSpace) (r := r_table_TakeSpace) rfl)
noncomputable def k_law17_TableTurned_law17_same := PLift.up (call_scal (C := K_law17_TableTurned) (f := 22) (A := A_law17_same) (p := p_law17_same) (r := r_law17_same) rfl)
noncomputable def k_law17_TableTurned_ref1_SamePtrs := PLift.up (call_scal (C := K_law17_TableTurned) (f := 23) (A := A_ref1_SamePtrs) (p := p_ref1_SamePtrs) (r := r_ref1_SamePtrs) rfl)
noncomputable def k_law17_TableTurned_ref8_SameSpace := PLift.up (call_scal (C := K_law17_TableTurned) (f := 30) (A := A_ref8_SameSpace) (p := p_ref8_SameSpace) (r := r_ref8_SameSpace) rfl)
set_option maxHeartbeats 4000000 in
theorem turned_12 {h : List TDset} {P : List TPtr} {m a : List Byt} {at_ by_ : UInt8} (hb0 : by_ ≠ 0) (hN : NoF h) (hto : tabOk h P = true) (hPl : P.length ≤ 8) (la : m.length ≤ 1000) (lb : a.length ≤ 1000) {σ : St}
    (hσ : Wk σ (mkS [(2, .t (sl m)), (3, .t (sl a)), (4, .t (.int .u8 (at_.toNat : Int))), (5, .t (.int .u8 (by_.toNat : Int))), (13, .t (sl h)), (14, .t (sl P))] .empty)) :
    avp K_law17_TableTurned G_law17_TableTurned_12 (Ret K_law17_TableTurned [.tmp 12] fun v _ => v = .t (.bool true)) σ := by
  unfold G_law17_TableTurned_12
  simp only [avp_seq]
  refine ⟨_, hσ, ?_⟩
  have tl : (tabB h P).length ≤ 1000 ∧ 0 < (tabB h P).length := by
    have h1 := rowsB_len h P h.length
    have h2 := headB_len h
    have h3 : h.length ≤ 8 := by
      rw [tabOk, Bool.and_eq_true, decide_eq_true_eq] at hto; exact hto.1
    obtain ⟨_, h4, _⟩ := take_put (f := F1) (l := [(h.length : Int)]) [] (by decide) rfl
    have d1 : (digs F1).sum = 1 := by decide
    rw [d1] at h4
    have h5 : (headB h).length = (putF F1 [(h.length : Int)]).length := rfl
    rw [tabB, if_pos hto, List.length_append]; omega
  simp only [vP.down, vS.down, vE.down, Nat.reduceEqDiff, Nat.reduceAdd, Nat.reduceSub, Nat.reduceMul, Nat.reduceLeDiff, Nat.reduceLT, Int.reduceToNat, reduceIte, reduceCtorEq, Int.reduceEq, Int.reduceLT, Int.reduceLE, ↓avp_condG, ↓tf_arrow, ↓ft_arrow, k_law17_TableTurned_made_Made.down, q_made_Made, e_made_Made, mk_made_Made, k_law17_TableTurned_made_Picks_Root.down, m_made_Picks_Root]
  refine ⟨⟨m, rfl⟩, fun g1 hg1 => ⟨g1, m, rfl, pk_new hg1 (by omega), fun r S1 hr H1 => ?_⟩⟩
  simp only [vP.down, vS.down, vE.down, Nat.reduceEqDiff, Nat.reduceAdd, Nat.reduceSub, Nat.reduceMul, Nat.reduceLeDiff, Nat.reduceLT, Int.reduceToNat, reduceIte, reduceCtorEq, Int.reduceEq, Int.reduceLT, Int.reduceLE, ↓avp_condG, ↓tf_arrow, ↓ft_arrow, rtC, ptC, List.cons_append, List.nil_append]
  intro g16 hg16
  refine weak_at [(3, .t (sl a)), (4, .t (.int .u8 (at_.toNat : Int))), (5, .t (.int .u8 (by_.toNat : Int))), (13, .t (sl h)), (14, .t (sl P)), (16, .imm (rtC r))] .empty fewer_empty (by
    simp only [vP.down, vS.down, vE.down, Nat.reduceEqDiff, Nat.reduceAdd, Nat.reduceSub, Nat.reduceMul, Nat.reduceLeDiff, Nat.reduceLT, Int.reduceToNat, reduceIte, reduceCtorEq, Int.reduceEq, Int.reduceLT, Int.reduceLE, ↓avp_condG, ↓tf_arrow, ↓ft_arrow, wP.down]
    exact w2_imm (l := rtC r) (ro := false) (Store.set_same _ _ _) rfl) ?_
  clear hg16 H1 hg1
  simp only [vP.down, vS.down, vE.down, Nat.reduceEqDiff, Nat.reduceAdd, Nat.reduceSub, Nat.reduceMul, Nat.reduceLeDiff, Nat.reduceLT, Int.reduceToNat, reduceIte, reduceCtorEq, Int.reduceEq, Int.reduceLT, Int.reduceLE, ↓avp_condG, ↓tf_arrow, ↓ft_arrow, k_law17_TableTurned_made_Made.down, q_made_Made, e_made_Made, mk_made_Made, k_law17_TableTurned_made_Picks_Runs.down, m_made_Picks_Runs]
  refine ⟨⟨a, rfl⟩, fun g1 hg1 => ?_⟩
  refine runs_any (pk_new hg1 (by omega)) (by omega) (by omega) fun v1 S1 x hv1 hx H1 _ => ?_
  simp only [vP.down, vS.down, vE.down, Nat.reduceEqDiff, Nat.reduceAdd, Nat.reduceSub, Nat.reduceMul, Nat.reduceLeDiff, Nat.reduceLT, Int.reduceToNat, reduceIte, reduceCtorEq, Int.reduceEq, Int.reduceLT, Int.reduceLE, ↓avp_condG, ↓tf_arrow, ↓ft_arrow, hv1.cells, hv1.one]
  intro g17 hg17
  refine weak_at [(4, .t (.int .u8 (at_.toNat : Int))), (5, .t (.int .u8 (by_.toNat : Int))), (13, .t (sl h)), (14, .t (sl P)), (16, .imm (rtC r)), (17, .ptr g17 0)] (Store.empty.set g17 (some (.box [.t (sl x), .t .nilS, .t .nilS, .t .nilS] false))) (sp_freeze0 (Store.set_same _ _ _) (hv1.fresh hg17)) (by simp only [vP.down, vS.down, vE.down, Nat.reduceEqDiff, Nat.reduceAdd, Nat.reduceSub, Nat.reduceMul, Nat.reduceLeDiff, Nat.reduceLT, Int.reduceToNat, reduceIte, reduceCtorEq, Int.reduceEq, Int.reduceLT, Int.reduceLE, ↓avp_condG, ↓tf_arrow, ↓ft_arrow, wP.down, rtC, ptC, List.cons_append, List.nil_append]) ?_
  simp only [vP.down, vS.down, vE.down, Nat.reduceEqDiff, Nat.reduceAdd, Nat.reduceSub, Nat.reduceMul, Nat.reduceLeDiff, Nat.reduceLT, Int.reduceToNat, reduceIte, reduceCtorEq, Int.reduceEq, Int.reduceLT, Int.reduceLE, ↓avp_condG, ↓tf_arrow, ↓ft_arrow]
  refine weak_at [(4, .t (.int .u8 (at_.toNat : Int))), (5, .t (.int .u8 (by_.toNat : Int))), (13, .t (sl h)), (14, .t (sl P)), (16, .imm (rtC r)), (17, .imm [sl x, .nilS, .nilS, .nilS])] .empty fewer_empty (by
    simp only [vP.down, vS.down, vE.down, Nat.reduceEqDiff, Nat.reduceAdd, Nat.reduceSub, Nat.reduceMul, Nat.reduceLeDiff, Nat.reduceLT, Int.reduceToNat, reduceIte, reduceCtorEq, Int.reduceEq, Int.reduceLT, Int.reduceLE, ↓avp_condG, ↓tf_arrow, ↓ft_arrow, wP.down, rtC, ptC, List.cons_append, List.nil_append]
    exact w2_imm (l := [sl x, .nilS, .nilS, .nilS]) (ro := false) (Store.set_same _ _ _) rfl) ?_
  clear hv1 H1 hg1 hg17
  have hS : Sp ⟨x, [], [], []⟩ := Sp.mk' hx.nf .nil .nil .nil hx.wn wn_nil wn_nil wn_nil (fun i => Bool.and_false _) (fun i => Bool.and_false _) (fun i => rfl)
  have hSl := hS.len
  obtain ⟨sb, sl'⟩ := sp_back (n := 40) rfl hS
  obtain ⟨rb, rl⟩ := rt_back hr
  have ht := tab_back hto hN.2
  obtain ⟨s, hs⟩ : ∃ B, B = tabB h P := ⟨_, rfl⟩
  obtain ⟨t, htt⟩ : ∃ B, B = rootB r := ⟨_, rfl⟩
  obtain ⟨u, hu⟩ : ∃ B, B = spaceB 40 ⟨x, [], [], []⟩ := ⟨_, rfl⟩
  rw [← hs] at tl
  rw [← htt] at rl
  have sl' : u.length = 20 := hu ▸ sl'
  have c1 : s.length ≤ 140737488355328 := by omega
  have c2 : t.length ≤ 140737488355328 := by omega
  have c3 : u.length ≤ 140737488355328 := by omega
  have z1 : ¬ ((s.length : Int) = 0) := by omega
  have z2 : ¬ ((t.length : Int) = 0) := by omega
  have z3 : ¬ ((u.length : Int) = 0) := by omega
  simp only [vP.down, vS.down, vE.down, Nat.reduceEqDiff, Nat.reduceAdd, Nat.reduceSub, Nat.reduceMul, Nat.reduceLeDiff, Nat.reduceLT, Int.reduceToNat, reduceIte, reduceCtorEq, Int.reduceEq, Int.reduceLT, Int.reduceLE, ↓avp_condG, ↓tf_arrow, ↓ft_arrow, rtC, ptC, List.cons_append, List.nil_append, ← hs, ← htt, ← hu, hSl, c1, c2, c3, k_law17_TableTurned_table_Table.down, A_table_Table, p_table_Table, r_table_Table, k_law17_TableTurned_table_Root.down, A_table_Root, p_table_Root, r_table_Root, k_law17_TableTurned_table_Space.down, A_table_Space, p_table_Space, r_table_Space]
  intro g18 hg18 g19 hg19 g20 hg20
  have n1 := Store.ne_new hg19
  have n2 := Store.ne_new hg20
  have n3 := Store.ne_new (Store.old_none hg20)
  obtain ⟨i, hi⟩ : ∃ i, i = at_.toNat % s.length := ⟨_, rfl⟩
  obtain ⟨j, hj⟩ : ∃ j, j = at_.toNat % t.length := ⟨_, rfl⟩
  obtain ⟨k, hk⟩ : ∃ k, k = at_.toNat % u.length := ⟨_, rfl⟩
  have il : i < s.length := hi ▸ Nat.mod_lt _ (by omega)
  have jl : j < t.length := hj ▸ Nat.mod_lt _ (by omega)
  have kl : k < u.length := hk ▸ Nat.mod_lt _ (by omega)
  have wat : IntKind.i64.wrap (at_.toNat : Int) = (at_.toNat : Int) := IntWalk.i64_in _ (by have := at_.toNat_lt; omega)
  have tmn : ∀ a b : Nat, (a : Int).tmod (b : Int) = ((a % b : Nat) : Int) := fun a b => by rw [Int.tmod_eq_emod_of_nonneg (by omega)]; rfl
  have hti : (at_.toNat : Int).tmod (s.length : Int) = (i : Int) := by rw [tmn, hi]
  have htj : (at_.toNat : Int).tmod (t.length : Int) = (j : Int) := by rw [tmn, hj]
  have htk : (at_.toNat : Int).tmod (u.length : Int) = (k : Int) := by rw [tmn, hk]
  have l1 : ((s.map Byt.mk).map Cell.enc).length = s.length := by simp
  have l2 : ((t.map Byt.mk).map Cell.enc).length = t.length := by simp
  have l3 : ((u.map Byt.mk).map Cell.enc).length = u.length := by simp
  simp only [vP.down, vS.down, vE.down, Nat.reduceEqDiff, Nat.reduceAdd, Nat.reduceSub, Nat.reduceMul, Nat.reduceLeDiff, Nat.reduceLT, Int.reduceToNat, reduceIte, reduceCtorEq, Int.reduceEq, Int.reduceLT, Int.reduceLE, ↓avp_condG, ↓tf_arrow, ↓ft_arrow, z1, z2, z3, or_self, and_self, not_false_eq_true, true_implies, false_implies, pick_of, pick_ot, wat, hti, htj, htk, Int.toNat_natCast, set_f, n1, n1.symm, n2, n2.symm, n3, n3.symm, if_true, if_false, row_byt il, row_byt jl, row_byt kl, turn_byt, l1, l2, l3]
  refine ⟨⟨by omega, by omega⟩, il, ⟨by omega, by omega⟩, il, by simp, ⟨by omega, by omega⟩, jl, ⟨by omega, by omega⟩, jl, by simp, ⟨by omega, by omega⟩, kl, ⟨by omega, by omega⟩, kl, by simp, ?_⟩
  refine weak_at [(13, .t (sl h)), (14, .t (sl P)), (16, .imm (rtC r)), (17, .imm [sl x, .nilS, .nilS, .nilS]), (18, .t (sl ((turnS s i by_).map Byt.mk))), (19, .t (sl ((turnS t j by_).map Byt.mk))), (20, .t (sl ((turnS u k by_).map Byt.mk)))] .empty fewer_empty (by
    simp only [vP.down, vS.down, vE.down, Nat.reduceEqDiff, Nat.reduceAdd, Nat.reduceSub, Nat.reduceMul, Nat.reduceLeDiff, Nat.reduceLT, Int.reduceToNat, reduceIte, reduceCtorEq, Int.reduceEq, Int.reduceLT, Int.reduceLE, ↓avp_condG, ↓tf_arrow, ↓ft_arrow, wP.down, rtC, ptC, List.cons_append, List.nil_append]
    refine ⟨?_, ?_, ?_⟩
    · refine LV.w2 (s' := Store.empty) (lv_at (α := Byt) (l := (turnS s i by_).map Byt.mk) (ro := false) (by rw [List.length_map, turnS_len]) ?_) (fun _ _ => rfl)
      simp only [set_f, n1, n1.symm, n2, n2.symm, n3, n3.symm, if_true, if_false]; rfl
    · refine LV.w2 (s' := Store.empty) (lv_at (α := Byt) (l := (turnS t j by_).map Byt.mk) (ro := false) (by rw [List.length_map, turnS_len]) ?_) (fun _ _ => rfl)
      simp only [set_f, n1, n1.symm, n2, n2.symm, n3, n3.symm, if_true, if_false]; rfl
    · refine LV.w2 (s' := Store.empty) (lv_at (α := Byt) (l := (turnS u k by_).map Byt.mk) (ro := false) (by rw [List.length_map, turnS_len]) ?_) (fun _ _ => rfl)
      simp only [set_f, n1, n1.symm, n2, n2.symm, n3, n3.symm, if_true, if_false]; rfl) ?_
  clear hg18 hg19 hg20 n1 n2 n3
  have nes := turnS_ne il hb0
  have net := turnS_ne jl hb0
  have neu := turnS_ne kl hb0
  have ls : (turnS s i by_).length ≤ 1000000 := by rw [turnS_len]; omega
  have lt : (turnS t j by_).length ≤ 1000000 := by rw [turnS_len]; omega
  have lu : (turnS u k by_).length ≤ 1000000 := by rw [turnS_len]; omega
  obtain ⟨s', hs'⟩ : ∃ s', s' = turnS s i by_ := ⟨_, rfl⟩
  obtain ⟨t', ht'⟩ : ∃ s', s' = turnS t j by_ := ⟨_, rfl⟩
  obtain ⟨u', hu'⟩ : ∃ s', s' = turnS u k by_ := ⟨_, rfl⟩
  rw [← hs'] at nes ls ⊢
  rw [← ht'] at net lt ⊢
  rw [← hu'] at neu lu ⊢
  have b1 := tb_put (s := s')
  have b2 := taken_noF (s := s')
  have b3 := tb_len (s := s')
  have b4 := rt_put (s := t')
  have b5 := sp_put (n := 40) (s := u')
  have b6 := sp_len (n := 40) (s := u')
  simp only [vP.down, vS.down, vE.down, Nat.reduceEqDiff, Nat.reduceAdd, Nat.reduceSub, Nat.reduceMul, Nat.reduceLeDiff, Nat.reduceLT, Int.reduceToNat, reduceIte, reduceCtorEq, Int.reduceEq, Int.reduceLT, Int.reduceLE, ↓avp_condG, ↓tf_arrow, ↓ft_arrow, map_mk_v, ls, k_law17_TableTurned_table_TakeTable.down, A_table_TakeTable, p_table_TakeTable, r_table_TakeTable]
  obtain ⟨X, hX⟩ : ∃ X, X = (takeTb s').1 := ⟨_, rfl⟩
  obtain ⟨Q, hQ⟩ : ∃ X, X = (takeTb s').2.1 := ⟨_, rfl⟩
  obtain ⟨o1, ho1⟩ : ∃ X, X = (takeTb s').2.2 := ⟨_, rfl⟩
  rw [← hX, ← hQ, ← ho1] at b1
  rw [← hX] at b2
  rw [← hQ] at b3
  rw [← hX, ← hQ, ← ho1]
  refine weak_at [(13, .t (sl h)), (14, .t (sl P)), (16, .imm (rtC r)), (17, .imm [sl x, .nilS, .nilS, .nilS]), (18, .t (sl (s'.map Byt.mk))), (19, .t (sl (t'.map Byt.mk))), (20, .t (sl (u'.map Byt.mk))), (21, .t (sl X)), (22, .t (sl Q)), (23, .t (.bool o1))] .empty fewer_refl (by simp only [vP.down, vS.down, vE.down, Nat.reduceEqDiff, Nat.reduceAdd, Nat.reduceSub, Nat.reduceMul, Nat.reduceLeDiff, Nat.reduceLT, Int.reduceToNat, reduceIte, reduceCtorEq, Int.reduceEq, Int.reduceLT, Int.reduceLE, ↓avp_condG, ↓tf_arrow, ↓ft_arrow, wP.down]) ?_
  simp only [vP.down, vS.down, vE.down, Nat.reduceEqDiff, Nat.reduceAdd, Nat.reduceSub, Nat.reduceMul, Nat.reduceLeDiff, Nat.reduceLT, Int.reduceToNat, reduceIte, reduceCtorEq, Int.reduceEq, Int.reduceLT, Int.reduceLE, ↓avp_condG, ↓tf_arrow, ↓ft_arrow, map_mk_v, lt, k_law17_TableTurned_table_TakeRoot.down, A_table_TakeRoot, p_table_TakeRoot, r_table_TakeRoot]
  obtain ⟨Y, hY⟩ : ∃ X, X = (takeRt t').1 := ⟨_, rfl⟩
  obtain ⟨o2, ho2⟩ : ∃ X, X = (takeRt t').2 := ⟨_, rfl⟩
  rw [← hY, ← ho2] at b4
  rw [← hY, ← ho2]
  simp only [vP.down, vS.down, vE.down, Nat.reduceEqDiff, Nat.reduceAdd, Nat.reduceSub, Nat.reduceMul, Nat.reduceLeDiff, Nat.reduceLT, Int.reduceToNat, reduceIte, reduceCtorEq, Int.reduceEq, Int.reduceLT, Int.reduceLE, ↓avp_condG, ↓tf_arrow, ↓ft_arrow, rtC, ptC, List.cons_append, List.nil_append]
  intro g24 hg24
  refine weak_at [(13, .t (sl h)), (14, .t (sl P)), (16, .imm (rtC r)), (17, .imm [sl x, .nilS, .nilS, .nilS]), (18, .t (sl (s'.map Byt.mk))), (19, .t (sl (t'.map Byt.mk))), (20, .t (sl (u'.map Byt.mk))), (21, .t (sl X)), (22, .t (sl Q)), (23, .t (.bool o1)), (24, .imm (rtC Y)), (25, .t (.bool o2))] .empty fewer_empty (by
    simp only [vP.down, vS.down, vE.down, Nat.reduceEqDiff, Nat.reduceAdd, Nat.reduceSub, Nat.reduceMul, Nat.reduceLeDiff, Nat.reduceLT, Int.reduceToNat, reduceIte, reduceCtorEq, Int.reduceEq, Int.reduceLT, Int.reduceLE, ↓avp_condG, ↓tf_arrow, ↓ft_arrow, wP.down, rtC, ptC, List.cons_append, List.nil_append]
    exact w2_imm (l := rtC Y) (ro := false) (Store.set_same _ _ _) rfl) ?_
  clear hg24
  simp only [vP.down, vS.down, vE.down, Nat.reduceEqDiff, Nat.reduceAdd, Nat.reduceSub, Nat.reduceMul, Nat.reduceLeDiff, Nat.reduceLT, Int.reduceToNat, reduceIte, reduceCtorEq, Int.reduceEq, Int.reduceLT, Int.reduceLE, ↓avp_condG, ↓tf_arrow, ↓ft_arrow, map_mk_v, lu, k_law17_TableTurned_table_TakeSpace.down, A_table_TakeSpace, p_table_TakeSpace, r_table_TakeSpace]
  obtain ⟨Z, hZ⟩ : ∃ X, X = (takeSp 40 u').1 := ⟨_, rfl⟩
  obtain ⟨o3, ho3⟩ : ∃ X, X = (takeSp 40 u').2 := ⟨_, rfl⟩
  rw [← hZ, ← ho3] at b5
  rw [← hZ] at b6
  rw [← hZ, ← ho3]
  simp only [vP.down, vS.down, vE.down, Nat.reduceEqDiff, Nat.reduceAdd, Nat.reduceSub, Nat.reduceMul, Nat.reduceLeDiff, Nat.reduceLT, Int.reduceToNat, reduceIte, reduceCtorEq, Int.reduceEq, Int.reduceLT, Int.reduceLE, ↓avp_condG, ↓tf_arrow, ↓ft_arrow, spC]
  intro g26 hg26
  refine weak_at [(13, .t (sl h)), (14, .t (sl P)), (16, .imm (rtC r)), (17, .imm [sl x, .nilS, .nilS, .nilS]), (18, .t (sl (s'.map Byt.mk))), (19, .t (sl (t'.map Byt.mk))), (20, .t (sl (u'.map Byt.mk))), (21, .t (sl X)), (22, .t (sl Q)), (23, .t (.bool o1)), (24, .imm (rtC Y)), (25, .t (.bool o2)), (26, .imm (spC Z)), (27, .t (.bool o3))] .empty fewer_empty (by
    simp only [vP.down, vS.down, vE.down, Nat.reduceEqDiff, Nat.reduceAdd, Nat.reduceSub, Nat.reduceMul, Nat.reduceLeDiff, Nat.reduceLT, Int.reduceToNat, reduceIte, reduceCtorEq, Int.reduceEq, Int.reduceLT, Int.reduceLE, ↓avp_condG, ↓tf_arrow, ↓ft_arrow, wP.down, rtC, ptC, List.cons_append, List.nil_append, spC]
    exact w2_imm (l := spC Z) (ro := false) (Store.set_same _ _ _) rfl) ?_
  clear hg26
  have pQ : Q.length < 4611686018427387904 := by omega
  simp only [vP.down, vS.down, vE.down, Nat.reduceEqDiff, Nat.reduceAdd, Nat.reduceSub, Nat.reduceMul, Nat.reduceLeDiff, Nat.reduceLT, Int.reduceToNat, reduceIte, reduceCtorEq, Int.reduceEq, Int.reduceLT, Int.reduceLE, ↓avp_condG, ↓tf_arrow, ↓ft_arrow, map_mk_v, b2, pQ, b6, rtC, ptC, List.cons_append, List.nil_append, spC, pick_of, pick_ot, dec_TRoot, k_law17_TableTurned_law17_same.down, A_law17_same, p_law17_same, r_law17_same, k_law17_TableTurned_ref1_SamePtrs.down, A_ref1_SamePtrs, p_ref1_SamePtrs, r_ref1_SamePtrs, k_law17_TableTurned_table_Table.down, A_table_Table, p_table_Table, r_table_Table, k_law17_TableTurned_table_Root.down, A_table_Root, p_table_Root, r_table_Root, k_law17_TableTurned_ref8_SameSpace.down, A_ref8_SameSpace, p_ref8_SameSpace, r_ref8_SameSpace, k_law17_TableTurned_table_Space.down, A_table_Space, p_table_Space, r_table_Space]
  have f1 : o1 = true → (X ≠ h ∨ Q ≠ P) ∧ tabB X Q = s' := fun ho => ⟨by
    by_cases hx' : X = h
    · refine .inr fun hq' => nes ?_
      rw [← b1 ho, hx', hq', hs]
    · exact .inl hx', b1 ho⟩
  have f2 : o2 = true → Y ≠ r ∧ rootB Y = t' := fun ho => ⟨fun hy' => net (by rw [← b4 ho, hy', htt]), b4 ho⟩
  have f3 : o3 = true → Z ≠ ⟨x, [], [], []⟩ ∧ spaceB 40 Z = u' := fun ho => ⟨fun hz' => neu (by rw [← b5 ho, hz', hu]), b5 ho⟩
  refine ⟨imp2, imp2, imp2, imp2, imp2, imp2, ?_⟩
  clear b1 b4 b5 nes net neu hs htt hu ht rb sb
  simp only [vP.down, vS.down, vE.down, Nat.reduceEqDiff, Nat.reduceAdd, Nat.reduceSub, Nat.reduceMul, Nat.reduceLeDiff, Nat.reduceLT, Int.reduceToNat, reduceIte, reduceCtorEq, Int.reduceEq, Int.reduceLT, Int.reduceLE, ↓avp_condG, ↓tf_arrow, ↓ft_arrow, vT.down]
  cases o1 <;> cases o2 <;> cases o3 <;> simp_all
noncomputable def A_law17_TableTurned : Arms ((List Byt) × (List Byt) × (List Byt) × (List Byt) × Byt × Byt × Unit) := Arms.cons (argT (List Byt)) (Arms.cons (argT (List Byt)) (Arms.cons (argT (List Byt)) (Arms.cons (argT (List Byt)) (Arms.cons (argT Byt) (Arms.cons (argT Byt) (Arms.nil))))))
def p_law17_TableTurned (x : (List Byt) × (List Byt) × (List Byt) × (List Byt) × Byt × Byt × Unit) : Prop := (goodList (fun x : Byt => goodAny x) x.1) ∧ (goodList (fun x : Byt => goodAny x) x.2.1) ∧ (goodList (fun x : Byt => goodAny x) x.2.2.1) ∧ (goodList (fun x : Byt => goodAny x) x.2.2.2.1) ∧ (goodAny x.2.2.2.2.1) ∧ (goodAny x.2.2.2.2.2.1) ∧ goodAny (x.2.2.2.2.2.2)
abbrev r_law17_TableTurned (x : (List Byt) × (List Byt) × (List Byt) × (List Byt) × Byt × Byt × Unit) : AV := rTrue x
theorem rd_law17_TableTurned : ReadsA Try.prog [22, 22, 22, 22, 5, 5] A_law17_TableTurned p_law17_TableTurned := (readsA_T (reads_list Try.underlying22 (reads_u8 Try.underlying5) (by kernel_rfl) (by decide)) (by kernel_rfl) (readsA_T (reads_list Try.underlying22 (reads_u8 Try.underlying5) (by kernel_rfl) (by decide)) (by kernel_rfl) (readsA_T (reads_list Try.underlying22 (reads_u8 Try.underlying5) (by kernel_rfl) (by decide)) (by kernel_rfl) (readsA_T (reads_list Try.underlying22 (reads_u8 Try.underlying5) (by kernel_rfl) (by decide)) (by kernel_rfl) (readsA_T (reads_u8 Try.underlying5) (by kernel_rfl) (readsA_T (reads_u8 Try.underlying5) (by kernel_rfl) readsA_nil))))))
set_option maxHeartbeats 4000000 in
theorem body_law17_TableTurned (x) (hx : p_law17_TableTurned x) : avp K_law17_TableTurned G_law17_TableTurned (Ret K_law17_TableTurned [.tmp 12] fun v _ => v = r_law17_TableTurned x) (entry (A_law17_TableTurned.enc x) .empty) := by
  obtain ⟨l, pk, m, a, ⟨at_⟩, ⟨by_⟩, ⟨⟩⟩ := x
  change avp _ _ (Ret _ _ fun v _ => v = .t (.bool true)) (entry [.t (sl l), .t (sl pk), .t (sl m), .t (sl a), .t (.int .u8 (at_.toNat : Int)), .t (.int .u8 (by_.toNat : Int))] .empty)
  unfold G_law17_TableTurned
  by_cases c1 : (24 : Int) < (l.length : Int)
  · simp only [vP.down, vS.down, vE.down, Nat.reduceEqDiff, Nat.reduceAdd, Nat.reduceSub, Nat.reduceMul, Nat.reduceLeDiff, Nat.reduceLT, Int.reduceToNat, reduceIte, reduceCtorEq, Int.reduceEq, Int.reduceLT, Int.reduceLE, ↓avp_condG, ↓tf_arrow, ↓ft_arrow, k_law17_TableTurned_law17_begun.down, A_law17_begun, p_law17_begun, r_law17_begun, c1, gt_iff_lt, pick_of, pick_ot]
    simp only [vP.down, vS.down, vE.down, Nat.reduceEqDiff, Nat.reduceAdd, Nat.reduceSub, Nat.reduceMul, Nat.reduceLeDiff, Nat.reduceLT, Int.reduceToNat, reduceIte, reduceCtorEq, Int.reduceEq, Int.reduceLT, Int.reduceLE, ↓avp_condG, ↓tf_arrow, ↓ft_arrow, vT.down]
  by_cases c2 : (40 : Int) < (pk.length : Int)
  · simp only [vP.down, vS.down, vE.down, Nat.reduceEqDiff, Nat.reduceAdd, Nat.reduceSub, Nat.reduceMul, Nat.reduceLeDiff, Nat.reduceLT, Int.reduceToNat, reduceIte, reduceCtorEq, Int.reduceEq, Int.reduceLT, Int.reduceLE, ↓avp_condG, ↓tf_arrow, ↓ft_arrow, k_law17_TableTurned_law17_begun.down, A_law17_begun, p_law17_begun, r_law17_begun, c1, c2, gt_iff_lt, pick_of, pick_ot]
    simp only [vP.down, vS.down, vE.down, Nat.reduceEqDiff, Nat.reduceAdd, Nat.reduceSub, Nat.reduceMul, Nat.reduceLeDiff, Nat.reduceLT, Int.reduceToNat, reduceIte, reduceCtorEq, Int.reduceEq, Int.reduceLT, Int.reduceLE, ↓avp_condG, ↓tf_arrow, ↓ft_arrow, vT.down]
  by_cases c3 : (20 : Int) < (m.length : Int)
  · simp only [vP.down, vS.down, vE.down, Nat.reduceEqDiff, Nat.reduceAdd, Nat.reduceSub, Nat.reduceMul, Nat.reduceLeDiff, Nat.reduceLT, Int.reduceToNat, reduceIte, reduceCtorEq, Int.reduceEq, Int.reduceLT, Int.reduceLE, ↓avp_condG, ↓tf_arrow, ↓ft_arrow, k_law17_TableTurned_law17_begun.down, A_law17_begun, p_law17_begun, r_law17_begun, c1, c2, c3, gt_iff_lt, pick_of, pick_ot]
    simp only [vP.down, vS.down, vE.down, Nat.reduceEqDiff, Nat.reduceAdd, Nat.reduceSub, Nat.reduceMul, Nat.reduceLeDiff, Nat.reduceLT, Int.reduceToNat, reduceIte, reduceCtorEq, Int.reduceEq, Int.reduceLT, Int.reduceLE, ↓avp_condG, ↓tf_arrow, ↓ft_arrow, vT.down]
  by_cases c4 : (20 : Int) < (a.length : Int)
  · simp only [vP.down, vS.down, vE.down, Nat.reduceEqDiff, Nat.reduceAdd, Nat.reduceSub, Nat.reduceMul, Nat.reduceLeDiff, Nat.reduceLT, Int.reduceToNat, reduceIte, reduceCtorEq, Int.reduceEq, Int.reduceLT, Int.reduceLE, ↓avp_condG, ↓tf_arrow, ↓ft_arrow, k_law17_TableTurned_law17_begun.down, A_law17_begun, p_law17_begun, r_law17_begun, c1, c2, c3, c4, gt_iff_lt, pick_of, pick_ot]
    simp only [vP.down, vS.down, vE.down, Nat.reduceEqDiff, Nat.reduceAdd, Nat.reduceSub, Nat.reduceMul, Nat.reduceLeDiff, Nat.reduceLT, Int.reduceToNat, reduceIte, reduceCtorEq, Int.reduceEq, Int.reduceLT, Int.reduceLE, ↓avp_condG, ↓tf_arrow, ↓ft_arrow, vT.down]
  by_cases hb0 : by_ = 0
  · have c5 : ((by_.toNat : Int) = 0) = True := eq_true (by rw [hb0]; rfl)
    simp only [vP.down, vS.down, vE.down, Nat.reduceEqDiff, Nat.reduceAdd, Nat.reduceSub, Nat.reduceMul, Nat.reduceLeDiff, Nat.reduceLT, Int.reduceToNat, reduceIte, reduceCtorEq, Int.reduceEq, Int.reduceLT, Int.reduceLE, ↓avp_condG, ↓tf_arrow, ↓ft_arrow, k_law17_TableTurned_law17_begun.down, A_law17_begun, p_law17_begun, r_law17_begun, c1, c2, c3, c4, c5, gt_iff_lt, pick_of, pick_ot]
    simp only [vP.down, vS.down, vE.down, Nat.reduceEqDiff, Nat.reduceAdd, Nat.reduceSub, Nat.reduceMul, Nat.reduceLeDiff, Nat.reduceLT, Int.reduceToNat, reduceIte, reduceCtorEq, Int.reduceEq, Int.reduceLT, Int.reduceLE, ↓avp_condG, ↓tf_arrow, ↓ft_arrow, vT.down]
  have c5 : ((by_.toNat : Int) = 0) = False := eq_false fun hh => hb0 (UInt8.toNat_inj.1 (by show by_.toNat = 0; omega))
  simp only [vP.down, vS.down, vE.down, Nat.reduceEqDiff, Nat.reduceAdd, Nat.reduceSub, Nat.reduceMul, Nat.reduceLeDiff, Nat.reduceLT, Int.reduceToNat, reduceIte, reduceCtorEq, Int.reduceEq, Int.reduceLT, Int.reduceLE, ↓avp_condG, ↓tf_arrow, ↓ft_arrow, k_law17_TableTurned_law17_begun.down, A_law17_begun, p_law17_begun, r_law17_begun, c1, c2, c3, c4, c5, gt_iff_lt, pick_of, pick_ot]
  refine weak_at [(2, .t (sl m)), (3, .t (sl a)), (4, .t (.int .u8 (at_.toNat : Int))), (5, .t (.int .u8 (by_.toNat : Int))), (1, .t (sl pk)), (0, .t (sl l))] .empty fewer_refl (by simp only [vP.down, vS.down, vE.down, Nat.reduceEqDiff, Nat.reduceAdd, Nat.reduceSub, Nat.reduceMul, Nat.reduceLeDiff, Nat.reduceLT, Int.reduceToNat, reduceIte, reduceCtorEq, Int.reduceEq, Int.reduceLT, Int.reduceLE, ↓avp_condG, ↓tf_arrow, ↓ft_arrow, wP.down]) ?_
  have pl : l.length ≤ 1000 := by omega
  simp only [vP.down, vS.down, vE.down, Nat.reduceEqDiff, Nat.reduceAdd, Nat.reduceSub, Nat.reduceMul, Nat.reduceLeDiff, Nat.reduceLT, Int.reduceToNat, reduceIte, reduceCtorEq, Int.reduceEq, Int.reduceLT, Int.reduceLE, ↓avp_condG, ↓tf_arrow, ↓ft_arrow, pl, k_law17_TableTurned_law17_heads.down, A_law17_heads, p_law17_heads, r_law17_heads]
  have hN := head_noF (l := l)
  have hlen := head_len (l := l)
  have hk8 : hdK l ≤ 8 := by unfold hdK; omega
  have hok := fun (p : List TPtr) => head_ok (l := l) (p := p)
  obtain ⟨h, hh⟩ : ∃ h, h = headL l := ⟨_, rfl⟩
  obtain ⟨K, hK⟩ : ∃ k, k = hdK l := ⟨_, rfl⟩
  rw [← hh] at hN hlen hok ⊢
  rw [← hK] at hlen hk8 hok
  refine weak_at [(2, .t (sl m)), (3, .t (sl a)), (4, .t (.int .u8 (at_.toNat : Int))), (5, .t (.int .u8 (by_.toNat : Int))), (1, .t (sl pk)), (13, .t (sl h))] .empty fewer_refl (by simp only [vP.down, vS.down, vE.down, Nat.reduceEqDiff, Nat.reduceAdd, Nat.reduceSub, Nat.reduceMul, Nat.reduceLeDiff, Nat.reduceLT, Int.reduceToNat, reduceIte, reduceCtorEq, Int.reduceEq, Int.reduceLT, Int.reduceLE, ↓avp_condG, ↓tf_arrow, ↓ft_arrow, wP.down]) ?_
  simp only [vP.down, vS.down, vE.down, Nat.reduceEqDiff, Nat.reduceAdd, Nat.reduceSub, Nat.reduceMul, Nat.reduceLeDiff, Nat.reduceLT, Int.reduceToNat, reduceIte, reduceCtorEq, Int.reduceEq, Int.reduceLT, Int.reduceLE, ↓avp_condG, ↓tf_arrow, ↓ft_arrow, hlen, k_law17_TableTurned_made_Made.down, q_made_Made, e_made_Made, mk_made_Made, k_law17_TableTurned_made_Picks_Ptrs.down, m_made_Picks_Ptrs]
  refine ⟨⟨pk, rfl⟩, fun g1 hg1 => ⟨g1, pk, K, rfl, pk_new hg1 (by omega), by omega, fun v0 S0 L hv0 hLm hLl H1 _ => ?_⟩⟩
  clear H1 hg1
  refine weak_at [(2, .t (sl m)), (3, .t (sl a)), (4, .t (.int .u8 (at_.toNat : Int))), (5, .t (.int .u8 (by_.toNat : Int))), (13, .t (sl h)), (14, v0)] S0 fewer_refl (by simp only [vP.down, vS.down, vE.down, Nat.reduceEqDiff, Nat.reduceAdd, Nat.reduceSub, Nat.reduceMul, Nat.reduceLeDiff, Nat.reduceLT, Int.reduceToNat, reduceIte, reduceCtorEq, Int.reduceEq, Int.reduceLT, Int.reduceLE, ↓avp_condG, ↓tf_arrow, ↓ft_arrow, wP.down]) ?_
  simp only [vP.down, vS.down, vE.down, Nat.reduceEqDiff, Nat.reduceAdd, Nat.reduceSub, Nat.reduceMul, Nat.reduceLeDiff, Nat.reduceLT, Int.reduceToNat, reduceIte, reduceCtorEq, Int.reduceEq, Int.reduceLT, Int.reduceLE, ↓avp_condG, ↓tf_arrow, ↓ft_arrow]
  refine loop_weak hm_law17_TableTurned (fun mz σ => ∃ (i : Nat) (v : AV) (S : Store), mz = L.length - i ∧ i ≤ L.length ∧ OW S v (fixL L i) ∧ σ = mkS [(2, .t (sl m)), (3, .t (sl a)), (4, .t (.int .u8 (at_.toNat : Int))), (5, .t (.int .u8 (by_.toNat : Int))), (13, .t (sl h)), (14, v), (15, .t (.int .i64 (i : Nat)))] S)
    ⟨0, v0, S0, rfl, by omega, hv0, rfl⟩ (wk_to fewer_refl (by simp only [vP.down, vS.down, vE.down, Nat.reduceEqDiff, Nat.reduceAdd, Nat.reduceSub, Nat.reduceMul, Nat.reduceLeDiff, Nat.reduceLT, Int.reduceToNat, reduceIte, reduceCtorEq, Int.reduceEq, Int.reduceLT, Int.reduceLE, ↓avp_condG, ↓tf_arrow, ↓ft_arrow, wP.down, Int.natCast_zero])) ?_
  clear hv0
  rintro mz _ ⟨i, v, S, rfl, hi, hv, rfl⟩
  have hi1 : IntKind.i64.wrap ((i : Int) + 1) = ((i + 1 : Nat) : Int) := by rw [IntWalk.i64_in _ (by omega)]; rfl
  have hMl := fixL_len (L := L) i
  have hln := hv.lv.len (C := K_law17_TableTurned) ty_Lapi_Ptr
  rw [hMl] at hln
  by_cases hlt : i < L.length
  case pos =>
    have hlt' : (i : Int) < (L.length : Int) := by omega
    have hst : fixL L (i + 1) = (fixL L i).set i (fix1 i ((fixL L i).getD i default)) := rfl
    rcases hv with ⟨_, h0⟩ | ⟨g, rfl, hr⟩
    · rw [h0] at hMl
      simp at hMl
      omega
    obtain ⟨M, hM⟩ : ∃ M, M = fixL L i := ⟨_, rfl⟩
    rw [← hM] at hr hMl hst hln ⊢
    have hrow := row_ptr (M := M) (i := i) (by omega)
    have hrl : (M.map Cell.enc).length = L.length := by rw [List.length_map, hMl]
    obtain ⟨q, hq⟩ : ∃ q, q = M.getD i default := ⟨_, rfl⟩
    rw [← hq] at hrow hst
    have hi0 : (0 : Int) ≤ (i : Int) := by omega
    simp only [vP.down, vS.down, vE.down, Nat.reduceEqDiff, Nat.reduceAdd, Nat.reduceSub, Nat.reduceMul, Nat.reduceLeDiff, Nat.reduceLT, Int.reduceToNat, reduceIte, reduceCtorEq, Int.reduceEq, Int.reduceLT, Int.reduceLE, ↓avp_condG, ↓tf_arrow, ↓ft_arrow, hMl, hlt']
    refine weak_at [(2, .t (sl m)), (3, .t (sl a)), (4, .t (.int .u8 (at_.toNat : Int))), (5, .t (.int .u8 (by_.toNat : Int))), (13, .t (sl h)), (14, .tok g 6 0 L.length), (15, .t (.int .i64 (i : Nat)))] S fewer_refl (by simp only [vP.down, vS.down, vE.down, Nat.reduceEqDiff, Nat.reduceAdd, Nat.reduceSub, Nat.reduceMul, Nat.reduceLeDiff, Nat.reduceLT, Int.reduceToNat, reduceIte, reduceCtorEq, Int.reduceEq, Int.reduceLT, Int.reduceLE, ↓avp_condG, ↓tf_arrow, ↓ft_arrow, wP.down, hMl]) ?_
    by_cases h0 : q.Addr = 0
    · have e1 : fix1 i q = ⟨30 + (i : Int), 1, (0, 0, 0, 0)⟩ := by rw [fix1, if_pos h0]
      have hpt := fix_put (M := M) (i := i) (x := ⟨30 + (i : Int), 1, (0, 0, 0, 0)⟩) (by omega)
      rw [← e1, ← hst] at hpt
      have hpt' : putRow (M.map Cell.enc) i 0 [.int .i64 (30 + (i : Int)), .int .i64 1, .int .u32 0, .int .u32 0, .int .u32 0, .int .u32 0] = (fixL L (i + 1)).map Cell.enc := by rw [← hpt, e1]; rfl
      have w30 : IntKind.i64.wrap (30 + (i : Int)) = 30 + (i : Int) := IntWalk.i64_in _ (by omega)
      have hl1 := fixL_len (L := L) (i + 1)
      simp only [vP.down, vS.down, vE.down, Nat.reduceEqDiff, Nat.reduceAdd, Nat.reduceSub, Nat.reduceMul, Nat.reduceLeDiff, Nat.reduceLT, Int.reduceToNat, reduceIte, reduceCtorEq, Int.reduceEq, Int.reduceLT, Int.reduceLE, ↓avp_condG, ↓tf_arrow, ↓ft_arrow, hr, hrow, hrl, hlt, hlt', hi0, ptC, h0, hMl]
      refine weak_at [(2, .t (sl m)), (3, .t (sl a)), (4, .t (.int .u8 (at_.toNat : Int))), (5, .t (.int .u8 (by_.toNat : Int))), (13, .t (sl h)), (14, .tok g 6 0 L.length), (15, .t (.int .i64 (i : Nat)))] S fewer_refl (by simp only [vP.down, vS.down, vE.down, Nat.reduceEqDiff, Nat.reduceAdd, Nat.reduceSub, Nat.reduceMul, Nat.reduceLeDiff, Nat.reduceLT, Int.reduceToNat, reduceIte, reduceCtorEq, Int.reduceEq, Int.reduceLT, Int.reduceLE, ↓avp_condG, ↓tf_arrow, ↓ft_arrow, wP.down]) ?_
      simp only [vP.down, vS.down, vE.down, Nat.reduceEqDiff, Nat.reduceAdd, Nat.reduceSub, Nat.reduceMul, Nat.reduceLeDiff, Nat.reduceLT, Int.reduceToNat, reduceIte, reduceCtorEq, Int.reduceEq, Int.reduceLT, Int.reduceLE, ↓avp_condG, ↓tf_arrow, ↓ft_arrow, hr, hrow, hrl, hlt, hlt', hi0, ptC, w30, hpt', hMl]
      refine ⟨by simp, ?_⟩
      exact round_to (L.length - (i + 1)) [(2, .t (sl m)), (3, .t (sl a)), (4, .t (.int .u8 (at_.toNat : Int))), (5, .t (.int .u8 (by_.toNat : Int))), (13, .t (sl h)), (14, .tok g 6 0 L.length), (15, .t (.int .i64 (i + 1 : Nat)))] (S.set g (some (.row 6 ((fixL L (i + 1)).map Cell.enc) false))) (by omega) fewer_refl (by simp only [vP.down, vS.down, vE.down, Nat.reduceEqDiff, Nat.reduceAdd, Nat.reduceSub, Nat.reduceMul, Nat.reduceLeDiff, Nat.reduceLT, Int.reduceToNat, reduceIte, reduceCtorEq, Int.reduceEq, Int.reduceLT, Int.reduceLE, ↓avp_condG, ↓tf_arrow, ↓ft_arrow, wP.down, hi1]) ⟨i + 1, _, _, rfl, by omega, .inr ⟨g, by rw [hl1]; rfl, Store.set_same _ _ _⟩, rfl⟩
    · have e1 : fix1 i q = q := by rw [fix1, if_neg h0]
      have e2 : fixL L (i + 1) = M := by
        rw [hst, e1, hq]
        refine List.ext_getElem (by rw [List.length_set]) fun j h1 h2 => ?_
        rw [List.getElem_set]
        split
        · next hij => subst hij; rw [List.getD_eq_getElem?_getD, List.getElem?_eq_getElem h2]; rfl
        · rfl
      simp only [vP.down, vS.down, vE.down, Nat.reduceEqDiff, Nat.reduceAdd, Nat.reduceSub, Nat.reduceMul, Nat.reduceLeDiff, Nat.reduceLT, Int.reduceToNat, reduceIte, reduceCtorEq, Int.reduceEq, Int.reduceLT, Int.reduceLE, ↓avp_condG, ↓tf_arrow, ↓ft_arrow, hr, hrow, hrl, hlt, hlt', hi0, ptC, h0, hMl]
      exact round_to (L.length - (i + 1)) [(2, .t (sl m)), (3, .t (sl a)), (4, .t (.int .u8 (at_.toNat : Int))), (5, .t (.int .u8 (by_.toNat : Int))), (13, .t (sl h)), (14, .tok g 6 0 L.length), (15, .t (.int .i64 (i + 1 : Nat)))] S (by omega) fewer_refl (by simp only [vP.down, vS.down, vE.down, Nat.reduceEqDiff, Nat.reduceAdd, Nat.reduceSub, Nat.reduceMul, Nat.reduceLeDiff, Nat.reduceLT, Int.reduceToNat, reduceIte, reduceCtorEq, Int.reduceEq, Int.reduceLT, Int.reduceLE, ↓avp_condG, ↓tf_arrow, ↓ft_arrow, wP.down, hi1]) ⟨i + 1, _, S, rfl, by omega, .inr ⟨g, by rw [fixL_len]; rfl, by rw [e2]; exact hr⟩, rfl⟩
  obtain rfl : i = L.length := by omega
  have hge : ¬ (L.length : Int) < (L.length : Int) := by omega
  have hpo := fixL_ok hLm (by omega)
  have hto := hok (fixL L L.length) (by rw [fixL_len, hLl]) hpo
  simp only [vP.down, vS.down, vE.down, Nat.reduceEqDiff, Nat.reduceAdd, Nat.reduceSub, Nat.reduceMul, Nat.reduceLeDiff, Nat.reduceLT, Int.reduceToNat, reduceIte, reduceCtorEq, Int.reduceEq, Int.reduceLT, Int.reduceLE, ↓avp_condG, ↓tf_arrow, ↓ft_arrow, hln, hge]
  exact turned_12 (m := m) (a := a) (at_ := at_) (by_ := by_) hb0 hN hto (by rw [fixL_len]; omega) (by omega) (by omega) (wk_to fewer_empty (by
    simp only [vP.down, vS.down, vE.down, Nat.reduceEqDiff, Nat.reduceAdd, Nat.reduceSub, Nat.reduceMul, Nat.reduceLeDiff, Nat.reduceLT, Int.reduceToNat, reduceIte, reduceCtorEq, Int.reduceEq, Int.reduceLT, Int.reduceLE, ↓avp_condG, ↓tf_arrow, ↓ft_arrow, wP.down]
    refine LV.w2 (s' := Store.empty) hv.lv ?_
    exact fun _ _ => rfl))
noncomputable def c_law17_TableTurned : Con := fnScal A_law17_TableTurned p_law17_TableTurned r_law17_TableTurned
theorem ok_law17_TableTurned : COk Try.prog 7 c_law17_TableTurned := fn_sok sys_law17_TableTurned mixed Try.func7 (by kernel_rfl) geq_law17_TableTurned Try.ntmps7 (by rw [Try.results7]) (fun x => by simp [rTrue, AV.scal]) fun x hx => ⟨Nat.le_of_ble_eq_true rfl, body_law17_TableTurned x hx⟩
theorem says_law17_TableTurned : SaysTrue Rows.tableTurnedSpec 6 := ⟨rfl, fun H ds h => by
  match ds, h with
  | [d0, d1, d2, d3, d4, d5], _ => exact ⟨rfl, rfl, rfl⟩⟩
set_option maxRecDepth 100000 in
theorem lifted_law17_TableTurned (os : Os) (started : os.Started) (H : Type) (enc : TypeId × Value → H) :
    ReturnsInHanded {} Try.checked os 7 .any (Rows.tableTurnedSpec.pre6 enc Try.prog Try.f7 Rows.tableTurnedRow.domain false) (Rows.tableTurnedSpec.post enc Try.prog Try.f7 false true false false) := by
  refine returnsInHanded_of_change (C := Try.checked) own started (by kernel_rfl) Try.func7
    (ChangeSpec.witness6 (enc := enc) (C := Try.checked) false ⟨#[], #[.slice none 0 0, .slice none 0 0, .slice none 0 0, .slice none 0 0, .int .u8 0, .int .u8 0], []⟩ 8 (by kernel_rfl) (by kernel_rfl) (by kernel_rfl) (by kernel_rfl)) ?_
  intro W base args ds gs before hval hW _ _
  exact law_contract (ts := [22, 22, 22, 22, 5, 5]) (tb := 4) ok_law17_TableTurned (by rw [Try.params7]) (by kernel_rfl) Try.underlying4 laid (by kernel_rfl) rd_law17_TableTurned (fun _ h => h) says_law17_TableTurned H enc W base args ds gs before hval hW
theorem over_law17_TableTurned : Rows.tableTurnedRow.holds Try.pinned (OpenSpec.ofChange Rows.tableTurnedSpec) :=
  OpenClaim.holds_of_wide 7 Try.f7 rfl rfl rfl rfl rfl rfl rfl ⟨rfl, rfl, rfl, rfl, rfl⟩ rfl rfl rfl rfl rfl (by kernel_rfl) Try.func7 (by kernel_rfl)
    (of_decide_eq_true (by kernel_rfl)) (by unfold Func.isWrapper; first | (rw [if_pos (by decide +kernel)]; kernel_rfl) | (rw [if_neg (by decide +kernel)]; exact ⟨rfl, rfl⟩))
    (fun os started H enc _ => lifted_law17_TableTurned os started H enc)
theorem tableTurned_holds : Rows.TableTurnedSaid := over_law17_TableTurned
end Go.Proofs.Ytofcmdkmhbbbjaa

