/-
  TableForms.
-/
import Derived.Test.YtofcmdkmhbbbjaaFnsI
set_option linter.unusedSimpArgs false
set_option linter.unusedVariables false
set_option maxRecDepth 100000

namespace Go.Proofs.Ytofcmdkmhbbbjaa
open Go Go.Eng
set_option maxRecDepth 100000
def gD : List TDset := [⟨1, 1, 0, 0, []⟩, ⟨65535, 2, 65535, 255, []⟩]
def bF : List TDset := [⟨0, 0, 0, 0, []⟩, ⟨0, 1, 0, 0, []⟩, ⟨65536, 1, 0, 0, []⟩, ⟨1, 0, 0, 0, []⟩, ⟨1, 3, 0, 0, []⟩, ⟨1, 1, -1, 0, []⟩, ⟨1, 1, 65536, 0, []⟩, ⟨1, 1, 0, -1, []⟩, ⟨1, 1, 0, 256, []⟩]
def rF : List TRoot := [⟨0, 0, 0, zeroP, zeroP, zeroP, 0⟩, ⟨1073741825, 0, 0, zeroP, zeroP, zeroP, 0⟩, ⟨1, -1, 0, zeroP, zeroP, zeroP, 0⟩, ⟨1, 0, 1073741825, zeroP, zeroP, zeroP, 0⟩, ⟨1, 0, 0, zeroP, zeroP, zeroP, -1⟩,
  ⟨1, 0, 0, ⟨-1, 0, (0, 0, 0, 0)⟩, zeroP, zeroP, 0⟩, ⟨1, 0, 0, zeroP, zeroP, ⟨0, 1, (0, 0, 0, 0)⟩, 0⟩, ⟨1, 0, 0, zeroP, ⟨65536, 0, (0, 0, 0, 0)⟩, zeroP, 0⟩]
def rRows : List (List TV) := [[.int .i64 (0), .int .i64 (0), .int .i64 (0), .int .i64 (0), .int .i64 (0), .int .u32 0, .int .u32 0, .int .u32 0, .int .u32 0, .int .i64 (0), .int .i64 (0), .int .u32 0, .int .u32 0, .int .u32 0, .int .u32 0, .int .i64 (0), .int .i64 (0), .int .u32 0, .int .u32 0, .int .u32 0, .int .u32 0, .int .i64 (0)],
  [.int .i64 (1073741825), .int .i64 (0), .int .i64 (0), .int .i64 (0), .int .i64 (0), .int .u32 0, .int .u32 0, .int .u32 0, .int .u32 0, .int .i64 (0), .int .i64 (0), .int .u32 0, .int .u32 0, .int .u32 0, .int .u32 0, .int .i64 (0), .int .i64 (0), .int .u32 0, .int .u32 0, .int .u32 0, .int .u32 0, .int .i64 (0)],
  [.int .i64 (1), .int .i64 (-1), .int .i64 (0), .int .i64 (0), .int .i64 (0), .int .u32 0, .int .u32 0, .int .u32 0, .int .u32 0, .int .i64 (0), .int .i64 (0), .int .u32 0, .int .u32 0, .int .u32 0, .int .u32 0, .int .i64 (0), .int .i64 (0), .int .u32 0, .int .u32 0, .int .u32 0, .int .u32 0, .int .i64 (0)],
  [.int .i64 (1), .int .i64 (0), .int .i64 (1073741825), .int .i64 (0), .int .i64 (0), .int .u32 0, .int .u32 0, .int .u32 0, .int .u32 0, .int .i64 (0), .int .i64 (0), .int .u32 0, .int .u32 0, .int .u32 0, .int .u32 0, .int .i64 (0), .int .i64 (0), .int .u32 0, .int .u32 0, .int .u32 0, .int .u32 0, .int .i64 (0)],
  [.int .i64 (1), .int .i64 (0), .int .i64 (0), .int .i64 (0), .int .i64 (0), .int .u32 0, .int .u32 0, .int .u32 0, .int .u32 0, .int .i64 (0), .int .i64 (0), .int .u32 0, .int .u32 0, .int .u32 0, .int .u32 0, .int .i64 (0), .int .i64 (0), .int .u32 0, .int .u32 0, .int .u32 0, .int .u32 0, .int .i64 (-1)],
  [.int .i64 (1), .int .i64 (0), .int .i64 (0), .int .i64 (-1), .int .i64 (0), .int .u32 0, .int .u32 0, .int .u32 0, .int .u32 0, .int .i64 (0), .int .i64 (0), .int .u32 0, .int .u32 0, .int .u32 0, .int .u32 0, .int .i64 (0), .int .i64 (0), .int .u32 0, .int .u32 0, .int .u32 0, .int .u32 0, .int .i64 (0)],
  [.int .i64 (1), .int .i64 (0), .int .i64 (0), .int .i64 (0), .int .i64 (0), .int .u32 0, .int .u32 0, .int .u32 0, .int .u32 0, .int .i64 (0), .int .i64 (0), .int .u32 0, .int .u32 0, .int .u32 0, .int .u32 0, .int .i64 (0), .int .i64 (1), .int .u32 0, .int .u32 0, .int .u32 0, .int .u32 0, .int .i64 (0)],
  [.int .i64 (1), .int .i64 (0), .int .i64 (0), .int .i64 (0), .int .i64 (0), .int .u32 0, .int .u32 0, .int .u32 0, .int .u32 0, .int .i64 (65536), .int .i64 (0), .int .u32 0, .int .u32 0, .int .u32 0, .int .u32 0, .int .i64 (0), .int .i64 (0), .int .u32 0, .int .u32 0, .int .u32 0, .int .u32 0, .int .i64 (0)]]
def bRows : List (List TV) := [[.int .i64 (0), .int .i64 (0), .int .i64 (0), .int .i64 (0), .nilS], [.int .i64 (0), .int .i64 (1), .int .i64 (0), .int .i64 (0), .nilS], [.int .i64 (65536), .int .i64 (1), .int .i64 (0), .int .i64 (0), .nilS], [.int .i64 (1), .int .i64 (0), .int .i64 (0), .int .i64 (0), .nilS], [.int .i64 (1), .int .i64 (3), .int .i64 (0), .int .i64 (0), .nilS], [.int .i64 (1), .int .i64 (1), .int .i64 (-1), .int .i64 (0), .nilS], [.int .i64 (1), .int .i64 (1), .int .i64 (65536), .int .i64 (0), .nilS], [.int .i64 (1), .int .i64 (1), .int .i64 (0), .int .i64 (-1), .nilS], [.int .i64 (1), .int .i64 (1), .int .i64 (0), .int .i64 (256), .nilS]]
def dF : List TDset := [⟨2, 1, 0, 0, []⟩, ⟨2, 1, 0, 0, []⟩]
def nS : List TDset := (List.range 9).map fun (i : Nat) => (⟨(i : Int) + 1, 1, 0, 0, []⟩ : TDset)
def nP : List TPtr := (List.range 9).map fun (i : Nat) => (⟨(i : Int) + 1, 0, (0, 0, 0, 0)⟩ : TPtr)
theorem tf1 : ∀ d ∈ gD, tabOk [d] [p0] = true := by decide +kernel
theorem tf2 : ∀ d ∈ bF, tabB [d] [p0] = [] := by decide +kernel
theorem tf3 : ∀ r ∈ rF, rootB r = [] := by decide +kernel
theorem tf4 : takeTb [0] = ([], [], true) := by decide +kernel
theorem tf5 : (takeTb []).2.2 = false := by decide +kernel
theorem tf6 : (takeSp 40 (List.replicate 19 0)).2 = false := by decide +kernel
theorem tf7 : (takeSp 40 (List.replicate 21 0)).2 = false := by decide +kernel
theorem tf8 : (takeSp 40 (List.replicate 20 0)).2 = true := by decide +kernel
theorem tf9 : tabB [] [] = [0] := by decide +kernel
theorem tf10 : tabB dF [p0, p0] = [] := by decide +kernel
theorem tf11 : tabB nS nP = [] := by decide +kernel
theorem tf12 : (tabB (nS.take 8) (nP.take 8)).length = 225 := by decide +kernel
theorem tf13 : tabB (gD.take 1) [] = [] := by decide +kernel
theorem tf14 : tabB (gD.take 1) [zeroP] = [] := by decide +kernel
theorem tf15 : ∀ d ∈ gD, (tabB [d] [p0]).length ≤ 1000000 := by decide +kernel
theorem gD_noF : ∀ d ∈ gD, d.Files = [] := by decide
def G_law17_TableForms_30 : GCode := .seq (.seq .weak (.region [⟨(some 153), none, .call ⟨.value (.func 18), #[.const (.string ⟨#[0]⟩)], #[9]⟩⟩, ⟨(some 152), none, .move (.tmp 153)⟩, ⟨(some 154), none, .extract (.tmp 152) 0⟩, ⟨(some 155), none, .extract (.tmp 152) 1⟩, ⟨(some 156), none, .extract (.tmp 152) 2⟩, ⟨(some 15), none, .assign (.tmp 154)⟩, ⟨(some 16), none, .assign (.tmp 155)⟩, ⟨(some 17), none, .assign (.tmp 156)⟩])) (.seq (.seq .weak (.region [⟨(some 158), none, .call ⟨.value (.func 18), #[.const (.string ⟨#[]⟩)], #[9]⟩⟩, ⟨(some 157), none, .move (.tmp 158)⟩, ⟨(some 159), none, .extract (.tmp 157) 0⟩, ⟨(some 160), none, .extract (.tmp 157) 1⟩, ⟨(some 161), none, .extract (.tmp 157) 2⟩, ⟨(some 18), none, .assign (.tmp 159)⟩, ⟨(some 19), none, .assign (.tmp 160)⟩, ⟨(some 20), none, .assign (.tmp 161)⟩])) (.seq (.seq .weak (.region [⟨(some 163), none, .makeSlice 22 (.const (.int .i64 19)) (.const (.int .i64 19))⟩, ⟨(some 164), none, .convert 22 9 (.tmp 163)⟩, ⟨(some 165), none, .call ⟨.value (.func 28), #[.const (.int .i64 40), .tmp 164], #[3, 9]⟩⟩, ⟨(some 162), none, .move (.tmp 165)⟩, ⟨(some 166), none, .extract (.tmp 162) 0⟩, ⟨(some 167), none, .extract (.tmp 162) 1⟩, ⟨(some 21), none, .alloc 56⟩, ⟨none, none, .store 56 (.tmp 21) (.tmp 166)⟩, ⟨(some 22), none, .assign (.tmp 167)⟩])) (.seq (.seq .weak (.region [⟨(some 169), none, .makeSlice 22 (.const (.int .i64 21)) (.const (.int .i64 21))⟩, ⟨(some 170), none, .convert 22 9 (.tmp 169)⟩, ⟨(some 171), none, .call ⟨.value (.func 28), #[.const (.int .i64 40), .tmp 170], #[3, 9]⟩⟩, ⟨(some 168), none, .move (.tmp 171)⟩, ⟨(some 172), none, .extract (.tmp 168) 0⟩, ⟨(some 173), none, .extract (.tmp 168) 1⟩, ⟨(some 23), none, .alloc 56⟩, ⟨none, none, .store 56 (.tmp 23) (.tmp 172)⟩, ⟨(some 24), none, .assign (.tmp 173)⟩])) (.seq (.seq .weak (.region [⟨(some 175), none, .makeSlice 22 (.const (.int .i64 20)) (.const (.int .i64 20))⟩, ⟨(some 176), none, .convert 22 9 (.tmp 175)⟩, ⟨(some 177), none, .call ⟨.value (.func 28), #[.const (.int .i64 40), .tmp 176], #[3, 9]⟩⟩, ⟨(some 174), none, .move (.tmp 177)⟩, ⟨(some 178), none, .extract (.tmp 174) 0⟩, ⟨(some 179), none, .extract (.tmp 174) 1⟩, ⟨(some 25), none, .alloc 56⟩, ⟨none, none, .store 56 (.tmp 25) (.tmp 178)⟩, ⟨(some 26), none, .assign (.tmp 179)⟩])) (.seq (.seq .weak (.region [⟨(some 180), none, .move (.tmp 17)⟩, ⟨(some 181), none, .move (.tmp 180)⟩, ⟨(some 182), (some (181, true)), .move (.tmp 15)⟩, ⟨(some 183), (some (181, true)), .call ⟨.builtin .len, #[.tmp 182], #[23]⟩⟩, ⟨(some 184), (some (181, true)), .binOp .eql 3 (.tmp 183) (.const (.int .i64 0)) 3⟩, ⟨(some 185), none, .pick (.tmp 181) (.tmp 184) (.const (.bool false))⟩, ⟨(some 186), none, .move (.tmp 185)⟩, ⟨(some 187), (some (186, true)), .move (.tmp 20)⟩, ⟨(some 188), (some (186, true)), .unOp .not 4 (.tmp 187)⟩, ⟨(some 189), none, .pick (.tmp 186) (.tmp 188) (.const (.bool false))⟩, ⟨(some 190), none, .move (.tmp 189)⟩, ⟨(some 191), (some (190, true)), .move (.tmp 22)⟩, ⟨(some 192), (some (190, true)), .unOp .not 4 (.tmp 191)⟩, ⟨(some 193), none, .pick (.tmp 190) (.tmp 192) (.const (.bool false))⟩, ⟨(some 194), none, .move (.tmp 193)⟩, ⟨(some 195), (some (194, true)), .move (.tmp 24)⟩, ⟨(some 196), (some (194, true)), .unOp .not 4 (.tmp 195)⟩, ⟨(some 197), none, .pick (.tmp 194) (.tmp 196) (.const (.bool false))⟩, ⟨(some 198), none, .move (.tmp 197)⟩, ⟨(some 199), (some (198, true)), .move (.tmp 26)⟩, ⟨(some 200), none, .pick (.tmp 198) (.tmp 199) (.const (.bool false))⟩, ⟨(some 201), none, .move (.tmp 200)⟩, ⟨(some 202), (some (201, true)), .call ⟨.value (.func 13), #[.const (.slice none 0 0), .const (.slice none 0 0)], #[23, 24]⟩⟩, ⟨(some 203), (some (201, true)), .binOp .eql 9 (.tmp 202) (.const (.string ⟨#[0]⟩)) 9⟩, ⟨(some 204), none, .pick (.tmp 201) (.tmp 203) (.const (.bool false))⟩, ⟨(some 205), none, .move (.tmp 204)⟩, ⟨(some 206), (some (205, true)), .move (.tmp 11)⟩, ⟨(some 207), (some (205, true)), .move (.tmp 1)⟩, ⟨(some 208), (some (205, true)), .indexAddr 24 (.tmp 207) (.const (.int .i64 0))⟩, ⟨(some 209), (some (205, true)), .load 29 (.tmp 208)⟩, ⟨(some 210), (some (205, true)), .move (.tmp 1)⟩, ⟨(some 211), (some (205, true)), .indexAddr 24 (.tmp 210) (.const (.int .i64 0))⟩, ⟨(some 212), (some (205, true)), .load 29 (.tmp 211)⟩, ⟨(some 213), (some (205, true)), .buildSlice 24 2 #[(0, .tmp 209), (1, .tmp 212)]⟩, ⟨(some 214), (some (205, true)), .call ⟨.value (.func 13), #[.tmp 206, .tmp 213], #[23, 24]⟩⟩, ⟨(some 215), (some (205, true)), .binOp .eql 9 (.tmp 214) (.const (.string ⟨#[]⟩)) 9⟩, ⟨(some 216), none, .pick (.tmp 205) (.tmp 215) (.const (.bool false))⟩, ⟨(some 217), none, .move (.tmp 216)⟩, ⟨(some 218), (some (217, true)), .move (.tmp 12)⟩, ⟨(some 219), (some (217, true)), .move (.tmp 13)⟩, ⟨(some 220), (some (217, true)), .call ⟨.value (.func 13), #[.tmp 218, .tmp 219], #[23, 24]⟩⟩, ⟨(some 221), (some (217, true)), .binOp .eql 9 (.tmp 220) (.const (.string ⟨#[]⟩)) 9⟩, ⟨(some 222), none, .pick (.tmp 217) (.tmp 221) (.const (.bool false))⟩, ⟨(some 223), none, .move (.tmp 222)⟩, ⟨(some 224), (some (223, true)), .move (.tmp 12)⟩, ⟨(some 225), (some (223, true)), .slice 23 (.tmp 224) none (some (.const (.int .i64 8))) none⟩, ⟨(some 226), (some (223, true)), .move (.tmp 13)⟩, ⟨(some 227), (some (223, true)), .slice 24 (.tmp 226) none (some (.const (.int .i64 8))) none⟩, ⟨(some 228), (some (223, true)), .call ⟨.value (.func 13), #[.tmp 225, .tmp 227], #[23, 24]⟩⟩, ⟨(some 229), (some (223, true)), .call ⟨.builtin .len, #[.tmp 228], #[9]⟩⟩, ⟨(some 230), (some (223, true)), .binOp .eql 3 (.tmp 229) (.const (.int .i64 225)) 3⟩, ⟨(some 231), none, .pick (.tmp 223) (.tmp 230) (.const (.bool false))⟩, ⟨(some 232), none, .move (.tmp 231)⟩, ⟨(some 233), (some (232, true)), .move (.tmp 2)⟩, ⟨(some 234), (some (232, true)), .slice 23 (.tmp 233) none (some (.const (.int .i64 1))) none⟩, ⟨(some 235), (some (232, true)), .call ⟨.value (.func 13), #[.tmp 234, .const (.slice none 0 0)], #[23, 24]⟩⟩, ⟨(some 236), (some (232, true)), .binOp .eql 9 (.tmp 235) (.const (.string ⟨#[]⟩)) 9⟩, ⟨(some 237), none, .pick (.tmp 232) (.tmp 236) (.const (.bool false))⟩, ⟨(some 238), none, .move (.tmp 237)⟩, ⟨(some 239), (some (238, true)), .move (.tmp 2)⟩, ⟨(some 240), (some (238, true)), .slice 23 (.tmp 239) none (some (.const (.int .i64 1))) none⟩, ⟨(some 241), (some (238, true)), .build 29 #[]⟩, ⟨(some 242), (some (238, true)), .buildSlice 24 1 #[(0, .tmp 241)]⟩, ⟨(some 243), (some (238, true)), .call ⟨.value (.func 13), #[.tmp 240, .tmp 242], #[23, 24]⟩⟩, ⟨(some 244), (some (238, true)), .binOp .eql 9 (.tmp 243) (.const (.string ⟨#[]⟩)) 9⟩, ⟨(some 245), none, .pick (.tmp 238) (.tmp 244) (.const (.bool false))⟩, ⟨(some 0), none, .assign (.tmp 245)⟩])) (.ret))))))
def G_law17_TableForms_26 : GCode := .seq (.seq (.seq .weak (.region [⟨(some 14), none, .assign (.const (.int .i64 0))⟩])) (.block 6 (.loop (.seq .weak (.seq (.seq (.region [⟨(some 136), none, .move (.tmp 14)⟩, ⟨(some 137), none, .binOp .lss 3 (.tmp 136) (.const (.int .i64 9)) 3⟩]) (.cond (.tmp 137) (.skip) (.exit 6))) (.seq (.block 7 (.seq .weak (.region [⟨(some 140), none, .move (.tmp 12)⟩, ⟨(some 141), none, .move (.tmp 14)⟩, ⟨(some 142), none, .move (.tmp 13)⟩, ⟨(some 143), none, .move (.tmp 14)⟩, ⟨(some 144), none, .move (.tmp 14)⟩, ⟨(some 145), none, .binOp .add 3 (.tmp 144) (.const (.int .i64 1)) 3⟩, ⟨(some 146), none, .build 36 #[(0, .tmp 145), (1, .const (.int .i64 1))]⟩, ⟨(some 147), none, .move (.tmp 14)⟩, ⟨(some 148), none, .binOp .add 3 (.tmp 147) (.const (.int .i64 1)) 3⟩, ⟨(some 149), none, .build 29 #[(0, .tmp 148)]⟩, ⟨(some 150), none, .indexAddr 23 (.tmp 140) (.tmp 141)⟩, ⟨none, none, .store 36 (.tmp 150) (.tmp 146)⟩, ⟨(some 151), none, .indexAddr 24 (.tmp 142) (.tmp 143)⟩, ⟨none, none, .store 29 (.tmp 151) (.tmp 149)⟩]))) (.region [⟨(some 138), none, .move (.tmp 14)⟩, ⟨(some 139), none, .binOp .add 3 (.tmp 138) (.const (.int .i64 1)) 3⟩, ⟨(some 14), none, .assign (.tmp 139)⟩]))))))) (G_law17_TableForms_30)
def G_law17_TableForms_23 : GCode := .seq (.seq .weak (.region [⟨(some 131), none, .build 36 #[(0, .const (.int .i64 2)), (1, .const (.int .i64 1))]⟩, ⟨(some 132), none, .build 36 #[(0, .const (.int .i64 2)), (1, .const (.int .i64 1))]⟩, ⟨(some 133), none, .buildSlice 23 2 #[(0, .tmp 131), (1, .tmp 132)]⟩, ⟨(some 11), none, .assign (.tmp 133)⟩])) (.seq (.seq .weak (.region [⟨(some 134), none, .makeSlice 23 (.const (.int .i64 9)) (.const (.int .i64 9))⟩, ⟨(some 12), none, .assign (.tmp 134)⟩])) (.seq (.seq .weak (.region [⟨(some 135), none, .makeSlice 24 (.const (.int .i64 9)) (.const (.int .i64 9))⟩, ⟨(some 13), none, .assign (.tmp 135)⟩])) (G_law17_TableForms_26)))
def G_law17_TableForms_18 : GCode := .seq (.seq (.seq .weak (.region [⟨(some 10), none, .assign (.const (.int .i64 0))⟩])) (.block 4 (.loop (.seq .weak (.seq (.seq (.region [⟨(some 119), none, .move (.tmp 10)⟩, ⟨(some 120), none, .move (.tmp 9)⟩, ⟨(some 121), none, .call ⟨.builtin .len, #[.tmp 120], #[65]⟩⟩, ⟨(some 122), none, .binOp .lss 3 (.tmp 119) (.tmp 121) 3⟩]) (.cond (.tmp 122) (.skip) (.exit 4))) (.seq (.block 5 (.seq (.seq .weak (.region [⟨(some 125), none, .move (.tmp 9)⟩, ⟨(some 126), none, .move (.tmp 10)⟩, ⟨(some 127), none, .indexAddr 65 (.tmp 125) (.tmp 126)⟩, ⟨(some 128), none, .load 31 (.tmp 127)⟩, ⟨(some 129), none, .call ⟨.value (.func 16), #[.tmp 128], #[31]⟩⟩, ⟨(some 130), none, .binOp .neq 9 (.tmp 129) (.const (.string ⟨#[]⟩)) 9⟩])) (.cond (.tmp 130) (.seq (.region [⟨(some 0), none, .assign (.const (.bool false))⟩]) (.ret)) (.skip)))) (.region [⟨(some 123), none, .move (.tmp 10)⟩, ⟨(some 124), none, .binOp .add 3 (.tmp 123) (.const (.int .i64 1)) 3⟩, ⟨(some 10), none, .assign (.tmp 124)⟩]))))))) (G_law17_TableForms_23)
def G_law17_TableForms_12 : GCode := .seq (.seq (.seq .weak (.region [⟨(some 8), none, .assign (.const (.int .i64 0))⟩])) (.block 2 (.loop (.seq .weak (.seq (.seq (.region [⟨(some 93), none, .move (.tmp 8)⟩, ⟨(some 94), none, .move (.tmp 3)⟩, ⟨(some 95), none, .call ⟨.builtin .len, #[.tmp 94], #[23]⟩⟩, ⟨(some 96), none, .binOp .lss 3 (.tmp 93) (.tmp 95) 3⟩]) (.cond (.tmp 96) (.skip) (.exit 2))) (.seq (.block 3 (.seq (.seq .weak (.region [⟨(some 99), none, .move (.tmp 3)⟩, ⟨(some 100), none, .move (.tmp 8)⟩, ⟨(some 101), none, .move (.tmp 8)⟩, ⟨(some 102), none, .binOp .add 3 (.tmp 101) (.const (.int .i64 1)) 3⟩, ⟨(some 103), none, .slice 23 (.tmp 99) (some (.tmp 100)) (some (.tmp 102)) none⟩, ⟨(some 104), none, .move (.tmp 1)⟩, ⟨(some 105), none, .call ⟨.value (.func 13), #[.tmp 103, .tmp 104], #[23, 24]⟩⟩, ⟨(some 106), none, .binOp .neq 9 (.tmp 105) (.const (.string ⟨#[]⟩)) 9⟩])) (.cond (.tmp 106) (.seq (.region [⟨(some 0), none, .assign (.const (.bool false))⟩]) (.ret)) (.skip)))) (.region [⟨(some 97), none, .move (.tmp 8)⟩, ⟨(some 98), none, .binOp .add 3 (.tmp 97) (.const (.int .i64 1)) 3⟩, ⟨(some 8), none, .assign (.tmp 98)⟩]))))))) (.seq (.seq .weak (.region [⟨(some 107), none, .build 31 #[]⟩, ⟨(some 108), none, .build 31 #[(0, .const (.int .i64 1073741825))]⟩, ⟨(some 109), none, .build 31 #[(0, .const (.int .i64 1)), (1, .const (.int .i64 (-1)))]⟩, ⟨(some 110), none, .build 31 #[(0, .const (.int .i64 1)), (2, .const (.int .i64 1073741825))]⟩, ⟨(some 111), none, .build 31 #[(0, .const (.int .i64 1)), (6, .const (.int .i64 (-1)))]⟩, ⟨(some 112), none, .build 29 #[(0, .const (.int .i64 (-1)))]⟩, ⟨(some 113), none, .build 31 #[(0, .const (.int .i64 1)), (3, .tmp 112)]⟩, ⟨(some 114), none, .build 29 #[(1, .const (.int .i64 1))]⟩, ⟨(some 115), none, .build 31 #[(0, .const (.int .i64 1)), (5, .tmp 114)]⟩, ⟨(some 116), none, .build 29 #[(0, .const (.int .i64 65536))]⟩, ⟨(some 117), none, .build 31 #[(0, .const (.int .i64 1)), (4, .tmp 116)]⟩, ⟨(some 118), none, .buildSlice 65 8 #[(0, .tmp 107), (1, .tmp 108), (2, .tmp 109), (3, .tmp 110), (4, .tmp 111), (5, .tmp 113), (6, .tmp 115), (7, .tmp 117)]⟩, ⟨(some 9), none, .assign (.tmp 118)⟩])) (G_law17_TableForms_18))
def G_law17_TableForms_6 : GCode := .seq (.seq (.seq .weak (.region [⟨(some 4), none, .assign (.const (.int .i64 0))⟩])) (.block 0 (.loop (.seq .weak (.seq (.seq (.region [⟨(some 44), none, .move (.tmp 4)⟩, ⟨(some 45), none, .move (.tmp 2)⟩, ⟨(some 46), none, .call ⟨.builtin .len, #[.tmp 45], #[23]⟩⟩, ⟨(some 47), none, .binOp .lss 3 (.tmp 44) (.tmp 46) 3⟩]) (.cond (.tmp 47) (.skip) (.exit 0))) (.seq (.block 1 (.seq (.seq .weak (.region [⟨(some 51), none, .move (.tmp 2)⟩, ⟨(some 52), none, .move (.tmp 4)⟩, ⟨(some 53), none, .move (.tmp 4)⟩, ⟨(some 54), none, .binOp .add 3 (.tmp 53) (.const (.int .i64 1)) 3⟩, ⟨(some 55), none, .slice 23 (.tmp 51) (some (.tmp 52)) (some (.tmp 54)) none⟩, ⟨(some 56), none, .move (.tmp 1)⟩, ⟨(some 57), none, .call ⟨.value (.func 13), #[.tmp 55, .tmp 56], #[23, 24]⟩⟩, ⟨(some 58), none, .call ⟨.value (.func 18), #[.tmp 57], #[9]⟩⟩, ⟨(some 50), none, .move (.tmp 58)⟩, ⟨(some 59), none, .extract (.tmp 50) 0⟩, ⟨(some 60), none, .extract (.tmp 50) 1⟩, ⟨(some 61), none, .extract (.tmp 50) 2⟩, ⟨(some 5), none, .assign (.tmp 59)⟩, ⟨(some 6), none, .assign (.tmp 60)⟩, ⟨(some 7), none, .assign (.tmp 61)⟩])) (.seq (.seq .weak (.region [⟨(some 62), none, .move (.tmp 7)⟩, ⟨(some 63), none, .unOp .not 4 (.tmp 62)⟩, ⟨(some 64), none, .move (.tmp 63)⟩, ⟨(some 65), (some (64, false)), .move (.tmp 5)⟩, ⟨(some 66), (some (64, false)), .call ⟨.builtin .len, #[.tmp 65], #[23]⟩⟩, ⟨(some 67), (some (64, false)), .binOp .neq 3 (.tmp 66) (.const (.int .i64 1)) 3⟩, ⟨(some 68), none, .pick (.tmp 64) (.const (.bool true)) (.tmp 67)⟩, ⟨(some 69), none, .move (.tmp 68)⟩, ⟨(some 70), (some (69, false)), .move (.tmp 5)⟩, ⟨(some 71), (some (69, false)), .move (.tmp 2)⟩, ⟨(some 72), (some (69, false)), .move (.tmp 4)⟩, ⟨(some 73), (some (69, false)), .move (.tmp 4)⟩, ⟨(some 74), (some (69, false)), .binOp .add 3 (.tmp 73) (.const (.int .i64 1)) 3⟩, ⟨(some 75), (some (69, false)), .slice 23 (.tmp 71) (some (.tmp 72)) (some (.tmp 74)) none⟩, ⟨(some 76), (some (69, false)), .call ⟨.value (.func 22), #[.tmp 70, .tmp 75], #[23, 23]⟩⟩, ⟨(some 77), (some (69, false)), .unOp .not 4 (.tmp 76)⟩, ⟨(some 78), none, .pick (.tmp 69) (.const (.bool true)) (.tmp 77)⟩, ⟨(some 79), none, .move (.tmp 78)⟩, ⟨(some 80), (some (79, false)), .move (.tmp 6)⟩, ⟨(some 81), (some (79, false)), .call ⟨.builtin .len, #[.tmp 80], #[24]⟩⟩, ⟨(some 82), (some (79, false)), .binOp .neq 3 (.tmp 81) (.const (.int .i64 1)) 3⟩, ⟨(some 83), none, .pick (.tmp 79) (.const (.bool true)) (.tmp 82)⟩, ⟨(some 84), none, .move (.tmp 83)⟩, ⟨(some 85), (some (84, false)), .move (.tmp 6)⟩, ⟨(some 86), (some (84, false)), .indexAddr 24 (.tmp 85) (.const (.int .i64 0))⟩, ⟨(some 87), (some (84, false)), .load 29 (.tmp 86)⟩, ⟨(some 88), (some (84, false)), .move (.tmp 1)⟩, ⟨(some 89), (some (84, false)), .indexAddr 24 (.tmp 88) (.const (.int .i64 0))⟩, ⟨(some 90), (some (84, false)), .load 29 (.tmp 89)⟩, ⟨(some 91), (some (84, false)), .binOp .neq 29 (.tmp 87) (.tmp 90) 29⟩, ⟨(some 92), none, .pick (.tmp 84) (.const (.bool true)) (.tmp 91)⟩])) (.cond (.tmp 92) (.seq (.region [⟨(some 0), none, .assign (.const (.bool false))⟩]) (.ret)) (.skip))))) (.region [⟨(some 48), none, .move (.tmp 4)⟩, ⟨(some 49), none, .binOp .add 3 (.tmp 48) (.const (.int .i64 1)) 3⟩, ⟨(some 4), none, .assign (.tmp 49)⟩]))))))) (G_law17_TableForms_12)
def G_law17_TableForms : GCode := .seq (.region [⟨(some 0), none, .assign (.const (.bool false))⟩]) (.seq (.seq (.region [⟨(some 27), none, .call ⟨.value (.func 9), #[], #[]⟩⟩, ⟨(some 28), none, .unOp .not 4 (.tmp 27)⟩]) (.cond (.tmp 28) (.seq (.region [⟨(some 0), none, .assign (.const (.bool false))⟩]) (.ret)) (.skip))) (.seq (.region [⟨(some 29), none, .build 29 #[(0, .const (.int .i64 20)), (1, .const (.int .i64 1))]⟩, ⟨(some 30), none, .buildSlice 24 1 #[(0, .tmp 29)]⟩, ⟨(some 1), none, .assign (.tmp 30)⟩]) (.seq (.seq .weak (.region [⟨(some 31), none, .build 36 #[(0, .const (.int .i64 1)), (1, .const (.int .i64 1))]⟩, ⟨(some 32), none, .build 36 #[(0, .const (.int .i64 65535)), (1, .const (.int .i64 2)), (2, .const (.int .i64 65535)), (3, .const (.int .i64 255))]⟩, ⟨(some 33), none, .buildSlice 23 2 #[(0, .tmp 31), (1, .tmp 32)]⟩, ⟨(some 2), none, .assign (.tmp 33)⟩])) (.seq (.seq .weak (.region [⟨(some 34), none, .build 36 #[]⟩, ⟨(some 35), none, .build 36 #[(0, .const (.int .i64 0)), (1, .const (.int .i64 1))]⟩, ⟨(some 36), none, .build 36 #[(0, .const (.int .i64 65536)), (1, .const (.int .i64 1))]⟩, ⟨(some 37), none, .build 36 #[(0, .const (.int .i64 1))]⟩, ⟨(some 38), none, .build 36 #[(0, .const (.int .i64 1)), (1, .const (.int .i64 3))]⟩, ⟨(some 39), none, .build 36 #[(0, .const (.int .i64 1)), (1, .const (.int .i64 1)), (2, .const (.int .i64 (-1)))]⟩, ⟨(some 40), none, .build 36 #[(0, .const (.int .i64 1)), (1, .const (.int .i64 1)), (2, .const (.int .i64 65536))]⟩, ⟨(some 41), none, .build 36 #[(0, .const (.int .i64 1)), (1, .const (.int .i64 1)), (3, .const (.int .i64 (-1)))]⟩, ⟨(some 42), none, .build 36 #[(0, .const (.int .i64 1)), (1, .const (.int .i64 1)), (3, .const (.int .i64 256))]⟩, ⟨(some 43), none, .buildSlice 23 9 #[(0, .tmp 34), (1, .tmp 35), (2, .tmp 36), (3, .tmp 37), (4, .tmp 38), (5, .tmp 39), (6, .tmp 40), (7, .tmp 41), (8, .tmp 42)]⟩, ⟨(some 3), none, .assign (.tmp 43)⟩])) (G_law17_TableForms_6)))))
noncomputable def l_law17_TableForms : List (Nat × Con) := [(9, c_law17_begun), (13, c_table_Table), (18, c_table_TakeTable), (22, c_law17_same), (16, c_table_Root), (28, c_table_TakeSpace)]
noncomputable abbrev K_law17_TableForms : Ctx := ctx (cl l_law17_TableForms)
theorem geq_law17_TableForms : gof K_law17_TableForms Try.f6 = some G_law17_TableForms.strip := by kernel_rfl
theorem sys_law17_TableForms : Go.Eng.Sys Try.prog K_law17_TableForms := sys_of' ⟨ok_law17_begun, ok_table_Table, ok_table_TakeTable, ok_law17_same, ok_table_Root, ok_table_TakeSpace, trivial⟩
theorem hm_law17_TableForms : ConMono K_law17_TableForms := conMono_of sys_law17_TableForms.con
noncomputable def k_law17_TableForms_law17_begun := PLift.up (call_scal (C := K_law17_TableForms) (f := 9) (A := A_law17_begun) (p := p_law17_begun) (r := r_law17_begun) rfl)
noncomputable def k_law17_TableForms_table_Table := PLift.up (call_scal (C := K_law17_TableForms) (f := 13) (A := A_table_Table) (p := p_table_Table) (r := r_table_Table) rfl)
noncomputable def k_law17_TableForms_table_TakeTable := PLift.up (call_fn (C := K_law17_TableForms) (f := 18) (A := A_table_TakeTable) (p := p_table_TakeTable) (r := r_table_TakeTable) rfl)
noncomputable def k_law17_TableForms_law17_same := PLift.up (call_scal (C := K_law17_TableForms) (f := 22) (A := A_law17_same) (p := p_law17_same) (r := r_law17_same) rfl)
noncomputable def k_law17_TableForms_table_Root := PLift.up (call_scal (C := K_law17_TableForms) (f := 16) (A := A_table_Root) (p := p_table_Root) (r := r_table_Root) rfl)
noncomputable def k_law17_TableForms_table_TakeSpace := PLift.up (call_fn (C := K_law17_TableForms) (f := 28) (A := A_table_TakeSpace) (p := p_table_TakeSpace) (r := r_table_TakeSpace) rfl)
theorem made_zeros {C : Ctx} {T e : TypeId} {n m : Nat} {z : List TV} {de : TyD} {k k' : IntKind} {l c : Int} (h : C.ty T = some ⟨.slice e, n, m, z⟩) (he : C.ty e = some de) :
    madeB C T (.t (.int k l)) (.t (.int k' c)) = .val (0 ≤ l ∧ l ≤ c ∧ c * (de.bytes : Int) ≤ 140737488355328 ∧ c ≤ 140737488355328 ∧ 0 < de.size) (.t (.seq de.size (List.replicate l.toNat de.zero))) := by
  simp only [madeB, h, he]
theorem one_part {α : Type} [Inhabited α] {l : List α} {i : Nat} (h : i < l.length) : (l.take (i + 1)).drop i = [l.getD i default] := by
  rw [List.drop_take, List.getD_eq_getElem?_getD, List.getElem?_eq_getElem h, List.drop_eq_getElem_cons h, Nat.add_sub_cancel_left]
  rfl
theorem zeros_u8 : ∀ k, u8s? (List.replicate k [TV.int .u8 0]) = some (List.replicate k 0)
  | 0 => rfl
  | k + 1 => by rw [List.replicate_succ, u8s?, zeros_u8 k]; rfl
theorem zeros_conv (k : Nat) : convB K_law17_TableForms Store.empty 22 9 (.t (.seq 1 (List.replicate k [TV.int .u8 0]))) = .val True (.t (.str (List.replicate k 0))) := by simp [convB, ty_Luint8, ty_uint8, ty_string, zeros_u8]
set_option maxHeartbeats 4000000 in
theorem forms_30 {σ : St} (hσ : Wk σ (mkS [(1, .t (sl [p0])), (2, .t (sl gD)), (11, .t (sl dF)), (12, .t (sl nS)), (13, .t (sl nP))] .empty)) :
    avp K_law17_TableForms G_law17_TableForms_30 (Ret K_law17_TableForms [.tmp 0] fun v _ => v = .t (.bool true)) σ := by
  unfold G_law17_TableForms_30
  simp only [avp_seq]
  refine ⟨_, hσ, ?_⟩
  have l1 : ([0] : List UInt8).length ≤ 1000000 := by decide
  have l2 : ([] : List UInt8).length ≤ 1000000 := by decide
  simp only [vP.down, vS.down, vE.down, Nat.reduceEqDiff, Nat.reduceAdd, Nat.reduceSub, Nat.reduceMul, Nat.reduceLeDiff, Nat.reduceLT, Int.reduceToNat, reduceIte, reduceCtorEq, Int.reduceEq, Int.reduceLT, Int.reduceLE, ↓avp_condG, ↓tf_arrow, ↓ft_arrow, tf4, l1, k_law17_TableForms_table_TakeTable.down, A_table_TakeTable, p_table_TakeTable, r_table_TakeTable]
  refine weak_at [(1, .t (sl [p0])), (2, .t (sl gD)), (11, .t (sl dF)), (12, .t (sl nS)), (13, .t (sl nP)), (15, .t (sl ([] : List TDset))), (17, .t (.bool true))] .empty fewer_refl (by simp only [vP.down, vS.down, vE.down, Nat.reduceEqDiff, Nat.reduceAdd, Nat.reduceSub, Nat.reduceMul, Nat.reduceLeDiff, Nat.reduceLT, Int.reduceToNat, reduceIte, reduceCtorEq, Int.reduceEq, Int.reduceLT, Int.reduceLE, ↓avp_condG, ↓tf_arrow, ↓ft_arrow, wP.down]) ?_
  simp only [vP.down, vS.down, vE.down, Nat.reduceEqDiff, Nat.reduceAdd, Nat.reduceSub, Nat.reduceMul, Nat.reduceLeDiff, Nat.reduceLT, Int.reduceToNat, reduceIte, reduceCtorEq, Int.reduceEq, Int.reduceLT, Int.reduceLE, ↓avp_condG, ↓tf_arrow, ↓ft_arrow, tf5, l2, k_law17_TableForms_table_TakeTable.down, A_table_TakeTable, p_table_TakeTable, r_table_TakeTable]
  refine weak_at [(1, .t (sl [p0])), (2, .t (sl gD)), (11, .t (sl dF)), (12, .t (sl nS)), (13, .t (sl nP)), (15, .t (sl ([] : List TDset))), (17, .t (.bool true)), (20, .t (.bool false))] .empty fewer_refl (by simp only [vP.down, vS.down, vE.down, Nat.reduceEqDiff, Nat.reduceAdd, Nat.reduceSub, Nat.reduceMul, Nat.reduceLeDiff, Nat.reduceLT, Int.reduceToNat, reduceIte, reduceCtorEq, Int.reduceEq, Int.reduceLT, Int.reduceLE, ↓avp_condG, ↓tf_arrow, ↓ft_arrow, wP.down]) ?_
  have m19 := made_zeros (k := .i64) (k' := .i64) (l := 19) (c := 19) (C := K_law17_TableForms) ty_Luint8 ty_uint8
  have m21 := made_zeros (k := .i64) (k' := .i64) (l := 21) (c := 21) (C := K_law17_TableForms) ty_Luint8 ty_uint8
  have m20 := made_zeros (k := .i64) (k' := .i64) (l := 20) (c := 20) (C := K_law17_TableForms) ty_Luint8 ty_uint8
  have n19 : (19 : Int).toNat = 19 := rfl
  have n20 : (20 : Int).toNat = 20 := rfl
  have n21 : (21 : Int).toNat = 21 := rfl
  have v19 := zeros_conv 19
  have v20 := zeros_conv 20
  have v21 := zeros_conv 21
  have l19 : (List.replicate 19 (0 : UInt8)).length ≤ 1000000 := by decide
  have l20 : (List.replicate 20 (0 : UInt8)).length ≤ 1000000 := by decide
  have l21 : (List.replicate 21 (0 : UInt8)).length ≤ 1000000 := by decide
  rw [n19] at m19
  rw [n20] at m20
  rw [n21] at m21
  simp only [vP.down, vS.down, vE.down, Nat.reduceEqDiff, Nat.reduceAdd, Nat.reduceSub, Nat.reduceMul, Nat.reduceLeDiff, Nat.reduceLT, Int.reduceToNat, reduceIte, reduceCtorEq, Int.reduceEq, Int.reduceLT, Int.reduceLE, ↓avp_condG, ↓tf_arrow, ↓ft_arrow, m19, n19, v19, tf6, l19, spC, k_law17_TableForms_table_TakeSpace.down, A_table_TakeSpace, p_table_TakeSpace, r_table_TakeSpace]
  refine ⟨by decide, fun g hg g1 hg1 => ?_⟩
  refine weak_at [(1, .t (sl [p0])), (2, .t (sl gD)), (11, .t (sl dF)), (12, .t (sl nS)), (13, .t (sl nP)), (15, .t (sl ([] : List TDset))), (17, .t (.bool true)), (20, .t (.bool false)), (22, .t (.bool false))] .empty fewer_empty (by simp only [vP.down, vS.down, vE.down, Nat.reduceEqDiff, Nat.reduceAdd, Nat.reduceSub, Nat.reduceMul, Nat.reduceLeDiff, Nat.reduceLT, Int.reduceToNat, reduceIte, reduceCtorEq, Int.reduceEq, Int.reduceLT, Int.reduceLE, ↓avp_condG, ↓tf_arrow, ↓ft_arrow, wP.down, spC]) ?_
  clear hg hg1
  simp only [vP.down, vS.down, vE.down, Nat.reduceEqDiff, Nat.reduceAdd, Nat.reduceSub, Nat.reduceMul, Nat.reduceLeDiff, Nat.reduceLT, Int.reduceToNat, reduceIte, reduceCtorEq, Int.reduceEq, Int.reduceLT, Int.reduceLE, ↓avp_condG, ↓tf_arrow, ↓ft_arrow, m21, n21, v21, tf7, l21, spC, k_law17_TableForms_table_TakeSpace.down, A_table_TakeSpace, p_table_TakeSpace, r_table_TakeSpace]
  refine ⟨by decide, fun g hg g1 hg1 => ?_⟩
  refine weak_at [(1, .t (sl [p0])), (2, .t (sl gD)), (11, .t (sl dF)), (12, .t (sl nS)), (13, .t (sl nP)), (15, .t (sl ([] : List TDset))), (17, .t (.bool true)), (20, .t (.bool false)), (22, .t (.bool false)), (24, .t (.bool false))] .empty fewer_empty (by simp only [vP.down, vS.down, vE.down, Nat.reduceEqDiff, Nat.reduceAdd, Nat.reduceSub, Nat.reduceMul, Nat.reduceLeDiff, Nat.reduceLT, Int.reduceToNat, reduceIte, reduceCtorEq, Int.reduceEq, Int.reduceLT, Int.reduceLE, ↓avp_condG, ↓tf_arrow, ↓ft_arrow, wP.down, spC]) ?_
  clear hg hg1
  simp only [vP.down, vS.down, vE.down, Nat.reduceEqDiff, Nat.reduceAdd, Nat.reduceSub, Nat.reduceMul, Nat.reduceLeDiff, Nat.reduceLT, Int.reduceToNat, reduceIte, reduceCtorEq, Int.reduceEq, Int.reduceLT, Int.reduceLE, ↓avp_condG, ↓tf_arrow, ↓ft_arrow, m20, n20, v20, tf8, l20, spC, k_law17_TableForms_table_TakeSpace.down, A_table_TakeSpace, p_table_TakeSpace, r_table_TakeSpace]
  refine ⟨by decide, fun g hg g1 hg1 => ?_⟩
  refine weak_at [(1, .t (sl [p0])), (2, .t (sl gD)), (11, .t (sl dF)), (12, .t (sl nS)), (13, .t (sl nP)), (15, .t (sl ([] : List TDset))), (17, .t (.bool true)), (20, .t (.bool false)), (22, .t (.bool false)), (24, .t (.bool false)), (26, .t (.bool true))] .empty fewer_empty (by simp only [vP.down, vS.down, vE.down, Nat.reduceEqDiff, Nat.reduceAdd, Nat.reduceSub, Nat.reduceMul, Nat.reduceLeDiff, Nat.reduceLT, Int.reduceToNat, reduceIte, reduceCtorEq, Int.reduceEq, Int.reduceLT, Int.reduceLE, ↓avp_condG, ↓tf_arrow, ↓ft_arrow, wP.down, spC]) ?_
  clear hg hg1
  have e0 : (([] : List TDset).length : Int) = 0 := rfl
  have x1 : idxB K_law17_TableForms 24 (.t (sl [p0])) (.t (.int .i64 0)) = .val True (.imm [.int .i64 20, .int .i64 1, .int .u32 0, .int .u32 0, .int .u32 0, .int .u32 0]) := idx_at (l := [p0]) (i := 0) ty_Lapi_Ptr ty_api_Ptr rfl (by decide) .i64
  have lS : nS.length = 9 := rfl
  have lP : nP.length = 9 := rfl
  have lG : gD.length = 2 := rfl
  have l225 : ((tabB (nS.take 8) (nP.take 8)).length : Int) = 225 := by rw [tf12]; rfl
  simp only [vP.down, vS.down, vE.down, Nat.reduceEqDiff, Nat.reduceAdd, Nat.reduceSub, Nat.reduceMul, Nat.reduceLeDiff, Nat.reduceLT, Int.reduceToNat, reduceIte, reduceCtorEq, Int.reduceEq, Int.reduceLT, Int.reduceLE, ↓avp_condG, ↓tf_arrow, ↓ft_arrow, e0, x1, u0_dec, Option.bind_some, Option.map_some, p0_eta, pz_eta, lS, lP, lG, l225, tf9, tf10, tf11, tf13, tf14, pick_of, pick_ot, k_law17_TableForms_table_Table.down, A_table_Table, p_table_Table, r_table_Table]
  simp only [vP.down, vS.down, vE.down, Nat.reduceEqDiff, Nat.reduceAdd, Nat.reduceSub, Nat.reduceMul, Nat.reduceLeDiff, Nat.reduceLT, Int.reduceToNat, reduceIte, reduceCtorEq, Int.reduceEq, Int.reduceLT, Int.reduceLE, ↓avp_condG, ↓tf_arrow, ↓ft_arrow, vT.down]
def mP : Nat → List TPtr
  | 0 => List.replicate 9 zeroP
  | i + 1 => (mP i).set i ⟨((i + 1 : Nat) : Int), 0, (0, 0, 0, 0)⟩
def mD : Nat → List TD0
  | 0 => List.replicate 9 ⟨0, 0, 0, 0⟩
  | i + 1 => (mD i).set i ⟨((i + 1 : Nat) : Int), 1, 0, 0⟩
theorem mP_len : ∀ i, (mP i).length = 9
  | 0 => rfl
  | i + 1 => by rw [mP, List.length_set, mP_len i]
theorem mD_len : ∀ i, (mD i).length = 9
  | 0 => rfl
  | i + 1 => by rw [mD, List.length_set, mD_len i]
instance inhTD0 : Inhabited TD0 := ⟨⟨0, 0, 0, 0⟩⟩
theorem row_d0 {M : List TD0} {i : Nat} (h : i < M.length) : (M.map Cell.enc).getD i [] = [.int .i64 (M.getD i default).a, .int .i64 (M.getD i default).b, .int .i64 (M.getD i default).c, .int .i64 (M.getD i default).d, .nilS] := by
  rw [row_get h]; rfl
theorem put_d0 {M : List TD0} {i : Nat} {a b c d : Int} (h : i < M.length) : putRow (M.map Cell.enc) i 0 [.int .i64 a, .int .i64 b, .int .i64 c, .int .i64 d, .nilS] = (M.set i ⟨a, b, c, d⟩).map Cell.enc := by
  rw [List.map_set, putRow, row_d0 h]
  rfl
set_option maxHeartbeats 4000000 in
theorem forms_26 {σ : St} {g g2 : Nat} (hn : g ≠ g2) (S0 : Store) (h1 : S0.f g = some (.row 5 ((mD 0).map Cell.enc) false)) (h2 : S0.f g2 = some (.row 6 ((mP 0).map Cell.enc) false)) (hσ : Wk σ (mkS [(1, .t (sl [p0])), (2, .t (sl gD)), (11, .t (sl dF)), (12, .tok g 5 0 9), (13, .tok g2 6 0 9)] S0)) :
    avp K_law17_TableForms G_law17_TableForms_26 (Ret K_law17_TableForms [.tmp 0] fun v _ => v = .t (.bool true)) σ := by
  unfold G_law17_TableForms_26
  simp only [avp_seq]
  refine ⟨_, hσ, ?_⟩
  simp only [vP.down, vS.down, vE.down, Nat.reduceEqDiff, Nat.reduceAdd, Nat.reduceSub, Nat.reduceMul, Nat.reduceLeDiff, Nat.reduceLT, Int.reduceToNat, reduceIte, reduceCtorEq, Int.reduceEq, Int.reduceLT, Int.reduceLE, ↓avp_condG, ↓tf_arrow, ↓ft_arrow]
  refine loop_weak hm_law17_TableForms (fun m σ => ∃ (i : Nat) (S : Store), m = 9 - i ∧ i ≤ 9 ∧ S.f g = some (.row 5 ((mD i).map Cell.enc) false) ∧ S.f g2 = some (.row 6 ((mP i).map Cell.enc) false) ∧ σ = mkS [(1, .t (sl [p0])), (2, .t (sl gD)), (11, .t (sl dF)), (12, .tok g 5 0 9), (13, .tok g2 6 0 9), (14, .t (.int .i64 (i : Nat)))] S) ⟨0, S0, rfl, by omega, h1, h2, rfl⟩ (wk_to fewer_refl (by simp only [vP.down, vS.down, vE.down, Nat.reduceEqDiff, Nat.reduceAdd, Nat.reduceSub, Nat.reduceMul, Nat.reduceLeDiff, Nat.reduceLT, Int.reduceToNat, reduceIte, reduceCtorEq, Int.reduceEq, Int.reduceLT, Int.reduceLE, ↓avp_condG, ↓tf_arrow, ↓ft_arrow, wP.down, Int.natCast_zero])) ?_
  rintro m _ ⟨i, S, rfl, hi, f1, f2, rfl⟩
  have hi1 : IntKind.i64.wrap ((i : Int) + 1) = ((i + 1 : Nat) : Int) := by rw [IntWalk.i64_in _ (by omega)]; rfl
  by_cases hlt : i < 9
  case neg =>
    obtain rfl : i = 9 := by omega
    have hge : ¬ ((9 : Int) < 9) := by omega
    simp only [vP.down, vS.down, vE.down, Nat.reduceEqDiff, Nat.reduceAdd, Nat.reduceSub, Nat.reduceMul, Nat.reduceLeDiff, Nat.reduceLT, Int.reduceToNat, reduceIte, reduceCtorEq, Int.reduceEq, Int.reduceLT, Int.reduceLE, ↓avp_condG, ↓tf_arrow, ↓ft_arrow, hge, show ((9 : Nat) : Int) = 9 from rfl]
    have d1 : Cell.dec [TV.seq 5 ((mD 9).map Cell.enc)] = some nS := rfl
    have d2 : Cell.dec [TV.seq 6 ((mP 9).map Cell.enc)] = some nP := rfl
    exact forms_30 (wk_to fewer_empty (by
      simp only [vP.down, vS.down, vE.down, Nat.reduceEqDiff, Nat.reduceAdd, Nat.reduceSub, Nat.reduceMul, Nat.reduceLeDiff, Nat.reduceLT, Int.reduceToNat, reduceIte, reduceCtorEq, Int.reduceEq, Int.reduceLT, Int.reduceLE, ↓avp_condG, ↓tf_arrow, ↓ft_arrow, wP.down]
      exact ⟨w2_rows f1 rfl d1 rfl, w2_rows f2 rfl d2 rfl⟩))
  have hlt' : (i : Int) < 9 := by omega
  have hi0 : (0 : Int) ≤ (i : Int) := by omega
  have q1 := put_d0 (M := mD i) (i := i) (a := ((i + 1 : Nat) : Int)) (b := 1) (c := 0) (d := 0) (by rw [mD_len]; exact hlt)
  have q2 : putRow ((mP i).map Cell.enc) i 0 [.int .i64 ((i + 1 : Nat) : Int), .int .i64 0, .int .u32 0, .int .u32 0, .int .u32 0, .int .u32 0] = (mP (i + 1)).map Cell.enc := fix_put (M := mP i) (i := i) (x := ⟨((i + 1 : Nat) : Int), 0, (0, 0, 0, 0)⟩) (by rw [mP_len]; exact hlt)
  have q1 : putRow ((mD i).map Cell.enc) i 0 [.int .i64 ((i + 1 : Nat) : Int), .int .i64 1, .int .i64 0, .int .i64 0, .nilS] = (mD (i + 1)).map Cell.enc := q1
  have r1 := row_d0 (M := mD i) (i := i) (by rw [mD_len]; exact hlt)
  have r2 := row_ptr (M := mP i) (i := i) (by rw [mP_len]; exact hlt)
  have l1 : ((mD i).map Cell.enc).length = 9 := by rw [List.length_map, mD_len]
  have l2 : ((mP i).map Cell.enc).length = 9 := by rw [List.length_map, mP_len]
  simp only [vP.down, vS.down, vE.down, Nat.reduceEqDiff, Nat.reduceAdd, Nat.reduceSub, Nat.reduceMul, Nat.reduceLeDiff, Nat.reduceLT, Int.reduceToNat, reduceIte, reduceCtorEq, Int.reduceEq, Int.reduceLT, Int.reduceLE, ↓avp_condG, ↓tf_arrow, ↓ft_arrow, hlt']
  refine weak_at [(1, .t (sl [p0])), (2, .t (sl gD)), (11, .t (sl dF)), (12, .tok g 5 0 9), (13, .tok g2 6 0 9), (14, .t (.int .i64 (i : Nat)))] S fewer_refl (by simp only [vP.down, vS.down, vE.down, Nat.reduceEqDiff, Nat.reduceAdd, Nat.reduceSub, Nat.reduceMul, Nat.reduceLeDiff, Nat.reduceLT, Int.reduceToNat, reduceIte, reduceCtorEq, Int.reduceEq, Int.reduceLT, Int.reduceLE, ↓avp_condG, ↓tf_arrow, ↓ft_arrow, wP.down]) ?_
  simp only [vP.down, vS.down, vE.down, Nat.reduceEqDiff, Nat.reduceAdd, Nat.reduceSub, Nat.reduceMul, Nat.reduceLeDiff, Nat.reduceLT, Int.reduceToNat, reduceIte, reduceCtorEq, Int.reduceEq, Int.reduceLT, Int.reduceLE, ↓avp_condG, ↓tf_arrow, ↓ft_arrow, f1, f2, hi1, hlt, hlt', hi0, q1, q2, r1, r2, l1, l2, ptC, hn, hn.symm, set_f]
  refine ⟨by rw [mD_len]; exact hlt, by simp, by rw [mP_len]; exact hlt, by simp, ?_⟩
  exact round_to (9 - (i + 1)) [(1, .t (sl [p0])), (2, .t (sl gD)), (11, .t (sl dF)), (12, .tok g 5 0 9), (13, .tok g2 6 0 9), (14, .t (.int .i64 (i + 1 : Nat)))] ((S.set g (some (.row 5 ((mD (i + 1)).map Cell.enc) false))).set g2 (some (.row 6 ((mP (i + 1)).map Cell.enc) false))) (by omega) fewer_refl (by simp only [vP.down, vS.down, vE.down, Nat.reduceEqDiff, Nat.reduceAdd, Nat.reduceSub, Nat.reduceMul, Nat.reduceLeDiff, Nat.reduceLT, Int.reduceToNat, reduceIte, reduceCtorEq, Int.reduceEq, Int.reduceLT, Int.reduceLE, ↓avp_condG, ↓tf_arrow, ↓ft_arrow, wP.down]) ⟨i + 1, _, rfl, by omega, by rw [Store.set_other _ _ hn]; exact Store.set_same _ _ _, Store.set_same _ _ _, rfl⟩
set_option maxHeartbeats 4000000 in
theorem forms_23 {σ : St} (hσ : Wk σ (mkS [(1, .t (sl [p0])), (2, .t (sl gD))] .empty)) :
    avp K_law17_TableForms G_law17_TableForms_23 (Ret K_law17_TableForms [.tmp 0] fun v _ => v = .t (.bool true)) σ := by
  unfold G_law17_TableForms_23
  simp only [avp_seq]
  refine ⟨_, hσ, ?_⟩
  simp only [vP.down, vS.down, vE.down, Nat.reduceEqDiff, Nat.reduceAdd, Nat.reduceSub, Nat.reduceMul, Nat.reduceLeDiff, Nat.reduceLT, Int.reduceToNat, reduceIte, reduceCtorEq, Int.reduceEq, Int.reduceLT, Int.reduceLE, ↓avp_condG, ↓tf_arrow, ↓ft_arrow]
  intro g11 hg11
  have hdec : Cell.dec [TV.seq 5 [[.int .i64 2, .int .i64 1, .int .i64 0, .int .i64 0, .nilS], [.int .i64 2, .int .i64 1, .int .i64 0, .int .i64 0, .nilS]]] = some dF := rfl
  refine weak_at [(1, .t (sl [p0])), (2, .t (sl gD)), (11, .t (sl dF))] .empty fewer_empty (by
    simp only [vP.down, vS.down, vE.down, Nat.reduceEqDiff, Nat.reduceAdd, Nat.reduceSub, Nat.reduceMul, Nat.reduceLeDiff, Nat.reduceLT, Int.reduceToNat, reduceIte, reduceCtorEq, Int.reduceEq, Int.reduceLT, Int.reduceLE, ↓avp_condG, ↓tf_arrow, ↓ft_arrow, wP.down]
    exact w2_rows (Store.set_same _ _ _) rfl hdec rfl) ?_
  clear hg11
  simp only [vP.down, vS.down, vE.down, Nat.reduceEqDiff, Nat.reduceAdd, Nat.reduceSub, Nat.reduceMul, Nat.reduceLeDiff, Nat.reduceLT, Int.reduceToNat, reduceIte, reduceCtorEq, Int.reduceEq, Int.reduceLT, Int.reduceLE, ↓avp_condG, ↓tf_arrow, ↓ft_arrow, show (9 : Int).toNat = 9 from rfl]
  refine ⟨by decide, fun g hg => ?_⟩
  have hz5 : (List.replicate 9 [TV.int .i64 0, .int .i64 0, .int .i64 0, .int .i64 0, .nilS]) = (mD 0).map Cell.enc := rfl
  have hz6 : (List.replicate 9 [TV.int .i64 0, .int .i64 0, .int .u32 0, .int .u32 0, .int .u32 0, .int .u32 0]) = (mP 0).map Cell.enc := rfl
  rw [hz5]
  refine weak_at [(1, .t (sl [p0])), (2, .t (sl gD)), (11, .t (sl dF)), (12, .tok g 5 0 9)] (Store.empty.set g (some (.row 5 ((mD 0).map Cell.enc) false))) fewer_refl (by simp only [vP.down, vS.down, vE.down, Nat.reduceEqDiff, Nat.reduceAdd, Nat.reduceSub, Nat.reduceMul, Nat.reduceLeDiff, Nat.reduceLT, Int.reduceToNat, reduceIte, reduceCtorEq, Int.reduceEq, Int.reduceLT, Int.reduceLE, ↓avp_condG, ↓tf_arrow, ↓ft_arrow, wP.down]) ?_
  simp only [vP.down, vS.down, vE.down, Nat.reduceEqDiff, Nat.reduceAdd, Nat.reduceSub, Nat.reduceMul, Nat.reduceLeDiff, Nat.reduceLT, Int.reduceToNat, reduceIte, reduceCtorEq, Int.reduceEq, Int.reduceLT, Int.reduceLE, ↓avp_condG, ↓tf_arrow, ↓ft_arrow, show (9 : Int).toNat = 9 from rfl]
  refine ⟨by decide, fun g2 hg2 => ?_⟩
  rw [hz6]
  have hn := Store.ne_new hg2
  exact forms_26 (g := g) (g2 := g2) hn.symm ((Store.empty.set g (some (.row 5 ((mD 0).map Cell.enc) false))).set g2 (some (.row 6 ((mP 0).map Cell.enc) false))) (by rw [Store.set_other _ _ hn.symm]; exact Store.set_same _ _ _) (Store.set_same _ _ _) (wk_to fewer_refl (by simp only [vP.down, vS.down, vE.down, Nat.reduceEqDiff, Nat.reduceAdd, Nat.reduceSub, Nat.reduceMul, Nat.reduceLeDiff, Nat.reduceLT, Int.reduceToNat, reduceIte, reduceCtorEq, Int.reduceEq, Int.reduceLT, Int.reduceLE, ↓avp_condG, ↓tf_arrow, ↓ft_arrow, wP.down]))
theorem forms_18 {σ : St} (hσ : Wk σ (mkS [(1, .t (sl [p0])), (2, .t (sl gD)), (9, .t (sl rF))] .empty)) :
    avp K_law17_TableForms G_law17_TableForms_18 (Ret K_law17_TableForms [.tmp 0] fun v _ => v = .t (.bool true)) σ := by
  unfold G_law17_TableForms_18
  simp only [avp_seq]
  refine ⟨_, hσ, ?_⟩
  have hb : rF.length = 8 := rfl
  simp only [vP.down, vS.down, vE.down, Nat.reduceEqDiff, Nat.reduceAdd, Nat.reduceSub, Nat.reduceMul, Nat.reduceLeDiff, Nat.reduceLT, Int.reduceToNat, reduceIte, reduceCtorEq, Int.reduceEq, Int.reduceLT, Int.reduceLE, ↓avp_condG, ↓tf_arrow, ↓ft_arrow]
  refine loop_weak hm_law17_TableForms (fun m σ => ∃ i : Nat, m = 8 - i ∧ i ≤ 8 ∧ σ = mkS [(1, .t (sl [p0])), (2, .t (sl gD)), (9, .t (sl rF)), (10, .t (.int .i64 (i : Nat)))] .empty) ⟨0, rfl, by omega, rfl⟩ (wk_to fewer_refl (by simp only [vP.down, vS.down, vE.down, Nat.reduceEqDiff, Nat.reduceAdd, Nat.reduceSub, Nat.reduceMul, Nat.reduceLeDiff, Nat.reduceLT, Int.reduceToNat, reduceIte, reduceCtorEq, Int.reduceEq, Int.reduceLT, Int.reduceLE, ↓avp_condG, ↓tf_arrow, ↓ft_arrow, wP.down, Int.natCast_zero])) ?_
  rintro m _ ⟨i, rfl, hi, rfl⟩
  have hi1 : IntKind.i64.wrap ((i : Int) + 1) = ((i + 1 : Nat) : Int) := by rw [IntWalk.i64_in _ (by omega)]; rfl
  by_cases hlt : i < 8
  case neg =>
    obtain rfl : i = 8 := by omega
    have hge : ¬ ((8 : Int) < 8) := by omega
    simp only [vP.down, vS.down, vE.down, Nat.reduceEqDiff, Nat.reduceAdd, Nat.reduceSub, Nat.reduceMul, Nat.reduceLeDiff, Nat.reduceLT, Int.reduceToNat, reduceIte, reduceCtorEq, Int.reduceEq, Int.reduceLT, Int.reduceLE, ↓avp_condG, ↓tf_arrow, ↓ft_arrow, hb, hge, show ((8 : Nat) : Int) = 8 from rfl]
    exact forms_23 (wk_to fewer_refl (by simp only [vP.down, vS.down, vE.down, Nat.reduceEqDiff, Nat.reduceAdd, Nat.reduceSub, Nat.reduceMul, Nat.reduceLeDiff, Nat.reduceLT, Int.reduceToNat, reduceIte, reduceCtorEq, Int.reduceEq, Int.reduceLT, Int.reduceLE, ↓avp_condG, ↓tf_arrow, ↓ft_arrow, wP.down]))
  have hlt' : (i : Int) < 8 := by omega
  have x0 := idx_at (C := K_law17_TableForms) (l := rF) (i := i) ty_Lapi_Root ty_api_Root rfl (by omega) .i64
  have hmem : rF.getD i default ∈ rF := by
    rw [List.getD_eq_getElem?_getD, List.getElem?_eq_getElem (by omega)]; exact List.getElem_mem _
  have e1 := tf3 _ hmem
  obtain ⟨q, hq⟩ : ∃ q, q = rF.getD i default := ⟨_, rfl⟩
  rw [← hq] at x0 e1
  simp only [vP.down, vS.down, vE.down, Nat.reduceEqDiff, Nat.reduceAdd, Nat.reduceSub, Nat.reduceMul, Nat.reduceLeDiff, Nat.reduceLT, Int.reduceToNat, reduceIte, reduceCtorEq, Int.reduceEq, Int.reduceLT, Int.reduceLE, ↓avp_condG, ↓tf_arrow, ↓ft_arrow, hb, show ((8 : Nat) : Int) = 8 from rfl, hlt']
  refine weak_at [(1, .t (sl [p0])), (2, .t (sl gD)), (9, .t (sl rF)), (10, .t (.int .i64 (i : Nat)))] .empty fewer_refl (by simp only [vP.down, vS.down, vE.down, Nat.reduceEqDiff, Nat.reduceAdd, Nat.reduceSub, Nat.reduceMul, Nat.reduceLeDiff, Nat.reduceLT, Int.reduceToNat, reduceIte, reduceCtorEq, Int.reduceEq, Int.reduceLT, Int.reduceLE, ↓avp_condG, ↓tf_arrow, ↓ft_arrow, wP.down]) ?_
  simp only [vP.down, vS.down, vE.down, Nat.reduceEqDiff, Nat.reduceAdd, Nat.reduceSub, Nat.reduceMul, Nat.reduceLeDiff, Nat.reduceLT, Int.reduceToNat, reduceIte, reduceCtorEq, Int.reduceEq, Int.reduceLT, Int.reduceLE, ↓avp_condG, ↓tf_arrow, ↓ft_arrow, x0, e1, bne_self_eq_false, false_implies, k_law17_TableForms_table_Root.down, A_table_Root, p_table_Root, r_table_Root]
  exact round_to (8 - (i + 1)) [(1, .t (sl [p0])), (2, .t (sl gD)), (9, .t (sl rF)), (10, .t (.int .i64 (i + 1 : Nat)))] .empty (by omega) fewer_refl (by simp only [vP.down, vS.down, vE.down, Nat.reduceEqDiff, Nat.reduceAdd, Nat.reduceSub, Nat.reduceMul, Nat.reduceLeDiff, Nat.reduceLT, Int.reduceToNat, reduceIte, reduceCtorEq, Int.reduceEq, Int.reduceLT, Int.reduceLE, ↓avp_condG, ↓tf_arrow, ↓ft_arrow, wP.down, hi1]) ⟨i + 1, rfl, by omega, rfl⟩
set_option maxHeartbeats 4000000 in
theorem forms_12 {σ : St} (hσ : Wk σ (mkS [(1, .t (sl [p0])), (2, .t (sl gD)), (3, .t (sl bF))] .empty)) :
    avp K_law17_TableForms G_law17_TableForms_12 (Ret K_law17_TableForms [.tmp 0] fun v _ => v = .t (.bool true)) σ := by
  unfold G_law17_TableForms_12
  simp only [avp_seq]
  refine ⟨_, hσ, ?_⟩
  have hb : bF.length = 9 := rfl
  simp only [vP.down, vS.down, vE.down, Nat.reduceEqDiff, Nat.reduceAdd, Nat.reduceSub, Nat.reduceMul, Nat.reduceLeDiff, Nat.reduceLT, Int.reduceToNat, reduceIte, reduceCtorEq, Int.reduceEq, Int.reduceLT, Int.reduceLE, ↓avp_condG, ↓tf_arrow, ↓ft_arrow]
  refine loop_weak hm_law17_TableForms (fun m σ => ∃ i : Nat, m = 9 - i ∧ i ≤ 9 ∧ σ = mkS [(1, .t (sl [p0])), (2, .t (sl gD)), (3, .t (sl bF)), (8, .t (.int .i64 (i : Nat)))] .empty) ⟨0, rfl, by omega, rfl⟩ (wk_to fewer_refl (by simp only [vP.down, vS.down, vE.down, Nat.reduceEqDiff, Nat.reduceAdd, Nat.reduceSub, Nat.reduceMul, Nat.reduceLeDiff, Nat.reduceLT, Int.reduceToNat, reduceIte, reduceCtorEq, Int.reduceEq, Int.reduceLT, Int.reduceLE, ↓avp_condG, ↓tf_arrow, ↓ft_arrow, wP.down, Int.natCast_zero])) ?_
  rintro m _ ⟨i, rfl, hi, rfl⟩
  have hi1 : IntKind.i64.wrap ((i : Int) + 1) = ((i + 1 : Nat) : Int) := by rw [IntWalk.i64_in _ (by omega)]; rfl
  by_cases hlt : i < 9
  case neg =>
    obtain rfl : i = 9 := by omega
    have hge : ¬ ((9 : Int) < 9) := by omega
    simp only [vP.down, vS.down, vE.down, Nat.reduceEqDiff, Nat.reduceAdd, Nat.reduceSub, Nat.reduceMul, Nat.reduceLeDiff, Nat.reduceLT, Int.reduceToNat, reduceIte, reduceCtorEq, Int.reduceEq, Int.reduceLT, Int.reduceLE, ↓avp_condG, ↓tf_arrow, ↓ft_arrow, hb, hge, show ((9 : Nat) : Int) = 9 from rfl]
    refine weak_at [(1, .t (sl [p0])), (2, .t (sl gD))] .empty fewer_refl (by simp only [vP.down, vS.down, vE.down, Nat.reduceEqDiff, Nat.reduceAdd, Nat.reduceSub, Nat.reduceMul, Nat.reduceLeDiff, Nat.reduceLT, Int.reduceToNat, reduceIte, reduceCtorEq, Int.reduceEq, Int.reduceLT, Int.reduceLE, ↓avp_condG, ↓tf_arrow, ↓ft_arrow, wP.down]) ?_
    simp only [vP.down, vS.down, vE.down, Nat.reduceEqDiff, Nat.reduceAdd, Nat.reduceSub, Nat.reduceMul, Nat.reduceLeDiff, Nat.reduceLT, Int.reduceToNat, reduceIte, reduceCtorEq, Int.reduceEq, Int.reduceLT, Int.reduceLE, ↓avp_condG, ↓tf_arrow, ↓ft_arrow]
    intro g9 hg9
    have hdec : Cell.dec [TV.seq 22 rRows] = some rF := rfl
    refine forms_18 (wk_to fewer_empty (by
      simp only [vP.down, vS.down, vE.down, Nat.reduceEqDiff, Nat.reduceAdd, Nat.reduceSub, Nat.reduceMul, Nat.reduceLeDiff, Nat.reduceLT, Int.reduceToNat, reduceIte, reduceCtorEq, Int.reduceEq, Int.reduceLT, Int.reduceLE, ↓avp_condG, ↓tf_arrow, ↓ft_arrow, wP.down]
      exact w2_rows (Store.set_same _ _ _) rfl hdec rfl))
  have hlt' : (i : Int) < 9 := by omega
  have hmem : bF.getD i default ∈ bF := by
    rw [List.getD_eq_getElem?_getD, List.getElem?_eq_getElem (by omega)]; exact List.getElem_mem _
  have e1 := tf2 _ hmem
  have e0 := one_part (l := bF) (i := i) (by omega)
  obtain ⟨q, hq⟩ : ∃ q, q = bF.getD i default := ⟨_, rfl⟩
  rw [← hq] at e0 e1
  have b1 : (0 : Int) ≤ (i : Int) := by omega
  have b2 : (i : Int) ≤ ((i + 1 : Nat) : Int) := by omega
  have b3 : ((i + 1 : Nat) : Int) ≤ 9 := by omega
  simp only [vP.down, vS.down, vE.down, Nat.reduceEqDiff, Nat.reduceAdd, Nat.reduceSub, Nat.reduceMul, Nat.reduceLeDiff, Nat.reduceLT, Int.reduceToNat, reduceIte, reduceCtorEq, Int.reduceEq, Int.reduceLT, Int.reduceLE, ↓avp_condG, ↓tf_arrow, ↓ft_arrow, hb, show ((9 : Nat) : Int) = 9 from rfl, hlt']
  refine weak_at [(1, .t (sl [p0])), (2, .t (sl gD)), (3, .t (sl bF)), (8, .t (.int .i64 (i : Nat)))] .empty fewer_refl (by simp only [vP.down, vS.down, vE.down, Nat.reduceEqDiff, Nat.reduceAdd, Nat.reduceSub, Nat.reduceMul, Nat.reduceLeDiff, Nat.reduceLT, Int.reduceToNat, reduceIte, reduceCtorEq, Int.reduceEq, Int.reduceLT, Int.reduceLE, ↓avp_condG, ↓tf_arrow, ↓ft_arrow, wP.down]) ?_
  simp only [vP.down, vS.down, vE.down, Nat.reduceEqDiff, Nat.reduceAdd, Nat.reduceSub, Nat.reduceMul, Nat.reduceLeDiff, Nat.reduceLT, Int.reduceToNat, reduceIte, reduceCtorEq, Int.reduceEq, Int.reduceLT, Int.reduceLE, ↓avp_condG, ↓tf_arrow, ↓ft_arrow, hi1, hb, show ((9 : Nat) : Int) = 9 from rfl, b1, b2, b3, e0, e1, bne_self_eq_false, false_implies, k_law17_TableForms_table_Table.down, A_table_Table, p_table_Table, r_table_Table]
  exact round_to (9 - (i + 1)) [(1, .t (sl [p0])), (2, .t (sl gD)), (3, .t (sl bF)), (8, .t (.int .i64 (i + 1 : Nat)))] .empty (by omega) fewer_refl (by simp only [vP.down, vS.down, vE.down, Nat.reduceEqDiff, Nat.reduceAdd, Nat.reduceSub, Nat.reduceMul, Nat.reduceLeDiff, Nat.reduceLT, Int.reduceToNat, reduceIte, reduceCtorEq, Int.reduceEq, Int.reduceLT, Int.reduceLE, ↓avp_condG, ↓tf_arrow, ↓ft_arrow, wP.down, hi1]) ⟨i + 1, rfl, by omega, rfl⟩
set_option maxHeartbeats 4000000 in
theorem forms_6 {σ : St} (hσ : Wk σ (mkS [(1, .t (sl [p0])), (2, .t (sl gD)), (3, .t (sl bF))] .empty)) :
    avp K_law17_TableForms G_law17_TableForms_6 (Ret K_law17_TableForms [.tmp 0] fun v _ => v = .t (.bool true)) σ := by
  unfold G_law17_TableForms_6
  simp only [avp_seq]
  refine ⟨_, hσ, ?_⟩
  have hb : gD.length = 2 := rfl
  simp only [vP.down, vS.down, vE.down, Nat.reduceEqDiff, Nat.reduceAdd, Nat.reduceSub, Nat.reduceMul, Nat.reduceLeDiff, Nat.reduceLT, Int.reduceToNat, reduceIte, reduceCtorEq, Int.reduceEq, Int.reduceLT, Int.reduceLE, ↓avp_condG, ↓tf_arrow, ↓ft_arrow]
  refine loop_weak hm_law17_TableForms (fun m σ => ∃ i : Nat, m = 2 - i ∧ i ≤ 2 ∧ σ = mkS [(1, .t (sl [p0])), (2, .t (sl gD)), (3, .t (sl bF)), (4, .t (.int .i64 (i : Nat)))] .empty) ⟨0, rfl, by omega, rfl⟩ (wk_to fewer_refl (by simp only [vP.down, vS.down, vE.down, Nat.reduceEqDiff, Nat.reduceAdd, Nat.reduceSub, Nat.reduceMul, Nat.reduceLeDiff, Nat.reduceLT, Int.reduceToNat, reduceIte, reduceCtorEq, Int.reduceEq, Int.reduceLT, Int.reduceLE, ↓avp_condG, ↓tf_arrow, ↓ft_arrow, wP.down, Int.natCast_zero])) ?_
  rintro m _ ⟨i, rfl, hi, rfl⟩
  have hi1 : IntKind.i64.wrap ((i : Int) + 1) = ((i + 1 : Nat) : Int) := by rw [IntWalk.i64_in _ (by omega)]; rfl
  by_cases hlt : i < 2
  case neg =>
    obtain rfl : i = 2 := by omega
    have hge : ¬ ((2 : Int) < 2) := by omega
    simp only [vP.down, vS.down, vE.down, Nat.reduceEqDiff, Nat.reduceAdd, Nat.reduceSub, Nat.reduceMul, Nat.reduceLeDiff, Nat.reduceLT, Int.reduceToNat, reduceIte, reduceCtorEq, Int.reduceEq, Int.reduceLT, Int.reduceLE, ↓avp_condG, ↓tf_arrow, ↓ft_arrow, hb, hge, show ((2 : Nat) : Int) = 2 from rfl]
    exact forms_12 (wk_to fewer_refl (by simp only [vP.down, vS.down, vE.down, Nat.reduceEqDiff, Nat.reduceAdd, Nat.reduceSub, Nat.reduceMul, Nat.reduceLeDiff, Nat.reduceLT, Int.reduceToNat, reduceIte, reduceCtorEq, Int.reduceEq, Int.reduceLT, Int.reduceLE, ↓avp_condG, ↓tf_arrow, ↓ft_arrow, wP.down]))
  have hlt' : (i : Int) < 2 := by omega
  have hmem : gD.getD i default ∈ gD := by
    rw [List.getD_eq_getElem?_getD, List.getElem?_eq_getElem (by omega)]; exact List.getElem_mem _
  have e1 := tf1 _ hmem
  have e2 := gD_noF _ hmem
  have el := tf15 _ hmem
  have e0 := one_part (l := gD) (i := i) (by omega)
  obtain ⟨q, hq⟩ : ∃ q, q = gD.getD i default := ⟨_, rfl⟩
  rw [← hq] at e0 e1 e2 el
  have eF : ∀ d ∈ [q], d.Files = [] := fun d hd => by obtain rfl := List.mem_singleton.1 hd; exact e2
  have et := tab_back e1 eF
  obtain ⟨T, hT⟩ : ∃ T, T = tabB [q] [p0] := ⟨_, rfl⟩
  rw [← hT] at et el
  have b1 : (0 : Int) ≤ (i : Int) := by omega
  have b2 : (i : Int) ≤ ((i + 1 : Nat) : Int) := by omega
  have b3 : ((i + 1 : Nat) : Int) ≤ 2 := by omega
  simp only [vP.down, vS.down, vE.down, Nat.reduceEqDiff, Nat.reduceAdd, Nat.reduceSub, Nat.reduceMul, Nat.reduceLeDiff, Nat.reduceLT, Int.reduceToNat, reduceIte, reduceCtorEq, Int.reduceEq, Int.reduceLT, Int.reduceLE, ↓avp_condG, ↓tf_arrow, ↓ft_arrow, hb, show ((2 : Nat) : Int) = 2 from rfl, hlt']
  refine weak_at [(1, .t (sl [p0])), (2, .t (sl gD)), (3, .t (sl bF)), (4, .t (.int .i64 (i : Nat)))] .empty fewer_refl (by simp only [vP.down, vS.down, vE.down, Nat.reduceEqDiff, Nat.reduceAdd, Nat.reduceSub, Nat.reduceMul, Nat.reduceLeDiff, Nat.reduceLT, Int.reduceToNat, reduceIte, reduceCtorEq, Int.reduceEq, Int.reduceLT, Int.reduceLE, ↓avp_condG, ↓tf_arrow, ↓ft_arrow, wP.down]) ?_
  simp only [vP.down, vS.down, vE.down, Nat.reduceEqDiff, Nat.reduceAdd, Nat.reduceSub, Nat.reduceMul, Nat.reduceLeDiff, Nat.reduceLT, Int.reduceToNat, reduceIte, reduceCtorEq, Int.reduceEq, Int.reduceLT, Int.reduceLE, ↓avp_condG, ↓tf_arrow, ↓ft_arrow, hi1, hb, show ((2 : Nat) : Int) = 2 from rfl, b1, b2, b3, e0, ← hT, et, el, k_law17_TableForms_table_Table.down, A_table_Table, p_table_Table, r_table_Table, k_law17_TableForms_table_TakeTable.down, A_table_TakeTable, p_table_TakeTable, r_table_TakeTable]
  refine weak_at [(1, .t (sl [p0])), (2, .t (sl gD)), (3, .t (sl bF)), (4, .t (.int .i64 (i : Nat))), (5, .t (sl [q])), (6, .t (sl [p0])), (7, .t (.bool true))] .empty fewer_refl (by simp only [vP.down, vS.down, vE.down, Nat.reduceEqDiff, Nat.reduceAdd, Nat.reduceSub, Nat.reduceMul, Nat.reduceLeDiff, Nat.reduceLT, Int.reduceToNat, reduceIte, reduceCtorEq, Int.reduceEq, Int.reduceLT, Int.reduceLE, ↓avp_condG, ↓tf_arrow, ↓ft_arrow, wP.down]) ?_
  have n1 : ([q].length : Int) = 1 := rfl
  have n2 : ([p0].length : Int) = 1 := rfl
  have hNq : NoF [q] := ⟨by show 1 ≤ 100000; omega, eF⟩
  have x1 : idxB K_law17_TableForms 24 (.t (sl [p0])) (.t (.int .i64 0)) = .val True (.imm [.int .i64 20, .int .i64 1, .int .u32 0, .int .u32 0, .int .u32 0, .int .u32 0]) := idx_at (l := [p0]) (i := 0) ty_Lapi_Ptr ty_api_Ptr rfl (by decide) .i64
  simp only [vP.down, vS.down, vE.down, Nat.reduceEqDiff, Nat.reduceAdd, Nat.reduceSub, Nat.reduceMul, Nat.reduceLeDiff, Nat.reduceLT, Int.reduceToNat, reduceIte, reduceCtorEq, Int.reduceEq, Int.reduceLT, Int.reduceLE, ↓avp_condG, ↓tf_arrow, ↓ft_arrow, hi1, hb, n1, n2, x1, show ((2 : Nat) : Int) = 2 from rfl, b1, b2, b3, e0, hNq, pick_of, pick_ot, k_law17_TableForms_law17_same.down, A_law17_same, p_law17_same, r_law17_same]
  exact round_to (2 - (i + 1)) [(1, .t (sl [p0])), (2, .t (sl gD)), (3, .t (sl bF)), (4, .t (.int .i64 (i + 1 : Nat)))] .empty (by omega) fewer_refl (by simp only [vP.down, vS.down, vE.down, Nat.reduceEqDiff, Nat.reduceAdd, Nat.reduceSub, Nat.reduceMul, Nat.reduceLeDiff, Nat.reduceLT, Int.reduceToNat, reduceIte, reduceCtorEq, Int.reduceEq, Int.reduceLT, Int.reduceLE, ↓avp_condG, ↓tf_arrow, ↓ft_arrow, wP.down, hi1]) ⟨i + 1, rfl, by omega, rfl⟩
noncomputable def A_law17_TableForms : Arms (Unit) := Arms.nil
def p_law17_TableForms (x : Unit) : Prop := goodAny (x)
abbrev r_law17_TableForms (x : Unit) : AV := rTrue x
theorem rd_law17_TableForms : ReadsA Try.prog [] A_law17_TableForms p_law17_TableForms := readsA_nil
set_option maxHeartbeats 4000000 in
theorem body_law17_TableForms (x) (hx : p_law17_TableForms x) : avp K_law17_TableForms G_law17_TableForms (Ret K_law17_TableForms [.tmp 0] fun v _ => v = r_law17_TableForms x) (entry (A_law17_TableForms.enc x) .empty) := by
  change avp _ _ (Ret _ _ fun v _ => v = .t (.bool true)) (entry [] .empty)
  unfold G_law17_TableForms
  simp only [vP.down, vS.down, vE.down, Nat.reduceEqDiff, Nat.reduceAdd, Nat.reduceSub, Nat.reduceMul, Nat.reduceLeDiff, Nat.reduceLT, Int.reduceToNat, reduceIte, reduceCtorEq, Int.reduceEq, Int.reduceLT, Int.reduceLE, ↓avp_condG, ↓tf_arrow, ↓ft_arrow, k_law17_TableForms_law17_begun.down, A_law17_begun, p_law17_begun, r_law17_begun]
  intro g1 hg1
  have d1 : Cell.dec [TV.seq 6 [[.int .i64 20, .int .i64 1, .int .u32 0, .int .u32 0, .int .u32 0, .int .u32 0]]] = some [p0] := rfl
  refine weak_at [(1, .t (sl [p0]))] .empty fewer_empty (by
    simp only [vP.down, vS.down, vE.down, Nat.reduceEqDiff, Nat.reduceAdd, Nat.reduceSub, Nat.reduceMul, Nat.reduceLeDiff, Nat.reduceLT, Int.reduceToNat, reduceIte, reduceCtorEq, Int.reduceEq, Int.reduceLT, Int.reduceLE, ↓avp_condG, ↓tf_arrow, ↓ft_arrow, wP.down]
    exact w2_rows (Store.set_same _ _ _) rfl d1 rfl) ?_
  clear hg1
  simp only [vP.down, vS.down, vE.down, Nat.reduceEqDiff, Nat.reduceAdd, Nat.reduceSub, Nat.reduceMul, Nat.reduceLeDiff, Nat.reduceLT, Int.reduceToNat, reduceIte, reduceCtorEq, Int.reduceEq, Int.reduceLT, Int.reduceLE, ↓avp_condG, ↓tf_arrow, ↓ft_arrow]
  intro g2 hg2
  have d2 : Cell.dec [TV.seq 5 [[.int .i64 1, .int .i64 1, .int .i64 0, .int .i64 0, .nilS], [.int .i64 65535, .int .i64 2, .int .i64 65535, .int .i64 255, .nilS]]] = some gD := rfl
  refine weak_at [(1, .t (sl [p0])), (2, .t (sl gD))] .empty fewer_empty (by
    simp only [vP.down, vS.down, vE.down, Nat.reduceEqDiff, Nat.reduceAdd, Nat.reduceSub, Nat.reduceMul, Nat.reduceLeDiff, Nat.reduceLT, Int.reduceToNat, reduceIte, reduceCtorEq, Int.reduceEq, Int.reduceLT, Int.reduceLE, ↓avp_condG, ↓tf_arrow, ↓ft_arrow, wP.down]
    exact w2_rows (Store.set_same _ _ _) rfl d2 rfl) ?_
  clear hg2
  simp only [vP.down, vS.down, vE.down, Nat.reduceEqDiff, Nat.reduceAdd, Nat.reduceSub, Nat.reduceMul, Nat.reduceLeDiff, Nat.reduceLT, Int.reduceToNat, reduceIte, reduceCtorEq, Int.reduceEq, Int.reduceLT, Int.reduceLE, ↓avp_condG, ↓tf_arrow, ↓ft_arrow]
  intro g3 hg3
  have d3 : Cell.dec [TV.seq 5 bRows] = some bF := rfl
  exact forms_6 (wk_to fewer_empty (by
    simp only [vP.down, vS.down, vE.down, Nat.reduceEqDiff, Nat.reduceAdd, Nat.reduceSub, Nat.reduceMul, Nat.reduceLeDiff, Nat.reduceLT, Int.reduceToNat, reduceIte, reduceCtorEq, Int.reduceEq, Int.reduceLT, Int.reduceLE, ↓avp_condG, ↓tf_arrow, ↓ft_arrow, wP.down]
    exact w2_rows (Store.set_same _ _ _) rfl d3 rfl))
noncomputable def c_law17_TableForms : Con := fnScal A_law17_TableForms p_law17_TableForms r_law17_TableForms
theorem ok_law17_TableForms : COk Try.prog 6 c_law17_TableForms := fn_sok sys_law17_TableForms mixed Try.func6 (by kernel_rfl) geq_law17_TableForms Try.ntmps6 (by rw [Try.results6]) (fun x => by simp [rTrue, AV.scal]) fun x hx => ⟨Nat.le_of_ble_eq_true rfl, body_law17_TableForms x hx⟩
theorem says_law17_TableForms : SaysTrue Rows.tableFormsSpec 0 := ⟨rfl, fun H ds h => by
  match ds, h with
  | [], _ => exact ⟨rfl, rfl, rfl⟩⟩
set_option maxRecDepth 100000 in
theorem lifted_law17_TableForms (os : Os) (started : os.Started) (H : Type) (enc : TypeId × Value → H) :
    ReturnsInHanded {} Try.checked os 6 .any (Rows.tableFormsSpec.pre6 enc Try.prog Try.f6 Rows.tableFormsRow.domain false) (Rows.tableFormsSpec.post enc Try.prog Try.f6 false true false false) := by
  refine returnsInHanded_of_change (C := Try.checked) own started (by kernel_rfl) Try.func6
    (ChangeSpec.witness6 (enc := enc) (C := Try.checked) false ⟨#[], #[], []⟩ 8 (by kernel_rfl) (by kernel_rfl) (by kernel_rfl) (by kernel_rfl)) ?_
  intro W base args ds gs before hval hW _ _
  exact law_contract (ts := []) (tb := 4) ok_law17_TableForms (by rw [Try.params6]) (by kernel_rfl) Try.underlying4 laid (by kernel_rfl) rd_law17_TableForms (fun _ h => h) says_law17_TableForms H enc W base args ds gs before hval hW
theorem over_law17_TableForms : Rows.tableFormsRow.holds Try.pinned (OpenSpec.ofChange Rows.tableFormsSpec) :=
  OpenClaim.holds_of_wide 6 Try.f6 rfl rfl rfl rfl rfl rfl rfl ⟨rfl, rfl, rfl, rfl, rfl⟩ rfl rfl rfl rfl rfl (by kernel_rfl) Try.func6 (by kernel_rfl)
    (of_decide_eq_true (by kernel_rfl)) (by unfold Func.isWrapper; first | (rw [if_pos (by decide +kernel)]; kernel_rfl) | (rw [if_neg (by decide +kernel)]; exact ⟨rfl, rfl⟩))
    (fun os started H enc _ => lifted_law17_TableForms os started H enc)
theorem tableForms_holds : Rows.TableFormsSaid := over_law17_TableForms
end Go.Proofs.Ytofcmdkmhbbbjaa

