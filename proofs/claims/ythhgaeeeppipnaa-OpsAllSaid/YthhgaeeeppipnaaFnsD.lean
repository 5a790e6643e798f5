/-
  Steps out of numbers: edits.
-/
import Derived.Test.YthhgaeeeppipnaaFnsC
set_option linter.unusedSimpArgs false
set_option linter.unusedVariables false
namespace Go.Proofs.Ythhgaeeeppipnaa
open Go Go.Eng
theorem path_any {s : Store} {g : Nat} {l : List Byt} {Q : AV → Store → Prop} (h : PkI s s g l) (hq : ∀ p S, p.length ≤ 255 → PkI s S g l → Q (.t (.str p)) S) : F_made_Picks_Path [.ptr g 0] s Q :=
  ⟨g, rfl, l, h, fun r S ⟨p, e, hp⟩ hS => by rw [e]; exact hq p S hp hS⟩
theorem text_any {s : Store} {g : Nat} {l : List Byt} {Q : AV → Store → Prop} (h : PkI s s g l) (hq : ∀ p S, p.length ≤ 255 → PkI s S g l → Q (.t (.str p)) S) : F_made_Picks_Text [.ptr g 0] s Q :=
  ⟨g, rfl, l, h, fun r S ⟨p, e, hp⟩ hS => by rw [e]; exact hq p S hp hS⟩
def G_made_Picks_Edit_13 : GCode := .seq (.seq .weak (.region [⟨(some 53), none, .load 24 (.tmp 5)⟩, ⟨none, none, .store 24 (.tmp 4) (.tmp 53)⟩])) (.ret)
def G_made_Picks_Edit_2 : GCode := .seq (.seq (.seq .weak (.region [⟨(some 15), none, .fieldAddr 24 (.tmp 5) 0⟩, ⟨(some 16), none, .load 3 (.tmp 15)⟩])) (.block 0 (.seq (.region [⟨(some 18), none, .binOp .eql 3 (.tmp 16) (.const (.int .i64 1)) 3⟩, ⟨(some 17), none, .assign (.tmp 18)⟩]) (.cond (.tmp 17) (.seq (.region [⟨(some 19), none, .move (.tmp 0)⟩, ⟨(some 20), none, .call ⟨.value (.func 28), #[.tmp 19, .const (.int .i64 2)], #[40, 3]⟩⟩, ⟨(some 21), none, .binOp .add 3 (.const (.int .i64 1)) (.tmp 20) 3⟩, ⟨(some 22), none, .fieldAddr 24 (.tmp 5) 2⟩, ⟨none, none, .store 3 (.tmp 22) (.tmp 21)⟩]) (.seq (.region [⟨(some 23), none, .move (.tmp 0)⟩, ⟨(some 24), none, .call ⟨.value (.func 28), #[.tmp 23, .const (.int .i64 16)], #[40, 3]⟩⟩, ⟨(some 25), none, .binOp .eql 3 (.tmp 24) (.const (.int .i64 0)) 3⟩]) (.cond (.tmp 25) (.region [⟨(some 26), none, .move (.tmp 0)⟩, ⟨(some 27), none, .call ⟨.value (.func 28), #[.tmp 26, .const (.int .i64 5)], #[40, 3]⟩⟩, ⟨(some 28), none, .fieldAddr 24 (.tmp 5) 2⟩, ⟨none, none, .store 3 (.tmp 28) (.tmp 27)⟩]) (.skip)))) (.seq (.region [⟨(some 30), none, .binOp .eql 3 (.tmp 16) (.const (.int .i64 3)) 3⟩, ⟨(some 29), none, .assign (.tmp 30)⟩]) (.cond (.tmp 29) (.region [⟨(some 31), none, .move (.tmp 0)⟩, ⟨(some 32), none, .call ⟨.value (.func 41), #[.tmp 31], #[40]⟩⟩, ⟨(some 33), none, .fieldAddr 24 (.tmp 5) 6⟩, ⟨none, none, .store 9 (.tmp 33) (.tmp 32)⟩]) (.seq (.region [⟨(some 35), none, .binOp .eql 3 (.tmp 16) (.const (.int .i64 4)) 3⟩, ⟨(some 34), none, .assign (.tmp 35)⟩]) (.cond (.tmp 34) (.orders (.one ⟨(some 37), none, .move (.tmp 0)⟩ (.one ⟨(some 41), none, .move (.tmp 0)⟩ (.both (.one ⟨(some 36), none, .buildSlice 22 8 #[(0, .const (.int .i64 0)), (1, .const (.int .i64 0)), (2, .const (.int .i64 1)), (3, .const (.int .i64 31)), (4, .const (.int .i64 32)), (5, .const (.int .i64 64)), (6, .const (.int .i64 100)), (7, .const (.int .i64 130))]⟩ (.one ⟨(some 38), none, .call ⟨.value (.func 28), #[.tmp 37, .const (.int .i64 8)], #[40, 3]⟩⟩ (.one ⟨(some 39), none, .indexAddr 22 (.tmp 36) (.tmp 38)⟩ (.both (.one ⟨(some 40), none, .load 3 (.tmp 39)⟩ (.one ⟨(some 42), none, .call ⟨.value (.func 42), #[.tmp 41], #[40]⟩⟩ (.one ⟨(some 43), none, .fieldAddr 24 (.tmp 5) 2⟩ (.one ⟨none, none, .store 3 (.tmp 43) (.tmp 40)⟩ (.one ⟨(some 44), none, .fieldAddr 24 (.tmp 5) 7⟩ (.one ⟨none, none, .store 9 (.tmp 44) (.tmp 42)⟩ (.done))))))) (.one ⟨(some 42), none, .call ⟨.value (.func 42), #[.tmp 41], #[40]⟩⟩ (.one ⟨(some 40), none, .load 3 (.tmp 39)⟩ (.one ⟨(some 43), none, .fieldAddr 24 (.tmp 5) 2⟩ (.one ⟨none, none, .store 3 (.tmp 43) (.tmp 40)⟩ (.one ⟨(some 44), none, .fieldAddr 24 (.tmp 5) 7⟩ (.one ⟨none, none, .store 9 (.tmp 44) (.tmp 42)⟩ (.done))))))))))) (.one ⟨(some 38), none, .call ⟨.value (.func 28), #[.tmp 37, .const (.int .i64 8)], #[40, 3]⟩⟩ (.both (.one ⟨(some 36), none, .buildSlice 22 8 #[(0, .const (.int .i64 0)), (1, .const (.int .i64 0)), (2, .const (.int .i64 1)), (3, .const (.int .i64 31)), (4, .const (.int .i64 32)), (5, .const (.int .i64 64)), (6, .const (.int .i64 100)), (7, .const (.int .i64 130))]⟩ (.one ⟨(some 39), none, .indexAddr 22 (.tmp 36) (.tmp 38)⟩ (.both (.one ⟨(some 40), none, .load 3 (.tmp 39)⟩ (.one ⟨(some 42), none, .call ⟨.value (.func 42), #[.tmp 41], #[40]⟩⟩ (.one ⟨(some 43), none, .fieldAddr 24 (.tmp 5) 2⟩ (.one ⟨none, none, .store 3 (.tmp 43) (.tmp 40)⟩ (.one ⟨(some 44), none, .fieldAddr 24 (.tmp 5) 7⟩ (.one ⟨none, none, .store 9 (.tmp 44) (.tmp 42)⟩ (.done))))))) (.one ⟨(some 42), none, .call ⟨.value (.func 42), #[.tmp 41], #[40]⟩⟩ (.one ⟨(some 40), none, .load 3 (.tmp 39)⟩ (.one ⟨(some 43), none, .fieldAddr 24 (.tmp 5) 2⟩ (.one ⟨none, none, .store 3 (.tmp 43) (.tmp 40)⟩ (.one ⟨(some 44), none, .fieldAddr 24 (.tmp 5) 7⟩ (.one ⟨none, none, .store 9 (.tmp 44) (.tmp 42)⟩ (.done)))))))))) (.one ⟨(some 42), none, .call ⟨.value (.func 42), #[.tmp 41], #[40]⟩⟩ (.one ⟨(some 36), none, .buildSlice 22 8 #[(0, .const (.int .i64 0)), (1, .const (.int .i64 0)), (2, .const (.int .i64 1)), (3, .const (.int .i64 31)), (4, .const (.int .i64 32)), (5, .const (.int .i64 64)), (6, .const (.int .i64 100)), (7, .const (.int .i64 130))]⟩ (.one ⟨(some 39), none, .indexAddr 22 (.tmp 36) (.tmp 38)⟩ (.one ⟨(some 40), none, .load 3 (.tmp 39)⟩ (.one ⟨(some 43), none, .fieldAddr 24 (.tmp 5) 2⟩ (.one ⟨none, none, .store 3 (.tmp 43) (.tmp 40)⟩ (.one ⟨(some 44), none, .fieldAddr 24 (.tmp 5) 7⟩ (.one ⟨none, none, .store 9 (.tmp 44) (.tmp 42)⟩ (.done))))))))))))))) (.seq (.region [⟨(some 46), none, .binOp .eql 3 (.tmp 16) (.const (.int .i64 5)) 3⟩, ⟨(some 45), none, .assign (.tmp 46)⟩]) (.cond (.tmp 45) (.region [⟨(some 47), none, .buildSlice 22 8 #[(0, .const (.int .i64 0)), (1, .const (.int .i64 1)), (2, .const (.int .i64 32)), (3, .const (.int .i64 33)), (4, .const (.int .i64 128)), (5, .const (.int .i64 129)), (6, .const (.int .i64 60)), (7, .const (.int .i64 64))]⟩, ⟨(some 48), none, .move (.tmp 0)⟩, ⟨(some 49), none, .call ⟨.value (.func 28), #[.tmp 48, .const (.int .i64 8)], #[40, 3]⟩⟩, ⟨(some 50), none, .indexAddr 22 (.tmp 47) (.tmp 49)⟩, ⟨(some 51), none, .load 3 (.tmp 50)⟩, ⟨(some 52), none, .fieldAddr 24 (.tmp 5) 2⟩, ⟨none, none, .store 3 (.tmp 52) (.tmp 51)⟩]) (.skip))))))))))) (G_made_Picks_Edit_13)
def G_made_Picks_Edit : GCode := .seq (.region [⟨(some 4), none, .alloc 24⟩]) (.seq (.orders (.one ⟨(some 7), none, .move (.tmp 0)⟩ (.one ⟨(some 11), none, .move (.tmp 1)⟩ (.one ⟨(some 12), none, .move (.tmp 0)⟩ (.both (.one ⟨(some 6), none, .buildSlice 22 12 #[(0, .const (.int .i64 1)), (1, .const (.int .i64 1)), (2, .const (.int .i64 1)), (3, .const (.int .i64 2)), (4, .const (.int .i64 3)), (5, .const (.int .i64 3)), (6, .const (.int .i64 4)), (7, .const (.int .i64 4)), (8, .const (.int .i64 4)), (9, .const (.int .i64 5)), (10, .const (.int .i64 1)), (11, .const (.int .i64 4))]⟩ (.both (.one ⟨(some 8), none, .call ⟨.value (.func 28), #[.tmp 7, .const (.int .i64 12)], #[40, 3]⟩⟩ (.one ⟨(some 9), none, .indexAddr 22 (.tmp 6) (.tmp 8)⟩ (.both (.one ⟨(some 10), none, .load 3 (.tmp 9)⟩ (.both (.one ⟨(some 13), none, .call ⟨.value (.func 41), #[.tmp 12], #[40]⟩⟩ (.one ⟨(some 14), none, .build 24 #[(0, .tmp 10), (1, .tmp 11), (5, .tmp 13)]⟩ (.one ⟨(some 5), none, .alloc 24⟩ (.one ⟨none, none, .store 24 (.tmp 5) (.tmp 14)⟩ (.done))))) (.one ⟨(some 5), none, .alloc 24⟩ (.one ⟨(some 13), none, .call ⟨.value (.func 41), #[.tmp 12], #[40]⟩⟩ (.one ⟨(some 14), none, .build 24 #[(0, .tmp 10), (1, .tmp 11), (5, .tmp 13)]⟩ (.one ⟨none, none, .store 24 (.tmp 5) (.tmp 14)⟩ (.done))))))) (.both (.one ⟨(some 13), none, .call ⟨.value (.func 41), #[.tmp 12], #[40]⟩⟩ (.one ⟨(some 10), none, .load 3 (.tmp 9)⟩ (.one ⟨(some 14), none, .build 24 #[(0, .tmp 10), (1, .tmp 11), (5, .tmp 13)]⟩ (.one ⟨(some 5), none, .alloc 24⟩ (.one ⟨none, none, .store 24 (.tmp 5) (.tmp 14)⟩ (.done)))))) (.one ⟨(some 5), none, .alloc 24⟩ (.both (.one ⟨(some 10), none, .load 3 (.tmp 9)⟩ (.one ⟨(some 13), none, .call ⟨.value (.func 41), #[.tmp 12], #[40]⟩⟩ (.one ⟨(some 14), none, .build 24 #[(0, .tmp 10), (1, .tmp 11), (5, .tmp 13)]⟩ (.one ⟨none, none, .store 24 (.tmp 5) (.tmp 14)⟩ (.done))))) (.one ⟨(some 13), none, .call ⟨.value (.func 41), #[.tmp 12], #[40]⟩⟩ (.one ⟨(some 10), none, .load 3 (.tmp 9)⟩ (.one ⟨(some 14), none, .build 24 #[(0, .tmp 10), (1, .tmp 11), (5, .tmp 13)]⟩ (.one ⟨none, none, .store 24 (.tmp 5) (.tmp 14)⟩ (.done))))))))))) (.one ⟨(some 5), none, .alloc 24⟩ (.one ⟨(some 8), none, .call ⟨.value (.func 28), #[.tmp 7, .const (.int .i64 12)], #[40, 3]⟩⟩ (.one ⟨(some 9), none, .indexAddr 22 (.tmp 6) (.tmp 8)⟩ (.both (.one ⟨(some 10), none, .load 3 (.tmp 9)⟩ (.one ⟨(some 13), none, .call ⟨.value (.func 41), #[.tmp 12], #[40]⟩⟩ (.one ⟨(some 14), none, .build 24 #[(0, .tmp 10), (1, .tmp 11), (5, .tmp 13)]⟩ (.one ⟨none, none, .store 24 (.tmp 5) (.tmp 14)⟩ (.done))))) (.one ⟨(some 13), none, .call ⟨.value (.func 41), #[.tmp 12], #[40]⟩⟩ (.one ⟨(some 10), none, .load 3 (.tmp 9)⟩ (.one ⟨(some 14), none, .build 24 #[(0, .tmp 10), (1, .tmp 11), (5, .tmp 13)]⟩ (.one ⟨none, none, .store 24 (.tmp 5) (.tmp 14)⟩ (.done))))))))))) (.both (.one ⟨(some 8), none, .call ⟨.value (.func 28), #[.tmp 7, .const (.int .i64 12)], #[40, 3]⟩⟩ (.both (.one ⟨(some 6), none, .buildSlice 22 12 #[(0, .const (.int .i64 1)), (1, .const (.int .i64 1)), (2, .const (.int .i64 1)), (3, .const (.int .i64 2)), (4, .const (.int .i64 3)), (5, .const (.int .i64 3)), (6, .const (.int .i64 4)), (7, .const (.int .i64 4)), (8, .const (.int .i64 4)), (9, .const (.int .i64 5)), (10, .const (.int .i64 1)), (11, .const (.int .i64 4))]⟩ (.one ⟨(some 9), none, .indexAddr 22 (.tmp 6) (.tmp 8)⟩ (.both (.one ⟨(some 10), none, .load 3 (.tmp 9)⟩ (.both (.one ⟨(some 13), none, .call ⟨.value (.func 41), #[.tmp 12], #[40]⟩⟩ (.one ⟨(some 14), none, .build 24 #[(0, .tmp 10), (1, .tmp 11), (5, .tmp 13)]⟩ (.one ⟨(some 5), none, .alloc 24⟩ (.one ⟨none, none, .store 24 (.tmp 5) (.tmp 14)⟩ (.done))))) (.one ⟨(some 5), none, .alloc 24⟩ (.one ⟨(some 13), none, .call ⟨.value (.func 41), #[.tmp 12], #[40]⟩⟩ (.one ⟨(some 14), none, .build 24 #[(0, .tmp 10), (1, .tmp 11), (5, .tmp 13)]⟩ (.one ⟨none, none, .store 24 (.tmp 5) (.tmp 14)⟩ (.done))))))) (.both (.one ⟨(some 13), none, .call ⟨.value (.func 41), #[.tmp 12], #[40]⟩⟩ (.one ⟨(some 10), none, .load 3 (.tmp 9)⟩ (.one ⟨(some 14), none, .build 24 #[(0, .tmp 10), (1, .tmp 11), (5, .tmp 13)]⟩ (.one ⟨(some 5), none, .alloc 24⟩ (.one ⟨none, none, .store 24 (.tmp 5) (.tmp 14)⟩ (.done)))))) (.one ⟨(some 5), none, .alloc 24⟩ (.both (.one ⟨(some 10), none, .load 3 (.tmp 9)⟩ (.one ⟨(some 13), none, .call ⟨.value (.func 41), #[.tmp 12], #[40]⟩⟩ (.one ⟨(some 14), none, .build 24 #[(0, .tmp 10), (1, .tmp 11), (5, .tmp 13)]⟩ (.one ⟨none, none, .store 24 (.tmp 5) (.tmp 14)⟩ (.done))))) (.one ⟨(some 13), none, .call ⟨.value (.func 41), #[.tmp 12], #[40]⟩⟩ (.one ⟨(some 10), none, .load 3 (.tmp 9)⟩ (.one ⟨(some 14), none, .build 24 #[(0, .tmp 10), (1, .tmp 11), (5, .tmp 13)]⟩ (.one ⟨none, none, .store 24 (.tmp 5) (.tmp 14)⟩ (.done))))))))))) (.both (.one ⟨(some 13), none, .call ⟨.value (.func 41), #[.tmp 12], #[40]⟩⟩ (.one ⟨(some 6), none, .buildSlice 22 12 #[(0, .const (.int .i64 1)), (1, .const (.int .i64 1)), (2, .const (.int .i64 1)), (3, .const (.int .i64 2)), (4, .const (.int .i64 3)), (5, .const (.int .i64 3)), (6, .const (.int .i64 4)), (7, .const (.int .i64 4)), (8, .const (.int .i64 4)), (9, .const (.int .i64 5)), (10, .const (.int .i64 1)), (11, .const (.int .i64 4))]⟩ (.one ⟨(some 9), none, .indexAddr 22 (.tmp 6) (.tmp 8)⟩ (.one ⟨(some 10), none, .load 3 (.tmp 9)⟩ (.one ⟨(some 14), none, .build 24 #[(0, .tmp 10), (1, .tmp 11), (5, .tmp 13)]⟩ (.one ⟨(some 5), none, .alloc 24⟩ (.one ⟨none, none, .store 24 (.tmp 5) (.tmp 14)⟩ (.done)))))))) (.one ⟨(some 5), none, .alloc 24⟩ (.both (.one ⟨(some 6), none, .buildSlice 22 12 #[(0, .const (.int .i64 1)), (1, .const (.int .i64 1)), (2, .const (.int .i64 1)), (3, .const (.int .i64 2)), (4, .const (.int .i64 3)), (5, .const (.int .i64 3)), (6, .const (.int .i64 4)), (7, .const (.int .i64 4)), (8, .const (.int .i64 4)), (9, .const (.int .i64 5)), (10, .const (.int .i64 1)), (11, .const (.int .i64 4))]⟩ (.one ⟨(some 9), none, .indexAddr 22 (.tmp 6) (.tmp 8)⟩ (.both (.one ⟨(some 10), none, .load 3 (.tmp 9)⟩ (.one ⟨(some 13), none, .call ⟨.value (.func 41), #[.tmp 12], #[40]⟩⟩ (.one ⟨(some 14), none, .build 24 #[(0, .tmp 10), (1, .tmp 11), (5, .tmp 13)]⟩ (.one ⟨none, none, .store 24 (.tmp 5) (.tmp 14)⟩ (.done))))) (.one ⟨(some 13), none, .call ⟨.value (.func 41), #[.tmp 12], #[40]⟩⟩ (.one ⟨(some 10), none, .load 3 (.tmp 9)⟩ (.one ⟨(some 14), none, .build 24 #[(0, .tmp 10), (1, .tmp 11), (5, .tmp 13)]⟩ (.one ⟨none, none, .store 24 (.tmp 5) (.tmp 14)⟩ (.done)))))))) (.one ⟨(some 13), none, .call ⟨.value (.func 41), #[.tmp 12], #[40]⟩⟩ (.one ⟨(some 6), none, .buildSlice 22 12 #[(0, .const (.int .i64 1)), (1, .const (.int .i64 1)), (2, .const (.int .i64 1)), (3, .const (.int .i64 2)), (4, .const (.int .i64 3)), (5, .const (.int .i64 3)), (6, .const (.int .i64 4)), (7, .const (.int .i64 4)), (8, .const (.int .i64 4)), (9, .const (.int .i64 5)), (10, .const (.int .i64 1)), (11, .const (.int .i64 4))]⟩ (.one ⟨(some 9), none, .indexAddr 22 (.tmp 6) (.tmp 8)⟩ (.one ⟨(some 10), none, .load 3 (.tmp 9)⟩ (.one ⟨(some 14), none, .build 24 #[(0, .tmp 10), (1, .tmp 11), (5, .tmp 13)]⟩ (.one ⟨none, none, .store 24 (.tmp 5) (.tmp 14)⟩ (.done)))))))))))) (.one ⟨(some 5), none, .alloc 24⟩ (.both (.one ⟨(some 6), none, .buildSlice 22 12 #[(0, .const (.int .i64 1)), (1, .const (.int .i64 1)), (2, .const (.int .i64 1)), (3, .const (.int .i64 2)), (4, .const (.int .i64 3)), (5, .const (.int .i64 3)), (6, .const (.int .i64 4)), (7, .const (.int .i64 4)), (8, .const (.int .i64 4)), (9, .const (.int .i64 5)), (10, .const (.int .i64 1)), (11, .const (.int .i64 4))]⟩ (.one ⟨(some 8), none, .call ⟨.value (.func 28), #[.tmp 7, .const (.int .i64 12)], #[40, 3]⟩⟩ (.one ⟨(some 9), none, .indexAddr 22 (.tmp 6) (.tmp 8)⟩ (.both (.one ⟨(some 10), none, .load 3 (.tmp 9)⟩ (.one ⟨(some 13), none, .call ⟨.value (.func 41), #[.tmp 12], #[40]⟩⟩ (.one ⟨(some 14), none, .build 24 #[(0, .tmp 10), (1, .tmp 11), (5, .tmp 13)]⟩ (.one ⟨none, none, .store 24 (.tmp 5) (.tmp 14)⟩ (.done))))) (.one ⟨(some 13), none, .call ⟨.value (.func 41), #[.tmp 12], #[40]⟩⟩ (.one ⟨(some 10), none, .load 3 (.tmp 9)⟩ (.one ⟨(some 14), none, .build 24 #[(0, .tmp 10), (1, .tmp 11), (5, .tmp 13)]⟩ (.one ⟨none, none, .store 24 (.tmp 5) (.tmp 14)⟩ (.done))))))))) (.one ⟨(some 8), none, .call ⟨.value (.func 28), #[.tmp 7, .const (.int .i64 12)], #[40, 3]⟩⟩ (.both (.one ⟨(some 6), none, .buildSlice 22 12 #[(0, .const (.int .i64 1)), (1, .const (.int .i64 1)), (2, .const (.int .i64 1)), (3, .const (.int .i64 2)), (4, .const (.int .i64 3)), (5, .const (.int .i64 3)), (6, .const (.int .i64 4)), (7, .const (.int .i64 4)), (8, .const (.int .i64 4)), (9, .const (.int .i64 5)), (10, .const (.int .i64 1)), (11, .const (.int .i64 4))]⟩ (.one ⟨(some 9), none, .indexAddr 22 (.tmp 6) (.tmp 8)⟩ (.both (.one ⟨(some 10), none, .load 3 (.tmp 9)⟩ (.one ⟨(some 13), none, .call ⟨.value (.func 41), #[.tmp 12], #[40]⟩⟩ (.one ⟨(some 14), none, .build 24 #[(0, .tmp 10), (1, .tmp 11), (5, .tmp 13)]⟩ (.one ⟨none, none, .store 24 (.tmp 5) (.tmp 14)⟩ (.done))))) (.one ⟨(some 13), none, .call ⟨.value (.func 41), #[.tmp 12], #[40]⟩⟩ (.one ⟨(some 10), none, .load 3 (.tmp 9)⟩ (.one ⟨(some 14), none, .build 24 #[(0, .tmp 10), (1, .tmp 11), (5, .tmp 13)]⟩ (.one ⟨none, none, .store 24 (.tmp 5) (.tmp 14)⟩ (.done)))))))) (.one ⟨(some 13), none, .call ⟨.value (.func 41), #[.tmp 12], #[40]⟩⟩ (.one ⟨(some 6), none, .buildSlice 22 12 #[(0, .const (.int .i64 1)), (1, .const (.int .i64 1)), (2, .const (.int .i64 1)), (3, .const (.int .i64 2)), (4, .const (.int .i64 3)), (5, .const (.int .i64 3)), (6, .const (.int .i64 4)), (7, .const (.int .i64 4)), (8, .const (.int .i64 4)), (9, .const (.int .i64 5)), (10, .const (.int .i64 1)), (11, .const (.int .i64 4))]⟩ (.one ⟨(some 9), none, .indexAddr 22 (.tmp 6) (.tmp 8)⟩ (.one ⟨(some 10), none, .load 3 (.tmp 9)⟩ (.one ⟨(some 14), none, .build 24 #[(0, .tmp 10), (1, .tmp 11), (5, .tmp 13)]⟩ (.one ⟨none, none, .store 24 (.tmp 5) (.tmp 14)⟩ (.done))))))))))))))))) (G_made_Picks_Edit_2))
noncomputable def l_made_Picks_Edit : List (Nat × Con) := [(28, c_made_Picks_Num), (41, c_made_Picks_Path), (42, c_made_Picks_Text)]
noncomputable abbrev K_made_Picks_Edit : Ctx := ctx (cl l_made_Picks_Edit)
theorem geq_made_Picks_Edit : gof K_made_Picks_Edit Try.f39 = some G_made_Picks_Edit.strip := by kernel_rfl
theorem sys_made_Picks_Edit : Go.Eng.Sys Try.prog K_made_Picks_Edit := sys_of' ⟨ok_made_Picks_Num, ok_made_Picks_Path, ok_made_Picks_Text, trivial⟩
theorem hm_made_Picks_Edit : ConMono K_made_Picks_Edit := conMono_of sys_made_Picks_Edit.con
noncomputable def k_made_Picks_Edit_made_Picks_Num := PLift.up (call_gen (C := K_made_Picks_Edit) (f := 28) (modes := m_made_Picks_Num) (F := F_made_Picks_Num) rfl)
noncomputable def k_made_Picks_Edit_made_Picks_Path := PLift.up (call_gen (C := K_made_Picks_Edit) (f := 41) (modes := m_made_Picks_Path) (F := F_made_Picks_Path) rfl)
noncomputable def k_made_Picks_Edit_made_Picks_Text := PLift.up (call_gen (C := K_made_Picks_Edit) (f := 42) (modes := m_made_Picks_Text) (F := F_made_Picks_Text) rfl)
def m_made_Picks_Edit : List Bool := [true, false]
def F_made_Picks_Edit (xs : List AV) (s : Store) (Q : AV → Store → Prop) : Prop := ∃ g id, xs = [.ptr g 0, .t (.int .i64 id)] ∧ n2 id ∧ pkF stepP g s Q
theorem mono_made_Picks_Edit (xs : List AV) (s : Store) (Q Q' : AV → Store → Prop) (hq : ∀ r t, Q r t → Q' r t) : F_made_Picks_Edit xs s Q → F_made_Picks_Edit xs s Q' := fun ⟨g, i, a, c, b⟩ => ⟨g, i, a, c, pkF_mono hq b⟩
theorem ex_made_Picks_Edit (xs : List AV) (s : Store) (Q : AV → Store → Prop) : F_made_Picks_Edit xs s Q → ∃ r t, Q r t := fun ⟨_, _, _, _, b⟩ => pkF_ex stepP_ex b
def kindE : List Int := [1, 1, 1, 2, 3, 3, 4, 4, 4, 5, 1, 4]
def offE : List Int := [0, 0, 1, 31, 32, 64, 100, 130]
def cutE : List Int := [0, 1, 32, 33, 128, 129, 60, 64]
theorem kindE_bd {i : Nat} (h : i < kindE.length) : 1 ≤ kindE.getD i default ∧ kindE.getD i default ≤ 5 := by
  have : ∀ i, i < 12 → 1 ≤ kindE.getD i default ∧ kindE.getD i default ≤ 5 := by decide
  exact this i h
theorem offE_bd {i : Nat} (h : i < offE.length) : n2 (offE.getD i default) := by
  have : ∀ i, i < 8 → 0 ≤ offE.getD i default ∧ offE.getD i default < 65536 := by decide
  exact this i h
theorem cutE_bd {i : Nat} (h : i < cutE.length) : n2 (cutE.getD i default) := by
  have : ∀ i, i < 8 → 0 ≤ cutE.getD i default ∧ cutE.getD i default < 65536 := by decide
  exact this i h
set_option maxRecDepth 10000 in
theorem edit_end {s : Store} {g g4 g5 : Nat} {l : List Byt} {x : TStep} (hx : good x = true) (hk : x.Keep = []) {S : Store} (H : PkI s S g l) (f4 : S.f g4 = some (stE step0 (.t .nilS))) (f5 : S.f g5 = some (stE x (.t .nilS))) (z4 : s.f g4 = none) (n4 : g4 ≠ g)
    {Q : AV → Store → Prop} (hq : ∀ r S', stepP r → PkI s S' g l → Q r S') {σ : St} (hσ : Wk σ (mkS [(4, .ptr g4 0), (5, .ptr g5 0)] S)) :
    avp K_made_Picks_Edit G_made_Picks_Edit_13 (Ret K_made_Picks_Edit [.cell 4 24] fun r s' => ∃ s'', Sub s'' s' ∧ Q r s'') σ := by
  unfold G_made_Picks_Edit_13
  simp only [avp_seq]
  refine ⟨_, hσ, ?_⟩
  simp only [vP.down, vS.down, vE.down, Nat.reduceEqDiff, Nat.reduceAdd, Nat.reduceSub, Nat.reduceMul, Nat.reduceLeDiff, Nat.reduceLT, Int.reduceToNat, reduceIte, reduceCtorEq, Int.reduceEq, Int.reduceLT, Int.reduceLE, ↓avp_condG, ↓tf_arrow, ↓ft_arrow, f4, f5]
  simp only [vP.down, vS.down, vE.down, Nat.reduceEqDiff, Nat.reduceAdd, Nat.reduceSub, Nat.reduceMul, Nat.reduceLeDiff, Nat.reduceLT, Int.reduceToNat, reduceIte, reduceCtorEq, Int.reduceEq, Int.reduceLT, Int.reduceLE, ↓avp_condG, ↓tf_arrow, ↓ft_arrow, vT.down]
  exact ⟨_, fun _ _ h => h, hq _ _ ⟨x, hx, hk, rfl⟩ (H.box z4 n4)⟩
set_option maxRecDepth 10000 in
set_option maxHeartbeats 4000000 in
theorem edit_tail {s : Store} {g g4 g5 : Nat} {l : List Byt} {kd id : Int} {p : List UInt8} (hkd : 1 ≤ kd ∧ kd ≤ 5) (hid : n2 id) (hp : p.length ≤ 255) {S : Store} (H : PkI s S g l) (f4 : S.f g4 = some (stE step0 (.t .nilS))) (f5 : S.f g5 = some (stE ⟨kd, id, 0, 0, 0, p, [], [], []⟩ (.t .nilS)))
    (z4 : s.f g4 = none) (z5 : s.f g5 = none) (n4 : g4 ≠ g) (n5 : g5 ≠ g) (n45 : g4 ≠ g5) {Q : AV → Store → Prop} (hq : ∀ r S', stepP r → PkI s S' g l → Q r S') {σ : St} (hσ : Wk σ (mkS [(0, .ptr g 0), (4, .ptr g4 0), (5, .ptr g5 0)] S)) :
    avp K_made_Picks_Edit G_made_Picks_Edit_2 (Ret K_made_Picks_Edit [.cell 4 24] fun r s' => ∃ s'', Sub s'' s' ∧ Q r s'') σ := by
  have o4 : ∀ (T : Store) x, (T.set g5 x).f g4 = T.f g4 := fun _ _ => Store.set_other _ _ n45
  unfold G_made_Picks_Edit_2
  simp only [avp_seq]
  refine ⟨_, hσ, ?_⟩
  have : kd = 1 ∨ kd = 2 ∨ kd = 3 ∨ kd = 4 ∨ kd = 5 := by omega
  rcases this with rfl | rfl | rfl | rfl | rfl
  · simp only [vP.down, vS.down, vE.down, Nat.reduceEqDiff, Nat.reduceAdd, Nat.reduceSub, Nat.reduceMul, Nat.reduceLeDiff, Nat.reduceLT, Int.reduceToNat, reduceIte, reduceCtorEq, Int.reduceEq, Int.reduceLT, Int.reduceLE, ↓avp_condG, ↓tf_arrow, ↓ft_arrow, f5, k_made_Picks_Edit_made_Picks_Num.down, m_made_Picks_Num]
    refine num_any H.refl' (by omega) fun n S1 hn0 hn1 I1 => ?_
    have H1 := H.trans I1
    have f4a := I1.keep f4 n4
    have f5a := I1.keep f5 n5
    have w2 : IntKind.i64.wrap (1 + n) = 1 + n := IntWalk.i64_in _ (by omega)
    simp only [vP.down, vS.down, vE.down, Nat.reduceEqDiff, Nat.reduceAdd, Nat.reduceSub, Nat.reduceMul, Nat.reduceLeDiff, Nat.reduceLT, Int.reduceToNat, reduceIte, reduceCtorEq, Int.reduceEq, Int.reduceLT, Int.reduceLE, ↓avp_condG, ↓tf_arrow, ↓ft_arrow, f5a, w2, k_made_Picks_Edit_made_Picks_Num.down, m_made_Picks_Num]
    have H2 := H1.box (e := some (stE ⟨1, id, 1 + n, 0, 0, p, [], [], []⟩ (.t .nilS))) z5 n5
    refine num_any H2.refl' (by omega) fun c S2 hc0 hc1 I2 => ?_
    have H3 := H2.trans I2
    have f4b := I2.keep ((Store.set_other _ _ n45).trans f4a) n4
    have f5b := I2.keep (Store.set_same _ _ _) n5
    by_cases hc : c = 0
    · simp only [vP.down, vS.down, vE.down, Nat.reduceEqDiff, Nat.reduceAdd, Nat.reduceSub, Nat.reduceMul, Nat.reduceLeDiff, Nat.reduceLT, Int.reduceToNat, reduceIte, reduceCtorEq, Int.reduceEq, Int.reduceLT, Int.reduceLE, ↓avp_condG, ↓tf_arrow, ↓ft_arrow, hc, f5b, k_made_Picks_Edit_made_Picks_Num.down, m_made_Picks_Num]
      refine num_any H3.refl' (by omega) fun m S3 hm0 hm1 I3 => ?_
      have H4 := H3.trans I3
      have f4c := I3.keep f4b n4
      have f5c := I3.keep f5b n5
      simp only [vP.down, vS.down, vE.down, Nat.reduceEqDiff, Nat.reduceAdd, Nat.reduceSub, Nat.reduceMul, Nat.reduceLeDiff, Nat.reduceLT, Int.reduceToNat, reduceIte, reduceCtorEq, Int.reduceEq, Int.reduceLT, Int.reduceLE, ↓avp_condG, ↓tf_arrow, ↓ft_arrow, f5c]
      exact edit_end (gd_make (.inl rfl) hid ⟨hm0, by omega⟩ hp) rfl (H4.box z5 n5) ((Store.set_other _ _ n45).trans f4c) (Store.set_same _ _ _) z4 n4 hq (wk_to fewer_refl (by simp only [vP.down, vS.down, vE.down, Nat.reduceEqDiff, Nat.reduceAdd, Nat.reduceSub, Nat.reduceMul, Nat.reduceLeDiff, Nat.reduceLT, Int.reduceToNat, reduceIte, reduceCtorEq, Int.reduceEq, Int.reduceLT, Int.reduceLE, ↓avp_condG, ↓tf_arrow, ↓ft_arrow, wP.down]))
    · simp only [vP.down, vS.down, vE.down, Nat.reduceEqDiff, Nat.reduceAdd, Nat.reduceSub, Nat.reduceMul, Nat.reduceLeDiff, Nat.reduceLT, Int.reduceToNat, reduceIte, reduceCtorEq, Int.reduceEq, Int.reduceLT, Int.reduceLE, ↓avp_condG, ↓tf_arrow, ↓ft_arrow, hc]
      exact edit_end (gd_make (.inl rfl) hid ⟨by omega, by omega⟩ hp) rfl H3 f4b f5b z4 n4 hq (wk_to fewer_refl (by simp only [vP.down, vS.down, vE.down, Nat.reduceEqDiff, Nat.reduceAdd, Nat.reduceSub, Nat.reduceMul, Nat.reduceLeDiff, Nat.reduceLT, Int.reduceToNat, reduceIte, reduceCtorEq, Int.reduceEq, Int.reduceLT, Int.reduceLE, ↓avp_condG, ↓tf_arrow, ↓ft_arrow, wP.down]))
  · simp only [vP.down, vS.down, vE.down, Nat.reduceEqDiff, Nat.reduceAdd, Nat.reduceSub, Nat.reduceMul, Nat.reduceLeDiff, Nat.reduceLT, Int.reduceToNat, reduceIte, reduceCtorEq, Int.reduceEq, Int.reduceLT, Int.reduceLE, ↓avp_condG, ↓tf_arrow, ↓ft_arrow, f5]
    exact edit_end (gd_drop (.inl rfl) hid hp) rfl H f4 f5 z4 n4 hq (wk_to fewer_refl (by simp only [vP.down, vS.down, vE.down, Nat.reduceEqDiff, Nat.reduceAdd, Nat.reduceSub, Nat.reduceMul, Nat.reduceLeDiff, Nat.reduceLT, Int.reduceToNat, reduceIte, reduceCtorEq, Int.reduceEq, Int.reduceLT, Int.reduceLE, ↓avp_condG, ↓tf_arrow, ↓ft_arrow, wP.down]))
  · simp only [vP.down, vS.down, vE.down, Nat.reduceEqDiff, Nat.reduceAdd, Nat.reduceSub, Nat.reduceMul, Nat.reduceLeDiff, Nat.reduceLT, Int.reduceToNat, reduceIte, reduceCtorEq, Int.reduceEq, Int.reduceLT, Int.reduceLE, ↓avp_condG, ↓tf_arrow, ↓ft_arrow, f5, k_made_Picks_Edit_made_Picks_Path.down, m_made_Picks_Path]
    refine path_any H.refl' fun q S1 hq1 I1 => ?_
    have H1 := H.trans I1
    have f4a := I1.keep f4 n4
    have f5a := I1.keep f5 n5
    simp only [vP.down, vS.down, vE.down, Nat.reduceEqDiff, Nat.reduceAdd, Nat.reduceSub, Nat.reduceMul, Nat.reduceLeDiff, Nat.reduceLT, Int.reduceToNat, reduceIte, reduceCtorEq, Int.reduceEq, Int.reduceLT, Int.reduceLE, ↓avp_condG, ↓tf_arrow, ↓ft_arrow, f5a]
    exact edit_end (gd_move hid hp hq1) rfl (H1.box z5 n5) ((Store.set_other _ _ n45).trans f4a) (Store.set_same _ _ _) z4 n4 hq (wk_to fewer_refl (by simp only [vP.down, vS.down, vE.down, Nat.reduceEqDiff, Nat.reduceAdd, Nat.reduceSub, Nat.reduceMul, Nat.reduceLeDiff, Nat.reduceLT, Int.reduceToNat, reduceIte, reduceCtorEq, Int.reduceEq, Int.reduceLT, Int.reduceLE, ↓avp_condG, ↓tf_arrow, ↓ft_arrow, wP.down]))
  · simp only [vP.down, vS.down, vE.down, Nat.reduceEqDiff, Nat.reduceAdd, Nat.reduceSub, Nat.reduceMul, Nat.reduceLeDiff, Nat.reduceLT, Int.reduceToNat, reduceIte, reduceCtorEq, Int.reduceEq, Int.reduceLT, Int.reduceLE, ↓avp_condG, ↓tf_arrow, ↓ft_arrow, f5, k_made_Picks_Edit_made_Picks_Num.down, m_made_Picks_Num]
    refine ⟨?_, ?_⟩
    · intro g3 hg3
      have n4_g3 := ne_of f4 hg3
      have o4_g3 : ∀ (T : Store) z, (T.set g3 z).f g4 = T.f g4 := fun _ _ => Store.set_other _ _ n4_g3
      have n5_g3 := ne_of f5 hg3
      have o5_g3 : ∀ (T : Store) z, (T.set g3 z).f g5 = T.f g5 := fun _ _ => Store.set_other _ _ n5_g3
      have n3 := H.ne hg3
      have z3 := H.old hg3
      have H223 := H.fresh (e := some (.row 1 (offE.map Cell.enc) false)) hg3
      have f4_224 := (Store.set_other _ (some (.row 1 (offE.map Cell.enc) false)) n4_g3).trans f4
      have f5_225 := (Store.set_other _ (some (.row 1 (offE.map Cell.enc) false)) n5_g3).trans f5
      have f3_223 := Store.set_same (S) g3 (some (.row 1 (offE.map Cell.enc) false))
      try simp only [vP.down, vS.down, vE.down, Nat.reduceEqDiff, Nat.reduceAdd, Nat.reduceSub, Nat.reduceMul, Nat.reduceLeDiff, Nat.reduceLT, Int.reduceToNat, reduceIte, reduceCtorEq, Int.reduceEq, Int.reduceLT, Int.reduceLE, ↓avp_condG, ↓tf_arrow, ↓ft_arrow, o4, o4_g3, o5_g3, f5, k_made_Picks_Edit_made_Picks_Num.down, m_made_Picks_Num, k_made_Picks_Edit_made_Picks_Text.down, m_made_Picks_Text]
      refine num_any H223.refl' (by omega) fun v S226 hv0 hv1 I226 => ?_
      obtain ⟨i, rfl⟩ : ∃ i : Nat, v = (i : Int) := ⟨v.toNat, by omega⟩
      have hi226 : i < offE.length := by show i < 8; omega
      have b0_226 : (0 ≤ (i : Int)) = True := by simp
      have b1_226 : ((i : Int) < 8) = True := by simp only [eq_iff_iff, iff_true]; omega
      have b2_226 : (i < 8) = True := by simp only [eq_iff_iff, iff_true]; omega
      have hr226 : ([[.int .i64 0], [.int .i64 0], [.int .i64 1], [.int .i64 31], [.int .i64 32], [.int .i64 64], [.int .i64 100], [.int .i64 130]] : List (List TV)).getD i [] = [.int .i64 (offE.getD i default)] := row_at (l := offE) hi226
      have H226 := H223.trans I226
      have f3_227 := I226.keep f3_223 n3
      have f4_228 := I226.keep f4_224 n4
      have f5_229 := I226.keep f5_225 n5
      try simp only [vP.down, vS.down, vE.down, Nat.reduceEqDiff, Nat.reduceAdd, Nat.reduceSub, Nat.reduceMul, Nat.reduceLeDiff, Nat.reduceLT, Int.reduceToNat, reduceIte, reduceCtorEq, Int.reduceEq, Int.reduceLT, Int.reduceLE, ↓avp_condG, ↓tf_arrow, ↓ft_arrow, o4, o4_g3, o5_g3, rowL_at (α := Int) (w := 1) rfl f3_227 hi226, hr226, b0_226, b1_226, b2_226, f5_229, k_made_Picks_Edit_made_Picks_Num.down, m_made_Picks_Num, k_made_Picks_Edit_made_Picks_Text.down, m_made_Picks_Text]
      refine ⟨?_, ?_⟩
      · refine text_any H226.refl' fun t S232 ht I232 => ?_
        have H232 := H226.trans I232
        have f3_233 := I232.keep f3_227 n3
        have f4_234 := I232.keep f4_228 n4
        have f5_235 := I232.keep f5_229 n5
        try simp only [vP.down, vS.down, vE.down, Nat.reduceEqDiff, Nat.reduceAdd, Nat.reduceSub, Nat.reduceMul, Nat.reduceLeDiff, Nat.reduceLT, Int.reduceToNat, reduceIte, reduceCtorEq, Int.reduceEq, Int.reduceLT, Int.reduceLE, ↓avp_condG, ↓tf_arrow, ↓ft_arrow, o4, o4_g3, o5_g3, rowL_at (α := Int) (w := 1) rfl f3_233 hi226, hr226, b0_226, b1_226, b2_226, f5_235, k_made_Picks_Edit_made_Picks_Num.down, m_made_Picks_Num, k_made_Picks_Edit_made_Picks_Text.down, m_made_Picks_Text]
        exact edit_end (gd_write hid (offE_bd hi226) hp ht) rfl (H232.box z5 n5) ((Store.set_other _ _ n45).trans f4_234) (Store.set_same _ _ _) z4 n4 hq (wk_to fewer_refl (by simp only [vP.down, vS.down, vE.down, Nat.reduceEqDiff, Nat.reduceAdd, Nat.reduceSub, Nat.reduceMul, Nat.reduceLeDiff, Nat.reduceLT, Int.reduceToNat, reduceIte, reduceCtorEq, Int.reduceEq, Int.reduceLT, Int.reduceLE, ↓avp_condG, ↓tf_arrow, ↓ft_arrow, wP.down]))
      · refine text_any H226.refl' fun t S240 ht I240 => ?_
        have H240 := H226.trans I240
        have f3_241 := I240.keep f3_227 n3
        have f4_242 := I240.keep f4_228 n4
        have f5_243 := I240.keep f5_229 n5
        try simp only [vP.down, vS.down, vE.down, Nat.reduceEqDiff, Nat.reduceAdd, Nat.reduceSub, Nat.reduceMul, Nat.reduceLeDiff, Nat.reduceLT, Int.reduceToNat, reduceIte, reduceCtorEq, Int.reduceEq, Int.reduceLT, Int.reduceLE, ↓avp_condG, ↓tf_arrow, ↓ft_arrow, o4, o4_g3, o5_g3, rowL_at (α := Int) (w := 1) rfl f3_241 hi226, hr226, b0_226, b1_226, b2_226, f5_243, k_made_Picks_Edit_made_Picks_Num.down, m_made_Picks_Num, k_made_Picks_Edit_made_Picks_Text.down, m_made_Picks_Text]
        exact edit_end (gd_write hid (offE_bd hi226) hp ht) rfl (H240.box z5 n5) ((Store.set_other _ _ n45).trans f4_242) (Store.set_same _ _ _) z4 n4 hq (wk_to fewer_refl (by simp only [vP.down, vS.down, vE.down, Nat.reduceEqDiff, Nat.reduceAdd, Nat.reduceSub, Nat.reduceMul, Nat.reduceLeDiff, Nat.reduceLT, Int.reduceToNat, reduceIte, reduceCtorEq, Int.reduceEq, Int.reduceLT, Int.reduceLE, ↓avp_condG, ↓tf_arrow, ↓ft_arrow, wP.down]))
    · refine num_any H.refl' (by omega) fun v S249 hv0 hv1 I249 => ?_
      obtain ⟨i, rfl⟩ : ∃ i : Nat, v = (i : Int) := ⟨v.toNat, by omega⟩
      have hi249 : i < offE.length := by show i < 8; omega
      have b0_249 : (0 ≤ (i : Int)) = True := by simp
      have b1_249 : ((i : Int) < 8) = True := by simp only [eq_iff_iff, iff_true]; omega
      have b2_249 : (i < 8) = True := by simp only [eq_iff_iff, iff_true]; omega
      have hr249 : ([[.int .i64 0], [.int .i64 0], [.int .i64 1], [.int .i64 31], [.int .i64 32], [.int .i64 64], [.int .i64 100], [.int .i64 130]] : List (List TV)).getD i [] = [.int .i64 (offE.getD i default)] := row_at (l := offE) hi249
      have H249 := H.trans I249
      have f4_250 := I249.keep f4 n4
      have f5_251 := I249.keep f5 n5
      try simp only [vP.down, vS.down, vE.down, Nat.reduceEqDiff, Nat.reduceAdd, Nat.reduceSub, Nat.reduceMul, Nat.reduceLeDiff, Nat.reduceLT, Int.reduceToNat, reduceIte, reduceCtorEq, Int.reduceEq, Int.reduceLT, Int.reduceLE, ↓avp_condG, ↓tf_arrow, ↓ft_arrow, o4, hr249, b0_249, b1_249, b2_249, f5_251, k_made_Picks_Edit_made_Picks_Num.down, m_made_Picks_Num, k_made_Picks_Edit_made_Picks_Text.down, m_made_Picks_Text]
      refine ⟨?_, ?_⟩
      · intro g3 hg3
        have n4_g3 := ne_of f4_250 hg3
        have o4_g3 : ∀ (T : Store) z, (T.set g3 z).f g4 = T.f g4 := fun _ _ => Store.set_other _ _ n4_g3
        have n5_g3 := ne_of f5_251 hg3
        have o5_g3 : ∀ (T : Store) z, (T.set g3 z).f g5 = T.f g5 := fun _ _ => Store.set_other _ _ n5_g3
        have n3 := H249.ne hg3
        have z3 := H249.old hg3
        have H252 := H249.fresh (e := some (.row 1 (offE.map Cell.enc) false)) hg3
        have f4_253 := (Store.set_other _ (some (.row 1 (offE.map Cell.enc) false)) n4_g3).trans f4_250
        have f5_254 := (Store.set_other _ (some (.row 1 (offE.map Cell.enc) false)) n5_g3).trans f5_251
        have f3_252 := Store.set_same (S249) g3 (some (.row 1 (offE.map Cell.enc) false))
        try simp only [vP.down, vS.down, vE.down, Nat.reduceEqDiff, Nat.reduceAdd, Nat.reduceSub, Nat.reduceMul, Nat.reduceLeDiff, Nat.reduceLT, Int.reduceToNat, reduceIte, reduceCtorEq, Int.reduceEq, Int.reduceLT, Int.reduceLE, ↓avp_condG, ↓tf_arrow, ↓ft_arrow, o4, o4_g3, o5_g3, hr249, b0_249, b1_249, b2_249, f5_251, k_made_Picks_Edit_made_Picks_Num.down, m_made_Picks_Num, k_made_Picks_Edit_made_Picks_Text.down, m_made_Picks_Text]
        refine ⟨?_, ?_⟩
        · refine text_any H252.refl' fun t S257 ht I257 => ?_
          have H257 := H252.trans I257
          have f3_258 := I257.keep f3_252 n3
          have f4_259 := I257.keep f4_253 n4
          have f5_260 := I257.keep f5_254 n5
          try simp only [vP.down, vS.down, vE.down, Nat.reduceEqDiff, Nat.reduceAdd, Nat.reduceSub, Nat.reduceMul, Nat.reduceLeDiff, Nat.reduceLT, Int.reduceToNat, reduceIte, reduceCtorEq, Int.reduceEq, Int.reduceLT, Int.reduceLE, ↓avp_condG, ↓tf_arrow, ↓ft_arrow, o4, o4_g3, o5_g3, rowL_at (α := Int) (w := 1) rfl f3_258 hi249, hr249, b0_249, b1_249, b2_249, f5_260, k_made_Picks_Edit_made_Picks_Num.down, m_made_Picks_Num, k_made_Picks_Edit_made_Picks_Text.down, m_made_Picks_Text]
          exact edit_end (gd_write hid (offE_bd hi249) hp ht) rfl (H257.box z5 n5) ((Store.set_other _ _ n45).trans f4_259) (Store.set_same _ _ _) z4 n4 hq (wk_to fewer_refl (by simp only [vP.down, vS.down, vE.down, Nat.reduceEqDiff, Nat.reduceAdd, Nat.reduceSub, Nat.reduceMul, Nat.reduceLeDiff, Nat.reduceLT, Int.reduceToNat, reduceIte, reduceCtorEq, Int.reduceEq, Int.reduceLT, Int.reduceLE, ↓avp_condG, ↓tf_arrow, ↓ft_arrow, wP.down]))
        · refine text_any H252.refl' fun t S265 ht I265 => ?_
          have H265 := H252.trans I265
          have f3_266 := I265.keep f3_252 n3
          have f4_267 := I265.keep f4_253 n4
          have f5_268 := I265.keep f5_254 n5
          try simp only [vP.down, vS.down, vE.down, Nat.reduceEqDiff, Nat.reduceAdd, Nat.reduceSub, Nat.reduceMul, Nat.reduceLeDiff, Nat.reduceLT, Int.reduceToNat, reduceIte, reduceCtorEq, Int.reduceEq, Int.reduceLT, Int.reduceLE, ↓avp_condG, ↓tf_arrow, ↓ft_arrow, o4, o4_g3, o5_g3, rowL_at (α := Int) (w := 1) rfl f3_266 hi249, hr249, b0_249, b1_249, b2_249, f5_268, k_made_Picks_Edit_made_Picks_Num.down, m_made_Picks_Num, k_made_Picks_Edit_made_Picks_Text.down, m_made_Picks_Text]
          exact edit_end (gd_write hid (offE_bd hi249) hp ht) rfl (H265.box z5 n5) ((Store.set_other _ _ n45).trans f4_267) (Store.set_same _ _ _) z4 n4 hq (wk_to fewer_refl (by simp only [vP.down, vS.down, vE.down, Nat.reduceEqDiff, Nat.reduceAdd, Nat.reduceSub, Nat.reduceMul, Nat.reduceLeDiff, Nat.reduceLT, Int.reduceToNat, reduceIte, reduceCtorEq, Int.reduceEq, Int.reduceLT, Int.reduceLE, ↓avp_condG, ↓tf_arrow, ↓ft_arrow, wP.down]))
      · refine text_any H249.refl' fun t S274 ht I274 => ?_
        have H274 := H249.trans I274
        have f4_275 := I274.keep f4_250 n4
        have f5_276 := I274.keep f5_251 n5
        try simp only [vP.down, vS.down, vE.down, Nat.reduceEqDiff, Nat.reduceAdd, Nat.reduceSub, Nat.reduceMul, Nat.reduceLeDiff, Nat.reduceLT, Int.reduceToNat, reduceIte, reduceCtorEq, Int.reduceEq, Int.reduceLT, Int.reduceLE, ↓avp_condG, ↓tf_arrow, ↓ft_arrow, o4, hr249, b0_249, b1_249, b2_249, f5_276, k_made_Picks_Edit_made_Picks_Num.down, m_made_Picks_Num, k_made_Picks_Edit_made_Picks_Text.down, m_made_Picks_Text]
        intro g3 hg3
        have n4_g3 := ne_of f4_275 hg3
        have o4_g3 : ∀ (T : Store) z, (T.set g3 z).f g4 = T.f g4 := fun _ _ => Store.set_other _ _ n4_g3
        have n5_g3 := ne_of f5_276 hg3
        have o5_g3 : ∀ (T : Store) z, (T.set g3 z).f g5 = T.f g5 := fun _ _ => Store.set_other _ _ n5_g3
        have n3 := H274.ne hg3
        have z3 := H274.old hg3
        have H277 := H274.fresh (e := some (.row 1 (offE.map Cell.enc) false)) hg3
        have f4_278 := (Store.set_other _ (some (.row 1 (offE.map Cell.enc) false)) n4_g3).trans f4_275
        have f5_279 := (Store.set_other _ (some (.row 1 (offE.map Cell.enc) false)) n5_g3).trans f5_276
        have f3_277 := Store.set_same (S274) g3 (some (.row 1 (offE.map Cell.enc) false))
        try simp only [vP.down, vS.down, vE.down, Nat.reduceEqDiff, Nat.reduceAdd, Nat.reduceSub, Nat.reduceMul, Nat.reduceLeDiff, Nat.reduceLT, Int.reduceToNat, reduceIte, reduceCtorEq, Int.reduceEq, Int.reduceLT, Int.reduceLE, ↓avp_condG, ↓tf_arrow, ↓ft_arrow, o4, o4_g3, o5_g3, hr249, b0_249, b1_249, b2_249, f5_276, k_made_Picks_Edit_made_Picks_Num.down, m_made_Picks_Num, k_made_Picks_Edit_made_Picks_Text.down, m_made_Picks_Text]
        exact edit_end (gd_write hid (offE_bd hi249) hp ht) rfl (H277.box z5 n5) ((Store.set_other _ _ n45).trans f4_278) (Store.set_same _ _ _) z4 n4 hq (wk_to fewer_refl (by simp only [vP.down, vS.down, vE.down, Nat.reduceEqDiff, Nat.reduceAdd, Nat.reduceSub, Nat.reduceMul, Nat.reduceLeDiff, Nat.reduceLT, Int.reduceToNat, reduceIte, reduceCtorEq, Int.reduceEq, Int.reduceLT, Int.reduceLE, ↓avp_condG, ↓tf_arrow, ↓ft_arrow, wP.down]))
  · simp only [vP.down, vS.down, vE.down, Nat.reduceEqDiff, Nat.reduceAdd, Nat.reduceSub, Nat.reduceMul, Nat.reduceLeDiff, Nat.reduceLT, Int.reduceToNat, reduceIte, reduceCtorEq, Int.reduceEq, Int.reduceLT, Int.reduceLE, ↓avp_condG, ↓tf_arrow, ↓ft_arrow, f5]
    intro g3 hg3
    have n34 := ne_of f4 hg3
    have n35 := ne_of f5 hg3
    have n3 := H.ne hg3
    have H1 := H.fresh (e := some (.row 1 (cutE.map Cell.enc) false)) hg3
    simp only [vP.down, vS.down, vE.down, Nat.reduceEqDiff, Nat.reduceAdd, Nat.reduceSub, Nat.reduceMul, Nat.reduceLeDiff, Nat.reduceLT, Int.reduceToNat, reduceIte, reduceCtorEq, Int.reduceEq, Int.reduceLT, Int.reduceLE, ↓avp_condG, ↓tf_arrow, ↓ft_arrow, k_made_Picks_Edit_made_Picks_Num.down, m_made_Picks_Num]
    refine num_any H1.refl' (by omega) fun v S1 hv0 hv1 I1 => ?_
    have H2 := H1.trans I1
    have f3a := I1.keep (Store.set_same _ _ _) n3
    have f4a := I1.keep ((Store.set_other _ _ n34).trans f4) n4
    have f5a := I1.keep ((Store.set_other _ _ n35).trans f5) n5
    obtain ⟨i, rfl⟩ : ∃ i : Nat, v = (i : Int) := ⟨v.toNat, by omega⟩
    have hi : i < cutE.length := by show i < 8; omega
    simp only [vP.down, vS.down, vE.down, Nat.reduceEqDiff, Nat.reduceAdd, Nat.reduceSub, Nat.reduceMul, Nat.reduceLeDiff, Nat.reduceLT, Int.reduceToNat, reduceIte, reduceCtorEq, Int.reduceEq, Int.reduceLT, Int.reduceLE, ↓avp_condG, ↓tf_arrow, ↓ft_arrow, rowL_at (α := Int) (w := 1) rfl f3a hi, f5a]
    refine ⟨by omega, ?_⟩
    exact edit_end (gd_make (.inr rfl) hid (cutE_bd hi) hp) rfl (H2.box z5 n5) ((Store.set_other _ _ n45).trans f4a) (Store.set_same _ _ _) z4 n4 hq (wk_to fewer_refl (by simp only [vP.down, vS.down, vE.down, Nat.reduceEqDiff, Nat.reduceAdd, Nat.reduceSub, Nat.reduceMul, Nat.reduceLeDiff, Nat.reduceLT, Int.reduceToNat, reduceIte, reduceCtorEq, Int.reduceEq, Int.reduceLT, Int.reduceLE, ↓avp_condG, ↓tf_arrow, ↓ft_arrow, wP.down]))
set_option maxRecDepth 10000 in
set_option maxHeartbeats 4000000 in
theorem body_made_Picks_Edit (xs : List AV) (s : Store) (Q : AV → Store → Prop) (h : F_made_Picks_Edit xs s Q) : xs.length ≤ 54 ∧ avp K_made_Picks_Edit G_made_Picks_Edit (Ret K_made_Picks_Edit [.cell 4 24] fun r s' => ∃ s'', Sub s'' s' ∧ Q r s'') (entry xs s) := by
  obtain ⟨g, id, rfl, hid, l, h, hq⟩ := h
  refine ⟨by simp, ?_⟩
  unfold G_made_Picks_Edit
  simp only [vP.down, vS.down, vE.down, Nat.reduceEqDiff, Nat.reduceAdd, Nat.reduceSub, Nat.reduceMul, Nat.reduceLeDiff, Nat.reduceLT, Int.reduceToNat, reduceIte, reduceCtorEq, Int.reduceEq, Int.reduceLT, Int.reduceLE, ↓avp_condG, ↓tf_arrow, ↓ft_arrow]
  intro g4 hg4
  have n4 := h.ne hg4
  have z4 := hg4
  have H0 := h.fresh (e := some (stE step0 (.t .nilS))) hg4
  have f4 := Store.set_same s g4 (some (stE step0 (.t .nilS)))
  simp only [vP.down, vS.down, vE.down, Nat.reduceEqDiff, Nat.reduceAdd, Nat.reduceSub, Nat.reduceMul, Nat.reduceLeDiff, Nat.reduceLT, Int.reduceToNat, reduceIte, reduceCtorEq, Int.reduceEq, Int.reduceLT, Int.reduceLE, ↓avp_condG, ↓tf_arrow, ↓ft_arrow, k_made_Picks_Edit_made_Picks_Num.down, m_made_Picks_Num]
  refine ⟨?_, ?_⟩
  · intro g3 hg3
    have n4_g3 := ne_of f4 hg3
    have o4_g3 : ∀ (T : Store) z, (T.set g3 z).f g4 = T.f g4 := fun _ _ => Store.set_other _ _ n4_g3
    have n3 := H0.ne hg3
    have z3 := H0.old hg3
    have H4 := H0.fresh (e := some (.row 1 (kindE.map Cell.enc) false)) hg3
    have f4_5 := (Store.set_other _ (some (.row 1 (kindE.map Cell.enc) false)) n4_g3).trans f4
    have f3_4 := Store.set_same (s.set g4 (some (stE step0 (.t .nilS)))) g3 (some (.row 1 (kindE.map Cell.enc) false))
    try simp only [vP.down, vS.down, vE.down, Nat.reduceEqDiff, Nat.reduceAdd, Nat.reduceSub, Nat.reduceMul, Nat.reduceLeDiff, Nat.reduceLT, Int.reduceToNat, reduceIte, reduceCtorEq, Int.reduceEq, Int.reduceLT, Int.reduceLE, ↓avp_condG, ↓tf_arrow, ↓ft_arrow, o4_g3, k_made_Picks_Edit_made_Picks_Num.down, m_made_Picks_Num, k_made_Picks_Edit_made_Picks_Path.down, m_made_Picks_Path]
    refine ⟨?_, ?_⟩
    · refine num_any H4.refl' (by omega) fun v S6 hv0 hv1 I6 => ?_
      obtain ⟨i, rfl⟩ : ∃ i : Nat, v = (i : Int) := ⟨v.toNat, by omega⟩
      have hi6 : i < kindE.length := by show i < 12; omega
      have b0_6 : (0 ≤ (i : Int)) = True := by simp
      have b1_6 : ((i : Int) < 12) = True := by simp only [eq_iff_iff, iff_true]; omega
      have b2_6 : (i < 12) = True := by simp only [eq_iff_iff, iff_true]; omega
      have hr6 : ([[.int .i64 1], [.int .i64 1], [.int .i64 1], [.int .i64 2], [.int .i64 3], [.int .i64 3], [.int .i64 4], [.int .i64 4], [.int .i64 4], [.int .i64 5], [.int .i64 1], [.int .i64 4]] : List (List TV)).getD i [] = [.int .i64 (kindE.getD i default)] := row_at (l := kindE) hi6
      have H6 := H4.trans I6
      have f3_7 := I6.keep f3_4 n3
      have f4_8 := I6.keep f4_5 n4
      try simp only [vP.down, vS.down, vE.down, Nat.reduceEqDiff, Nat.reduceAdd, Nat.reduceSub, Nat.reduceMul, Nat.reduceLeDiff, Nat.reduceLT, Int.reduceToNat, reduceIte, reduceCtorEq, Int.reduceEq, Int.reduceLT, Int.reduceLE, ↓avp_condG, ↓tf_arrow, ↓ft_arrow, o4_g3, rowL_at (α := Int) (w := 1) rfl f3_7 hi6, hr6, b0_6, b1_6, b2_6, k_made_Picks_Edit_made_Picks_Num.down, m_made_Picks_Num, k_made_Picks_Edit_made_Picks_Path.down, m_made_Picks_Path]
      refine ⟨?_, ?_⟩
      · refine ⟨?_, ?_⟩
        · refine path_any H6.refl' fun p S11 hp I11 => ?_
          have H11 := H6.trans I11
          have f3_12 := I11.keep f3_7 n3
          have f4_13 := I11.keep f4_8 n4
          try simp only [vP.down, vS.down, vE.down, Nat.reduceEqDiff, Nat.reduceAdd, Nat.reduceSub, Nat.reduceMul, Nat.reduceLeDiff, Nat.reduceLT, Int.reduceToNat, reduceIte, reduceCtorEq, Int.reduceEq, Int.reduceLT, Int.reduceLE, ↓avp_condG, ↓tf_arrow, ↓ft_arrow, o4_g3, rowL_at (α := Int) (w := 1) rfl f3_12 hi6, hr6, b0_6, b1_6, b2_6, k_made_Picks_Edit_made_Picks_Num.down, m_made_Picks_Num, k_made_Picks_Edit_made_Picks_Path.down, m_made_Picks_Path]
          intro g5 hg5
          have n3_g5 := ne_of f3_12 hg5
          have o3_g5 : ∀ (T : Store) z, (T.set g5 z).f g3 = T.f g3 := fun _ _ => Store.set_other _ _ n3_g5
          have n4_g5 := ne_of f4_13 hg5
          have o4_g5 : ∀ (T : Store) z, (T.set g5 z).f g4 = T.f g4 := fun _ _ => Store.set_other _ _ n4_g5
          have n5 := H11.ne hg5
          have z5 := H11.old hg5
          have H15 := H11.fresh (e := some (stE step0 (.t .nilS))) hg5
          have f3_16 := (Store.set_other _ (some (stE step0 (.t .nilS))) n3_g5).trans f3_12
          have f4_17 := (Store.set_other _ (some (stE step0 (.t .nilS))) n4_g5).trans f4_13
          have f5_15 := Store.set_same (S11) g5 (some (stE step0 (.t .nilS)))
          try simp only [vP.down, vS.down, vE.down, Nat.reduceEqDiff, Nat.reduceAdd, Nat.reduceSub, Nat.reduceMul, Nat.reduceLeDiff, Nat.reduceLT, Int.reduceToNat, reduceIte, reduceCtorEq, Int.reduceEq, Int.reduceLT, Int.reduceLE, ↓avp_condG, ↓tf_arrow, ↓ft_arrow, o4_g3, o3_g5, o4_g5, rowL_at (α := Int) (w := 1) rfl f3_12 hi6, hr6, b0_6, b1_6, b2_6, k_made_Picks_Edit_made_Picks_Num.down, m_made_Picks_Num, k_made_Picks_Edit_made_Picks_Path.down, m_made_Picks_Path]
          refine edit_tail (kindE_bd hi6) hid hp ?_ ?_ ?_ z4 z5 n4 n5 n4_g5 hq (wk_to fewer_refl (by simp only [vP.down, vS.down, vE.down, Nat.reduceEqDiff, Nat.reduceAdd, Nat.reduceSub, Nat.reduceMul, Nat.reduceLeDiff, Nat.reduceLT, Int.reduceToNat, reduceIte, reduceCtorEq, Int.reduceEq, Int.reduceLT, Int.reduceLE, ↓avp_condG, ↓tf_arrow, ↓ft_arrow, wP.down]))
          · first | exact H15.box z5 n5 | exact H11.fresh hg5
          · first | exact (Store.set_other _ _ n4_g5).trans f4_17 | exact (Store.set_other _ _ n4_g5).trans f4_13
          · exact Store.set_same _ _ _
        · intro g5 hg5
          have n3_g5 := ne_of f3_7 hg5
          have o3_g5 : ∀ (T : Store) z, (T.set g5 z).f g3 = T.f g3 := fun _ _ => Store.set_other _ _ n3_g5
          have n4_g5 := ne_of f4_8 hg5
          have o4_g5 : ∀ (T : Store) z, (T.set g5 z).f g4 = T.f g4 := fun _ _ => Store.set_other _ _ n4_g5
          have n5 := H6.ne hg5
          have z5 := H6.old hg5
          have H19 := H6.fresh (e := some (stE step0 (.t .nilS))) hg5
          have f3_20 := (Store.set_other _ (some (stE step0 (.t .nilS))) n3_g5).trans f3_7
          have f4_21 := (Store.set_other _ (some (stE step0 (.t .nilS))) n4_g5).trans f4_8
          have f5_19 := Store.set_same (S6) g5 (some (stE step0 (.t .nilS)))
          try simp only [vP.down, vS.down, vE.down, Nat.reduceEqDiff, Nat.reduceAdd, Nat.reduceSub, Nat.reduceMul, Nat.reduceLeDiff, Nat.reduceLT, Int.reduceToNat, reduceIte, reduceCtorEq, Int.reduceEq, Int.reduceLT, Int.reduceLE, ↓avp_condG, ↓tf_arrow, ↓ft_arrow, o4_g3, o3_g5, o4_g5, rowL_at (α := Int) (w := 1) rfl f3_7 hi6, hr6, b0_6, b1_6, b2_6, k_made_Picks_Edit_made_Picks_Num.down, m_made_Picks_Num, k_made_Picks_Edit_made_Picks_Path.down, m_made_Picks_Path]
          refine path_any H19.refl' fun p S22 hp I22 => ?_
          have H22 := H19.trans I22
          have f3_23 := I22.keep f3_20 n3
          have f4_24 := I22.keep f4_21 n4
          have f5_25 := I22.keep f5_19 n5
          try simp only [vP.down, vS.down, vE.down, Nat.reduceEqDiff, Nat.reduceAdd, Nat.reduceSub, Nat.reduceMul, Nat.reduceLeDiff, Nat.reduceLT, Int.reduceToNat, reduceIte, reduceCtorEq, Int.reduceEq, Int.reduceLT, Int.reduceLE, ↓avp_condG, ↓tf_arrow, ↓ft_arrow, o4_g3, o3_g5, o4_g5, rowL_at (α := Int) (w := 1) rfl f3_23 hi6, hr6, b0_6, b1_6, b2_6, f5_25, k_made_Picks_Edit_made_Picks_Num.down, m_made_Picks_Num, k_made_Picks_Edit_made_Picks_Path.down, m_made_Picks_Path]
          refine edit_tail (kindE_bd hi6) hid hp ?_ ?_ ?_ z4 z5 n4 n5 n4_g5 hq (wk_to fewer_refl (by simp only [vP.down, vS.down, vE.down, Nat.reduceEqDiff, Nat.reduceAdd, Nat.reduceSub, Nat.reduceMul, Nat.reduceLeDiff, Nat.reduceLT, Int.reduceToNat, reduceIte, reduceCtorEq, Int.reduceEq, Int.reduceLT, Int.reduceLE, ↓avp_condG, ↓tf_arrow, ↓ft_arrow, wP.down]))
          · first | exact H22.box z5 n5 | exact H6.fresh hg5
          · first | exact (Store.set_other _ _ n4_g5).trans f4_24 | exact (Store.set_other _ _ n4_g5).trans f4_8
          · exact Store.set_same _ _ _
      · refine ⟨?_, ?_⟩
        · refine path_any H6.refl' fun p S28 hp I28 => ?_
          have H28 := H6.trans I28
          have f3_29 := I28.keep f3_7 n3
          have f4_30 := I28.keep f4_8 n4
          try simp only [vP.down, vS.down, vE.down, Nat.reduceEqDiff, Nat.reduceAdd, Nat.reduceSub, Nat.reduceMul, Nat.reduceLeDiff, Nat.reduceLT, Int.reduceToNat, reduceIte, reduceCtorEq, Int.reduceEq, Int.reduceLT, Int.reduceLE, ↓avp_condG, ↓tf_arrow, ↓ft_arrow, o4_g3, rowL_at (α := Int) (w := 1) rfl f3_29 hi6, hr6, b0_6, b1_6, b2_6, k_made_Picks_Edit_made_Picks_Num.down, m_made_Picks_Num, k_made_Picks_Edit_made_Picks_Path.down, m_made_Picks_Path]
          intro g5 hg5
          have n3_g5 := ne_of f3_29 hg5
          have o3_g5 : ∀ (T : Store) z, (T.set g5 z).f g3 = T.f g3 := fun _ _ => Store.set_other _ _ n3_g5
          have n4_g5 := ne_of f4_30 hg5
          have o4_g5 : ∀ (T : Store) z, (T.set g5 z).f g4 = T.f g4 := fun _ _ => Store.set_other _ _ n4_g5
          have n5 := H28.ne hg5
          have z5 := H28.old hg5
          have H33 := H28.fresh (e := some (stE step0 (.t .nilS))) hg5
          have f3_34 := (Store.set_other _ (some (stE step0 (.t .nilS))) n3_g5).trans f3_29
          have f4_35 := (Store.set_other _ (some (stE step0 (.t .nilS))) n4_g5).trans f4_30
          have f5_33 := Store.set_same (S28) g5 (some (stE step0 (.t .nilS)))
          try simp only [vP.down, vS.down, vE.down, Nat.reduceEqDiff, Nat.reduceAdd, Nat.reduceSub, Nat.reduceMul, Nat.reduceLeDiff, Nat.reduceLT, Int.reduceToNat, reduceIte, reduceCtorEq, Int.reduceEq, Int.reduceLT, Int.reduceLE, ↓avp_condG, ↓tf_arrow, ↓ft_arrow, o4_g3, o3_g5, o4_g5, rowL_at (α := Int) (w := 1) rfl f3_29 hi6, hr6, b0_6, b1_6, b2_6, k_made_Picks_Edit_made_Picks_Num.down, m_made_Picks_Num, k_made_Picks_Edit_made_Picks_Path.down, m_made_Picks_Path]
          refine edit_tail (kindE_bd hi6) hid hp ?_ ?_ ?_ z4 z5 n4 n5 n4_g5 hq (wk_to fewer_refl (by simp only [vP.down, vS.down, vE.down, Nat.reduceEqDiff, Nat.reduceAdd, Nat.reduceSub, Nat.reduceMul, Nat.reduceLeDiff, Nat.reduceLT, Int.reduceToNat, reduceIte, reduceCtorEq, Int.reduceEq, Int.reduceLT, Int.reduceLE, ↓avp_condG, ↓tf_arrow, ↓ft_arrow, wP.down]))
          · first | exact H33.box z5 n5 | exact H28.fresh hg5
          · first | exact (Store.set_other _ _ n4_g5).trans f4_35 | exact (Store.set_other _ _ n4_g5).trans f4_30
          · exact Store.set_same _ _ _
        · intro g5 hg5
          have n3_g5 := ne_of f3_7 hg5
          have o3_g5 : ∀ (T : Store) z, (T.set g5 z).f g3 = T.f g3 := fun _ _ => Store.set_other _ _ n3_g5
          have n4_g5 := ne_of f4_8 hg5
          have o4_g5 : ∀ (T : Store) z, (T.set g5 z).f g4 = T.f g4 := fun _ _ => Store.set_other _ _ n4_g5
          have n5 := H6.ne hg5
          have z5 := H6.old hg5
          have H37 := H6.fresh (e := some (stE step0 (.t .nilS))) hg5
          have f3_38 := (Store.set_other _ (some (stE step0 (.t .nilS))) n3_g5).trans f3_7
          have f4_39 := (Store.set_other _ (some (stE step0 (.t .nilS))) n4_g5).trans f4_8
          have f5_37 := Store.set_same (S6) g5 (some (stE step0 (.t .nilS)))
          try simp only [vP.down, vS.down, vE.down, Nat.reduceEqDiff, Nat.reduceAdd, Nat.reduceSub, Nat.reduceMul, Nat.reduceLeDiff, Nat.reduceLT, Int.reduceToNat, reduceIte, reduceCtorEq, Int.reduceEq, Int.reduceLT, Int.reduceLE, ↓avp_condG, ↓tf_arrow, ↓ft_arrow, o4_g3, o3_g5, o4_g5, rowL_at (α := Int) (w := 1) rfl f3_7 hi6, hr6, b0_6, b1_6, b2_6, k_made_Picks_Edit_made_Picks_Num.down, m_made_Picks_Num, k_made_Picks_Edit_made_Picks_Path.down, m_made_Picks_Path]
          refine ⟨?_, ?_⟩
          · refine path_any H37.refl' fun p S41 hp I41 => ?_
            have H41 := H37.trans I41
            have f3_42 := I41.keep f3_38 n3
            have f4_43 := I41.keep f4_39 n4
            have f5_44 := I41.keep f5_37 n5
            try simp only [vP.down, vS.down, vE.down, Nat.reduceEqDiff, Nat.reduceAdd, Nat.reduceSub, Nat.reduceMul, Nat.reduceLeDiff, Nat.reduceLT, Int.reduceToNat, reduceIte, reduceCtorEq, Int.reduceEq, Int.reduceLT, Int.reduceLE, ↓avp_condG, ↓tf_arrow, ↓ft_arrow, o4_g3, o3_g5, o4_g5, rowL_at (α := Int) (w := 1) rfl f3_42 hi6, hr6, b0_6, b1_6, b2_6, f5_44, k_made_Picks_Edit_made_Picks_Num.down, m_made_Picks_Num, k_made_Picks_Edit_made_Picks_Path.down, m_made_Picks_Path]
            refine edit_tail (kindE_bd hi6) hid hp ?_ ?_ ?_ z4 z5 n4 n5 n4_g5 hq (wk_to fewer_refl (by simp only [vP.down, vS.down, vE.down, Nat.reduceEqDiff, Nat.reduceAdd, Nat.reduceSub, Nat.reduceMul, Nat.reduceLeDiff, Nat.reduceLT, Int.reduceToNat, reduceIte, reduceCtorEq, Int.reduceEq, Int.reduceLT, Int.reduceLE, ↓avp_condG, ↓tf_arrow, ↓ft_arrow, wP.down]))
            · first | exact H41.box z5 n5 | exact H6.fresh hg5
            · first | exact (Store.set_other _ _ n4_g5).trans f4_43 | exact (Store.set_other _ _ n4_g5).trans f4_8
            · exact Store.set_same _ _ _
          · refine path_any H37.refl' fun p S47 hp I47 => ?_
            have H47 := H37.trans I47
            have f3_48 := I47.keep f3_38 n3
            have f4_49 := I47.keep f4_39 n4
            have f5_50 := I47.keep f5_37 n5
            try simp only [vP.down, vS.down, vE.down, Nat.reduceEqDiff, Nat.reduceAdd, Nat.reduceSub, Nat.reduceMul, Nat.reduceLeDiff, Nat.reduceLT, Int.reduceToNat, reduceIte, reduceCtorEq, Int.reduceEq, Int.reduceLT, Int.reduceLE, ↓avp_condG, ↓tf_arrow, ↓ft_arrow, o4_g3, o3_g5, o4_g5, rowL_at (α := Int) (w := 1) rfl f3_48 hi6, hr6, b0_6, b1_6, b2_6, f5_50, k_made_Picks_Edit_made_Picks_Num.down, m_made_Picks_Num, k_made_Picks_Edit_made_Picks_Path.down, m_made_Picks_Path]
            refine edit_tail (kindE_bd hi6) hid hp ?_ ?_ ?_ z4 z5 n4 n5 n4_g5 hq (wk_to fewer_refl (by simp only [vP.down, vS.down, vE.down, Nat.reduceEqDiff, Nat.reduceAdd, Nat.reduceSub, Nat.reduceMul, Nat.reduceLeDiff, Nat.reduceLT, Int.reduceToNat, reduceIte, reduceCtorEq, Int.reduceEq, Int.reduceLT, Int.reduceLE, ↓avp_condG, ↓tf_arrow, ↓ft_arrow, wP.down]))
            · first | exact H47.box z5 n5 | exact H6.fresh hg5
            · first | exact (Store.set_other _ _ n4_g5).trans f4_49 | exact (Store.set_other _ _ n4_g5).trans f4_8
            · exact Store.set_same _ _ _
    · intro g5 hg5
      have n3_g5 := ne_of f3_4 hg5
      have o3_g5 : ∀ (T : Store) z, (T.set g5 z).f g3 = T.f g3 := fun _ _ => Store.set_other _ _ n3_g5
      have n4_g5 := ne_of f4_5 hg5
      have o4_g5 : ∀ (T : Store) z, (T.set g5 z).f g4 = T.f g4 := fun _ _ => Store.set_other _ _ n4_g5
      have n5 := H4.ne hg5
      have z5 := H4.old hg5
      have H54 := H4.fresh (e := some (stE step0 (.t .nilS))) hg5
      have f3_55 := (Store.set_other _ (some (stE step0 (.t .nilS))) n3_g5).trans f3_4
      have f4_56 := (Store.set_other _ (some (stE step0 (.t .nilS))) n4_g5).trans f4_5
      have f5_54 := Store.set_same ((s.set g4 (some (stE step0 (.t .nilS)))).set g3 (some (.row 1 (kindE.map Cell.enc) false))) g5 (some (stE step0 (.t .nilS)))
      try simp only [vP.down, vS.down, vE.down, Nat.reduceEqDiff, Nat.reduceAdd, Nat.reduceSub, Nat.reduceMul, Nat.reduceLeDiff, Nat.reduceLT, Int.reduceToNat, reduceIte, reduceCtorEq, Int.reduceEq, Int.reduceLT, Int.reduceLE, ↓avp_condG, ↓tf_arrow, ↓ft_arrow, o4_g3, o3_g5, o4_g5, k_made_Picks_Edit_made_Picks_Num.down, m_made_Picks_Num, k_made_Picks_Edit_made_Picks_Path.down, m_made_Picks_Path]
      refine num_any H54.refl' (by omega) fun v S57 hv0 hv1 I57 => ?_
      obtain ⟨i, rfl⟩ : ∃ i : Nat, v = (i : Int) := ⟨v.toNat, by omega⟩
      have hi57 : i < kindE.length := by show i < 12; omega
      have b0_57 : (0 ≤ (i : Int)) = True := by simp
      have b1_57 : ((i : Int) < 12) = True := by simp only [eq_iff_iff, iff_true]; omega
      have b2_57 : (i < 12) = True := by simp only [eq_iff_iff, iff_true]; omega
      have hr57 : ([[.int .i64 1], [.int .i64 1], [.int .i64 1], [.int .i64 2], [.int .i64 3], [.int .i64 3], [.int .i64 4], [.int .i64 4], [.int .i64 4], [.int .i64 5], [.int .i64 1], [.int .i64 4]] : List (List TV)).getD i [] = [.int .i64 (kindE.getD i default)] := row_at (l := kindE) hi57
      have H57 := H54.trans I57
      have f3_58 := I57.keep f3_55 n3
      have f4_59 := I57.keep f4_56 n4
      have f5_60 := I57.keep f5_54 n5
      try simp only [vP.down, vS.down, vE.down, Nat.reduceEqDiff, Nat.reduceAdd, Nat.reduceSub, Nat.reduceMul, Nat.reduceLeDiff, Nat.reduceLT, Int.reduceToNat, reduceIte, reduceCtorEq, Int.reduceEq, Int.reduceLT, Int.reduceLE, ↓avp_condG, ↓tf_arrow, ↓ft_arrow, o4_g3, o3_g5, o4_g5, rowL_at (α := Int) (w := 1) rfl f3_58 hi57, hr57, b0_57, b1_57, b2_57, f5_60, k_made_Picks_Edit_made_Picks_Num.down, m_made_Picks_Num, k_made_Picks_Edit_made_Picks_Path.down, m_made_Picks_Path]
      refine ⟨?_, ?_⟩
      · refine path_any H57.refl' fun p S63 hp I63 => ?_
        have H63 := H57.trans I63
        have f3_64 := I63.keep f3_58 n3
        have f4_65 := I63.keep f4_59 n4
        have f5_66 := I63.keep f5_60 n5
        try simp only [vP.down, vS.down, vE.down, Nat.reduceEqDiff, Nat.reduceAdd, Nat.reduceSub, Nat.reduceMul, Nat.reduceLeDiff, Nat.reduceLT, Int.reduceToNat, reduceIte, reduceCtorEq, Int.reduceEq, Int.reduceLT, Int.reduceLE, ↓avp_condG, ↓tf_arrow, ↓ft_arrow, o4_g3, o3_g5, o4_g5, rowL_at (α := Int) (w := 1) rfl f3_64 hi57, hr57, b0_57, b1_57, b2_57, f5_66, k_made_Picks_Edit_made_Picks_Num.down, m_made_Picks_Num, k_made_Picks_Edit_made_Picks_Path.down, m_made_Picks_Path]
        refine edit_tail (kindE_bd hi57) hid hp ?_ ?_ ?_ z4 z5 n4 n5 n4_g5 hq (wk_to fewer_refl (by simp only [vP.down, vS.down, vE.down, Nat.reduceEqDiff, Nat.reduceAdd, Nat.reduceSub, Nat.reduceMul, Nat.reduceLeDiff, Nat.reduceLT, Int.reduceToNat, reduceIte, reduceCtorEq, Int.reduceEq, Int.reduceLT, Int.reduceLE, ↓avp_condG, ↓tf_arrow, ↓ft_arrow, wP.down]))
        · first | exact H63.box z5 n5 | exact H4.fresh hg5
        · first | exact (Store.set_other _ _ n4_g5).trans f4_65 | exact (Store.set_other _ _ n4_g5).trans f4_5
        · exact Store.set_same _ _ _
      · refine path_any H57.refl' fun p S69 hp I69 => ?_
        have H69 := H57.trans I69
        have f3_70 := I69.keep f3_58 n3
        have f4_71 := I69.keep f4_59 n4
        have f5_72 := I69.keep f5_60 n5
        try simp only [vP.down, vS.down, vE.down, Nat.reduceEqDiff, Nat.reduceAdd, Nat.reduceSub, Nat.reduceMul, Nat.reduceLeDiff, Nat.reduceLT, Int.reduceToNat, reduceIte, reduceCtorEq, Int.reduceEq, Int.reduceLT, Int.reduceLE, ↓avp_condG, ↓tf_arrow, ↓ft_arrow, o4_g3, o3_g5, o4_g5, rowL_at (α := Int) (w := 1) rfl f3_70 hi57, hr57, b0_57, b1_57, b2_57, f5_72, k_made_Picks_Edit_made_Picks_Num.down, m_made_Picks_Num, k_made_Picks_Edit_made_Picks_Path.down, m_made_Picks_Path]
        refine edit_tail (kindE_bd hi57) hid hp ?_ ?_ ?_ z4 z5 n4 n5 n4_g5 hq (wk_to fewer_refl (by simp only [vP.down, vS.down, vE.down, Nat.reduceEqDiff, Nat.reduceAdd, Nat.reduceSub, Nat.reduceMul, Nat.reduceLeDiff, Nat.reduceLT, Int.reduceToNat, reduceIte, reduceCtorEq, Int.reduceEq, Int.reduceLT, Int.reduceLE, ↓avp_condG, ↓tf_arrow, ↓ft_arrow, wP.down]))
        · first | exact H69.box z5 n5 | exact H4.fresh hg5
        · first | exact (Store.set_other _ _ n4_g5).trans f4_71 | exact (Store.set_other _ _ n4_g5).trans f4_5
        · exact Store.set_same _ _ _
  · refine ⟨?_, ?_⟩
    · refine num_any H0.refl' (by omega) fun v S76 hv0 hv1 I76 => ?_
      obtain ⟨i, rfl⟩ : ∃ i : Nat, v = (i : Int) := ⟨v.toNat, by omega⟩
      have hi76 : i < kindE.length := by show i < 12; omega
      have b0_76 : (0 ≤ (i : Int)) = True := by simp
      have b1_76 : ((i : Int) < 12) = True := by simp only [eq_iff_iff, iff_true]; omega
      have b2_76 : (i < 12) = True := by simp only [eq_iff_iff, iff_true]; omega
      have hr76 : ([[.int .i64 1], [.int .i64 1], [.int .i64 1], [.int .i64 2], [.int .i64 3], [.int .i64 3], [.int .i64 4], [.int .i64 4], [.int .i64 4], [.int .i64 5], [.int .i64 1], [.int .i64 4]] : List (List TV)).getD i [] = [.int .i64 (kindE.getD i default)] := row_at (l := kindE) hi76
      have H76 := H0.trans I76
      have f4_77 := I76.keep f4 n4
      try simp only [vP.down, vS.down, vE.down, Nat.reduceEqDiff, Nat.reduceAdd, Nat.reduceSub, Nat.reduceMul, Nat.reduceLeDiff, Nat.reduceLT, Int.reduceToNat, reduceIte, reduceCtorEq, Int.reduceEq, Int.reduceLT, Int.reduceLE, ↓avp_condG, ↓tf_arrow, ↓ft_arrow, hr76, b0_76, b1_76, b2_76, k_made_Picks_Edit_made_Picks_Num.down, m_made_Picks_Num, k_made_Picks_Edit_made_Picks_Path.down, m_made_Picks_Path]
      refine ⟨?_, ?_⟩
      · intro g3 hg3
        have n4_g3 := ne_of f4_77 hg3
        have o4_g3 : ∀ (T : Store) z, (T.set g3 z).f g4 = T.f g4 := fun _ _ => Store.set_other _ _ n4_g3
        have n3 := H76.ne hg3
        have z3 := H76.old hg3
        have H78 := H76.fresh (e := some (.row 1 (kindE.map Cell.enc) false)) hg3
        have f4_79 := (Store.set_other _ (some (.row 1 (kindE.map Cell.enc) false)) n4_g3).trans f4_77
        have f3_78 := Store.set_same (S76) g3 (some (.row 1 (kindE.map Cell.enc) false))
        try simp only [vP.down, vS.down, vE.down, Nat.reduceEqDiff, Nat.reduceAdd, Nat.reduceSub, Nat.reduceMul, Nat.reduceLeDiff, Nat.reduceLT, Int.reduceToNat, reduceIte, reduceCtorEq, Int.reduceEq, Int.reduceLT, Int.reduceLE, ↓avp_condG, ↓tf_arrow, ↓ft_arrow, o4_g3, hr76, b0_76, b1_76, b2_76, k_made_Picks_Edit_made_Picks_Num.down, m_made_Picks_Num, k_made_Picks_Edit_made_Picks_Path.down, m_made_Picks_Path]
        refine ⟨?_, ?_⟩
        · refine ⟨?_, ?_⟩
          · refine path_any H78.refl' fun p S82 hp I82 => ?_
            have H82 := H78.trans I82
            have f3_83 := I82.keep f3_78 n3
            have f4_84 := I82.keep f4_79 n4
            try simp only [vP.down, vS.down, vE.down, Nat.reduceEqDiff, Nat.reduceAdd, Nat.reduceSub, Nat.reduceMul, Nat.reduceLeDiff, Nat.reduceLT, Int.reduceToNat, reduceIte, reduceCtorEq, Int.reduceEq, Int.reduceLT, Int.reduceLE, ↓avp_condG, ↓tf_arrow, ↓ft_arrow, o4_g3, rowL_at (α := Int) (w := 1) rfl f3_83 hi76, hr76, b0_76, b1_76, b2_76, k_made_Picks_Edit_made_Picks_Num.down, m_made_Picks_Num, k_made_Picks_Edit_made_Picks_Path.down, m_made_Picks_Path]
            intro g5 hg5
            have n3_g5 := ne_of f3_83 hg5
            have o3_g5 : ∀ (T : Store) z, (T.set g5 z).f g3 = T.f g3 := fun _ _ => Store.set_other _ _ n3_g5
            have n4_g5 := ne_of f4_84 hg5
            have o4_g5 : ∀ (T : Store) z, (T.set g5 z).f g4 = T.f g4 := fun _ _ => Store.set_other _ _ n4_g5
            have n5 := H82.ne hg5
            have z5 := H82.old hg5
            have H86 := H82.fresh (e := some (stE step0 (.t .nilS))) hg5
            have f3_87 := (Store.set_other _ (some (stE step0 (.t .nilS))) n3_g5).trans f3_83
            have f4_88 := (Store.set_other _ (some (stE step0 (.t .nilS))) n4_g5).trans f4_84
            have f5_86 := Store.set_same (S82) g5 (some (stE step0 (.t .nilS)))
            try simp only [vP.down, vS.down, vE.down, Nat.reduceEqDiff, Nat.reduceAdd, Nat.reduceSub, Nat.reduceMul, Nat.reduceLeDiff, Nat.reduceLT, Int.reduceToNat, reduceIte, reduceCtorEq, Int.reduceEq, Int.reduceLT, Int.reduceLE, ↓avp_condG, ↓tf_arrow, ↓ft_arrow, o4_g3, o3_g5, o4_g5, rowL_at (α := Int) (w := 1) rfl f3_83 hi76, hr76, b0_76, b1_76, b2_76, k_made_Picks_Edit_made_Picks_Num.down, m_made_Picks_Num, k_made_Picks_Edit_made_Picks_Path.down, m_made_Picks_Path]
            refine edit_tail (kindE_bd hi76) hid hp ?_ ?_ ?_ z4 z5 n4 n5 n4_g5 hq (wk_to fewer_refl (by simp only [vP.down, vS.down, vE.down, Nat.reduceEqDiff, Nat.reduceAdd, Nat.reduceSub, Nat.reduceMul, Nat.reduceLeDiff, Nat.reduceLT, Int.reduceToNat, reduceIte, reduceCtorEq, Int.reduceEq, Int.reduceLT, Int.reduceLE, ↓avp_condG, ↓tf_arrow, ↓ft_arrow, wP.down]))
            · first | exact H86.box z5 n5 | exact H82.fresh hg5
            · first | exact (Store.set_other _ _ n4_g5).trans f4_88 | exact (Store.set_other _ _ n4_g5).trans f4_84
            · exact Store.set_same _ _ _
          · intro g5 hg5
            have n3_g5 := ne_of f3_78 hg5
            have o3_g5 : ∀ (T : Store) z, (T.set g5 z).f g3 = T.f g3 := fun _ _ => Store.set_other _ _ n3_g5
            have n4_g5 := ne_of f4_79 hg5
            have o4_g5 : ∀ (T : Store) z, (T.set g5 z).f g4 = T.f g4 := fun _ _ => Store.set_other _ _ n4_g5
            have n5 := H78.ne hg5
            have z5 := H78.old hg5
            have H90 := H78.fresh (e := some (stE step0 (.t .nilS))) hg5
            have f3_91 := (Store.set_other _ (some (stE step0 (.t .nilS))) n3_g5).trans f3_78
            have f4_92 := (Store.set_other _ (some (stE step0 (.t .nilS))) n4_g5).trans f4_79
            have f5_90 := Store.set_same ((S76).set g3 (some (.row 1 (kindE.map Cell.enc) false))) g5 (some (stE step0 (.t .nilS)))
            try simp only [vP.down, vS.down, vE.down, Nat.reduceEqDiff, Nat.reduceAdd, Nat.reduceSub, Nat.reduceMul, Nat.reduceLeDiff, Nat.reduceLT, Int.reduceToNat, reduceIte, reduceCtorEq, Int.reduceEq, Int.reduceLT, Int.reduceLE, ↓avp_condG, ↓tf_arrow, ↓ft_arrow, o4_g3, o3_g5, o4_g5, hr76, b0_76, b1_76, b2_76, k_made_Picks_Edit_made_Picks_Num.down, m_made_Picks_Num, k_made_Picks_Edit_made_Picks_Path.down, m_made_Picks_Path]
            refine path_any H90.refl' fun p S93 hp I93 => ?_
            have H93 := H90.trans I93
            have f3_94 := I93.keep f3_91 n3
            have f4_95 := I93.keep f4_92 n4
            have f5_96 := I93.keep f5_90 n5
            try simp only [vP.down, vS.down, vE.down, Nat.reduceEqDiff, Nat.reduceAdd, Nat.reduceSub, Nat.reduceMul, Nat.reduceLeDiff, Nat.reduceLT, Int.reduceToNat, reduceIte, reduceCtorEq, Int.reduceEq, Int.reduceLT, Int.reduceLE, ↓avp_condG, ↓tf_arrow, ↓ft_arrow, o4_g3, o3_g5, o4_g5, rowL_at (α := Int) (w := 1) rfl f3_94 hi76, hr76, b0_76, b1_76, b2_76, f5_96, k_made_Picks_Edit_made_Picks_Num.down, m_made_Picks_Num, k_made_Picks_Edit_made_Picks_Path.down, m_made_Picks_Path]
            refine edit_tail (kindE_bd hi76) hid hp ?_ ?_ ?_ z4 z5 n4 n5 n4_g5 hq (wk_to fewer_refl (by simp only [vP.down, vS.down, vE.down, Nat.reduceEqDiff, Nat.reduceAdd, Nat.reduceSub, Nat.reduceMul, Nat.reduceLeDiff, Nat.reduceLT, Int.reduceToNat, reduceIte, reduceCtorEq, Int.reduceEq, Int.reduceLT, Int.reduceLE, ↓avp_condG, ↓tf_arrow, ↓ft_arrow, wP.down]))
            · first | exact H93.box z5 n5 | exact H78.fresh hg5
            · first | exact (Store.set_other _ _ n4_g5).trans f4_95 | exact (Store.set_other _ _ n4_g5).trans f4_79
            · exact Store.set_same _ _ _
        · refine ⟨?_, ?_⟩
          · refine path_any H78.refl' fun p S99 hp I99 => ?_
            have H99 := H78.trans I99
            have f3_100 := I99.keep f3_78 n3
            have f4_101 := I99.keep f4_79 n4
            try simp only [vP.down, vS.down, vE.down, Nat.reduceEqDiff, Nat.reduceAdd, Nat.reduceSub, Nat.reduceMul, Nat.reduceLeDiff, Nat.reduceLT, Int.reduceToNat, reduceIte, reduceCtorEq, Int.reduceEq, Int.reduceLT, Int.reduceLE, ↓avp_condG, ↓tf_arrow, ↓ft_arrow, o4_g3, rowL_at (α := Int) (w := 1) rfl f3_100 hi76, hr76, b0_76, b1_76, b2_76, k_made_Picks_Edit_made_Picks_Num.down, m_made_Picks_Num, k_made_Picks_Edit_made_Picks_Path.down, m_made_Picks_Path]
            intro g5 hg5
            have n3_g5 := ne_of f3_100 hg5
            have o3_g5 : ∀ (T : Store) z, (T.set g5 z).f g3 = T.f g3 := fun _ _ => Store.set_other _ _ n3_g5
            have n4_g5 := ne_of f4_101 hg5
            have o4_g5 : ∀ (T : Store) z, (T.set g5 z).f g4 = T.f g4 := fun _ _ => Store.set_other _ _ n4_g5
            have n5 := H99.ne hg5
            have z5 := H99.old hg5
            have H104 := H99.fresh (e := some (stE step0 (.t .nilS))) hg5
            have f3_105 := (Store.set_other _ (some (stE step0 (.t .nilS))) n3_g5).trans f3_100
            have f4_106 := (Store.set_other _ (some (stE step0 (.t .nilS))) n4_g5).trans f4_101
            have f5_104 := Store.set_same (S99) g5 (some (stE step0 (.t .nilS)))
            try simp only [vP.down, vS.down, vE.down, Nat.reduceEqDiff, Nat.reduceAdd, Nat.reduceSub, Nat.reduceMul, Nat.reduceLeDiff, Nat.reduceLT, Int.reduceToNat, reduceIte, reduceCtorEq, Int.reduceEq, Int.reduceLT, Int.reduceLE, ↓avp_condG, ↓tf_arrow, ↓ft_arrow, o4_g3, o3_g5, o4_g5, rowL_at (α := Int) (w := 1) rfl f3_100 hi76, hr76, b0_76, b1_76, b2_76, k_made_Picks_Edit_made_Picks_Num.down, m_made_Picks_Num, k_made_Picks_Edit_made_Picks_Path.down, m_made_Picks_Path]
            refine edit_tail (kindE_bd hi76) hid hp ?_ ?_ ?_ z4 z5 n4 n5 n4_g5 hq (wk_to fewer_refl (by simp only [vP.down, vS.down, vE.down, Nat.reduceEqDiff, Nat.reduceAdd, Nat.reduceSub, Nat.reduceMul, Nat.reduceLeDiff, Nat.reduceLT, Int.reduceToNat, reduceIte, reduceCtorEq, Int.reduceEq, Int.reduceLT, Int.reduceLE, ↓avp_condG, ↓tf_arrow, ↓ft_arrow, wP.down]))
            · first | exact H104.box z5 n5 | exact H99.fresh hg5
            · first | exact (Store.set_other _ _ n4_g5).trans f4_106 | exact (Store.set_other _ _ n4_g5).trans f4_101
            · exact Store.set_same _ _ _
          · intro g5 hg5
            have n3_g5 := ne_of f3_78 hg5
            have o3_g5 : ∀ (T : Store) z, (T.set g5 z).f g3 = T.f g3 := fun _ _ => Store.set_other _ _ n3_g5
            have n4_g5 := ne_of f4_79 hg5
            have o4_g5 : ∀ (T : Store) z, (T.set g5 z).f g4 = T.f g4 := fun _ _ => Store.set_other _ _ n4_g5
            have n5 := H78.ne hg5
            have z5 := H78.old hg5
            have H108 := H78.fresh (e := some (stE step0 (.t .nilS))) hg5
            have f3_109 := (Store.set_other _ (some (stE step0 (.t .nilS))) n3_g5).trans f3_78
            have f4_110 := (Store.set_other _ (some (stE step0 (.t .nilS))) n4_g5).trans f4_79
            have f5_108 := Store.set_same ((S76).set g3 (some (.row 1 (kindE.map Cell.enc) false))) g5 (some (stE step0 (.t .nilS)))
            try simp only [vP.down, vS.down, vE.down, Nat.reduceEqDiff, Nat.reduceAdd, Nat.reduceSub, Nat.reduceMul, Nat.reduceLeDiff, Nat.reduceLT, Int.reduceToNat, reduceIte, reduceCtorEq, Int.reduceEq, Int.reduceLT, Int.reduceLE, ↓avp_condG, ↓tf_arrow, ↓ft_arrow, o4_g3, o3_g5, o4_g5, hr76, b0_76, b1_76, b2_76, k_made_Picks_Edit_made_Picks_Num.down, m_made_Picks_Num, k_made_Picks_Edit_made_Picks_Path.down, m_made_Picks_Path]
            refine ⟨?_, ?_⟩
            · refine path_any H108.refl' fun p S112 hp I112 => ?_
              have H112 := H108.trans I112
              have f3_113 := I112.keep f3_109 n3
              have f4_114 := I112.keep f4_110 n4
              have f5_115 := I112.keep f5_108 n5
              try simp only [vP.down, vS.down, vE.down, Nat.reduceEqDiff, Nat.reduceAdd, Nat.reduceSub, Nat.reduceMul, Nat.reduceLeDiff, Nat.reduceLT, Int.reduceToNat, reduceIte, reduceCtorEq, Int.reduceEq, Int.reduceLT, Int.reduceLE, ↓avp_condG, ↓tf_arrow, ↓ft_arrow, o4_g3, o3_g5, o4_g5, rowL_at (α := Int) (w := 1) rfl f3_113 hi76, hr76, b0_76, b1_76, b2_76, f5_115, k_made_Picks_Edit_made_Picks_Num.down, m_made_Picks_Num, k_made_Picks_Edit_made_Picks_Path.down, m_made_Picks_Path]
              refine edit_tail (kindE_bd hi76) hid hp ?_ ?_ ?_ z4 z5 n4 n5 n4_g5 hq (wk_to fewer_refl (by simp only [vP.down, vS.down, vE.down, Nat.reduceEqDiff, Nat.reduceAdd, Nat.reduceSub, Nat.reduceMul, Nat.reduceLeDiff, Nat.reduceLT, Int.reduceToNat, reduceIte, reduceCtorEq, Int.reduceEq, Int.reduceLT, Int.reduceLE, ↓avp_condG, ↓tf_arrow, ↓ft_arrow, wP.down]))
              · first | exact H112.box z5 n5 | exact H78.fresh hg5
              · first | exact (Store.set_other _ _ n4_g5).trans f4_114 | exact (Store.set_other _ _ n4_g5).trans f4_79
              · exact Store.set_same _ _ _
            · refine path_any H108.refl' fun p S118 hp I118 => ?_
              have H118 := H108.trans I118
              have f3_119 := I118.keep f3_109 n3
              have f4_120 := I118.keep f4_110 n4
              have f5_121 := I118.keep f5_108 n5
              try simp only [vP.down, vS.down, vE.down, Nat.reduceEqDiff, Nat.reduceAdd, Nat.reduceSub, Nat.reduceMul, Nat.reduceLeDiff, Nat.reduceLT, Int.reduceToNat, reduceIte, reduceCtorEq, Int.reduceEq, Int.reduceLT, Int.reduceLE, ↓avp_condG, ↓tf_arrow, ↓ft_arrow, o4_g3, o3_g5, o4_g5, rowL_at (α := Int) (w := 1) rfl f3_119 hi76, hr76, b0_76, b1_76, b2_76, f5_121, k_made_Picks_Edit_made_Picks_Num.down, m_made_Picks_Num, k_made_Picks_Edit_made_Picks_Path.down, m_made_Picks_Path]
              refine edit_tail (kindE_bd hi76) hid hp ?_ ?_ ?_ z4 z5 n4 n5 n4_g5 hq (wk_to fewer_refl (by simp only [vP.down, vS.down, vE.down, Nat.reduceEqDiff, Nat.reduceAdd, Nat.reduceSub, Nat.reduceMul, Nat.reduceLeDiff, Nat.reduceLT, Int.reduceToNat, reduceIte, reduceCtorEq, Int.reduceEq, Int.reduceLT, Int.reduceLE, ↓avp_condG, ↓tf_arrow, ↓ft_arrow, wP.down]))
              · first | exact H118.box z5 n5 | exact H78.fresh hg5
              · first | exact (Store.set_other _ _ n4_g5).trans f4_120 | exact (Store.set_other _ _ n4_g5).trans f4_79
              · exact Store.set_same _ _ _
      · refine ⟨?_, ?_⟩
        · refine path_any H76.refl' fun p S125 hp I125 => ?_
          have H125 := H76.trans I125
          have f4_126 := I125.keep f4_77 n4
          try simp only [vP.down, vS.down, vE.down, Nat.reduceEqDiff, Nat.reduceAdd, Nat.reduceSub, Nat.reduceMul, Nat.reduceLeDiff, Nat.reduceLT, Int.reduceToNat, reduceIte, reduceCtorEq, Int.reduceEq, Int.reduceLT, Int.reduceLE, ↓avp_condG, ↓tf_arrow, ↓ft_arrow, hr76, b0_76, b1_76, b2_76, k_made_Picks_Edit_made_Picks_Num.down, m_made_Picks_Num, k_made_Picks_Edit_made_Picks_Path.down, m_made_Picks_Path]
          intro g3 hg3
          have n4_g3 := ne_of f4_126 hg3
          have o4_g3 : ∀ (T : Store) z, (T.set g3 z).f g4 = T.f g4 := fun _ _ => Store.set_other _ _ n4_g3
          have n3 := H125.ne hg3
          have z3 := H125.old hg3
          have H127 := H125.fresh (e := some (.row 1 (kindE.map Cell.enc) false)) hg3
          have f4_128 := (Store.set_other _ (some (.row 1 (kindE.map Cell.enc) false)) n4_g3).trans f4_126
          have f3_127 := Store.set_same (S125) g3 (some (.row 1 (kindE.map Cell.enc) false))
          try simp only [vP.down, vS.down, vE.down, Nat.reduceEqDiff, Nat.reduceAdd, Nat.reduceSub, Nat.reduceMul, Nat.reduceLeDiff, Nat.reduceLT, Int.reduceToNat, reduceIte, reduceCtorEq, Int.reduceEq, Int.reduceLT, Int.reduceLE, ↓avp_condG, ↓tf_arrow, ↓ft_arrow, o4_g3, hr76, b0_76, b1_76, b2_76, k_made_Picks_Edit_made_Picks_Num.down, m_made_Picks_Num, k_made_Picks_Edit_made_Picks_Path.down, m_made_Picks_Path]
          intro g5 hg5
          have n3_g5 := ne_of f3_127 hg5
          have o3_g5 : ∀ (T : Store) z, (T.set g5 z).f g3 = T.f g3 := fun _ _ => Store.set_other _ _ n3_g5
          have n4_g5 := ne_of f4_128 hg5
          have o4_g5 : ∀ (T : Store) z, (T.set g5 z).f g4 = T.f g4 := fun _ _ => Store.set_other _ _ n4_g5
          have n5 := H127.ne hg5
          have z5 := H127.old hg5
          have H132 := H127.fresh (e := some (stE step0 (.t .nilS))) hg5
          have f3_133 := (Store.set_other _ (some (stE step0 (.t .nilS))) n3_g5).trans f3_127
          have f4_134 := (Store.set_other _ (some (stE step0 (.t .nilS))) n4_g5).trans f4_128
          have f5_132 := Store.set_same ((S125).set g3 (some (.row 1 (kindE.map Cell.enc) false))) g5 (some (stE step0 (.t .nilS)))
          try simp only [vP.down, vS.down, vE.down, Nat.reduceEqDiff, Nat.reduceAdd, Nat.reduceSub, Nat.reduceMul, Nat.reduceLeDiff, Nat.reduceLT, Int.reduceToNat, reduceIte, reduceCtorEq, Int.reduceEq, Int.reduceLT, Int.reduceLE, ↓avp_condG, ↓tf_arrow, ↓ft_arrow, o4_g3, o3_g5, o4_g5, hr76, b0_76, b1_76, b2_76, k_made_Picks_Edit_made_Picks_Num.down, m_made_Picks_Num, k_made_Picks_Edit_made_Picks_Path.down, m_made_Picks_Path]
          refine edit_tail (kindE_bd hi76) hid hp ?_ ?_ ?_ z4 z5 n4 n5 n4_g5 hq (wk_to fewer_refl (by simp only [vP.down, vS.down, vE.down, Nat.reduceEqDiff, Nat.reduceAdd, Nat.reduceSub, Nat.reduceMul, Nat.reduceLeDiff, Nat.reduceLT, Int.reduceToNat, reduceIte, reduceCtorEq, Int.reduceEq, Int.reduceLT, Int.reduceLE, ↓avp_condG, ↓tf_arrow, ↓ft_arrow, wP.down]))
          · first | exact H132.box z5 n5 | exact H127.fresh hg5
          · first | exact (Store.set_other _ _ n4_g5).trans f4_134 | exact (Store.set_other _ _ n4_g5).trans f4_128
          · exact Store.set_same _ _ _
        · intro g5 hg5
          have n4_g5 := ne_of f4_77 hg5
          have o4_g5 : ∀ (T : Store) z, (T.set g5 z).f g4 = T.f g4 := fun _ _ => Store.set_other _ _ n4_g5
          have n5 := H76.ne hg5
          have z5 := H76.old hg5
          have H136 := H76.fresh (e := some (stE step0 (.t .nilS))) hg5
          have f4_137 := (Store.set_other _ (some (stE step0 (.t .nilS))) n4_g5).trans f4_77
          have f5_136 := Store.set_same (S76) g5 (some (stE step0 (.t .nilS)))
          try simp only [vP.down, vS.down, vE.down, Nat.reduceEqDiff, Nat.reduceAdd, Nat.reduceSub, Nat.reduceMul, Nat.reduceLeDiff, Nat.reduceLT, Int.reduceToNat, reduceIte, reduceCtorEq, Int.reduceEq, Int.reduceLT, Int.reduceLE, ↓avp_condG, ↓tf_arrow, ↓ft_arrow, o4_g5, hr76, b0_76, b1_76, b2_76, k_made_Picks_Edit_made_Picks_Num.down, m_made_Picks_Num, k_made_Picks_Edit_made_Picks_Path.down, m_made_Picks_Path]
          refine ⟨?_, ?_⟩
          · intro g3 hg3
            have n4_g3 := ne_of f4_137 hg3
            have o4_g3 : ∀ (T : Store) z, (T.set g3 z).f g4 = T.f g4 := fun _ _ => Store.set_other _ _ n4_g3
            have n5_g3 := ne_of f5_136 hg3
            have o5_g3 : ∀ (T : Store) z, (T.set g3 z).f g5 = T.f g5 := fun _ _ => Store.set_other _ _ n5_g3
            have n3 := H136.ne hg3
            have z3 := H136.old hg3
            have H138 := H136.fresh (e := some (.row 1 (kindE.map Cell.enc) false)) hg3
            have f4_139 := (Store.set_other _ (some (.row 1 (kindE.map Cell.enc) false)) n4_g3).trans f4_137
            have f5_140 := (Store.set_other _ (some (.row 1 (kindE.map Cell.enc) false)) n5_g3).trans f5_136
            have f3_138 := Store.set_same ((S76).set g5 (some (stE step0 (.t .nilS)))) g3 (some (.row 1 (kindE.map Cell.enc) false))
            try simp only [vP.down, vS.down, vE.down, Nat.reduceEqDiff, Nat.reduceAdd, Nat.reduceSub, Nat.reduceMul, Nat.reduceLeDiff, Nat.reduceLT, Int.reduceToNat, reduceIte, reduceCtorEq, Int.reduceEq, Int.reduceLT, Int.reduceLE, ↓avp_condG, ↓tf_arrow, ↓ft_arrow, o4_g5, o4_g3, o5_g3, hr76, b0_76, b1_76, b2_76, k_made_Picks_Edit_made_Picks_Num.down, m_made_Picks_Num, k_made_Picks_Edit_made_Picks_Path.down, m_made_Picks_Path]
            refine ⟨?_, ?_⟩
            · refine path_any H138.refl' fun p S143 hp I143 => ?_
              have H143 := H138.trans I143
              have f3_144 := I143.keep f3_138 n3
              have f4_145 := I143.keep f4_139 n4
              have f5_146 := I143.keep f5_140 n5
              try simp only [vP.down, vS.down, vE.down, Nat.reduceEqDiff, Nat.reduceAdd, Nat.reduceSub, Nat.reduceMul, Nat.reduceLeDiff, Nat.reduceLT, Int.reduceToNat, reduceIte, reduceCtorEq, Int.reduceEq, Int.reduceLT, Int.reduceLE, ↓avp_condG, ↓tf_arrow, ↓ft_arrow, o4_g5, o4_g3, o5_g3, rowL_at (α := Int) (w := 1) rfl f3_144 hi76, hr76, b0_76, b1_76, b2_76, f5_146, k_made_Picks_Edit_made_Picks_Num.down, m_made_Picks_Num, k_made_Picks_Edit_made_Picks_Path.down, m_made_Picks_Path]
              refine edit_tail (kindE_bd hi76) hid hp ?_ ?_ ?_ z4 z5 n4 n5 n4_g5 hq (wk_to fewer_refl (by simp only [vP.down, vS.down, vE.down, Nat.reduceEqDiff, Nat.reduceAdd, Nat.reduceSub, Nat.reduceMul, Nat.reduceLeDiff, Nat.reduceLT, Int.reduceToNat, reduceIte, reduceCtorEq, Int.reduceEq, Int.reduceLT, Int.reduceLE, ↓avp_condG, ↓tf_arrow, ↓ft_arrow, wP.down]))
              · first | exact H143.box z5 n5 | exact H136.fresh hg5
              · first | exact (Store.set_other _ _ n4_g5).trans f4_145 | exact (Store.set_other _ _ n4_g5).trans f4_137
              · exact Store.set_same _ _ _
            · refine path_any H138.refl' fun p S149 hp I149 => ?_
              have H149 := H138.trans I149
              have f3_150 := I149.keep f3_138 n3
              have f4_151 := I149.keep f4_139 n4
              have f5_152 := I149.keep f5_140 n5
              try simp only [vP.down, vS.down, vE.down, Nat.reduceEqDiff, Nat.reduceAdd, Nat.reduceSub, Nat.reduceMul, Nat.reduceLeDiff, Nat.reduceLT, Int.reduceToNat, reduceIte, reduceCtorEq, Int.reduceEq, Int.reduceLT, Int.reduceLE, ↓avp_condG, ↓tf_arrow, ↓ft_arrow, o4_g5, o4_g3, o5_g3, rowL_at (α := Int) (w := 1) rfl f3_150 hi76, hr76, b0_76, b1_76, b2_76, f5_152, k_made_Picks_Edit_made_Picks_Num.down, m_made_Picks_Num, k_made_Picks_Edit_made_Picks_Path.down, m_made_Picks_Path]
              refine edit_tail (kindE_bd hi76) hid hp ?_ ?_ ?_ z4 z5 n4 n5 n4_g5 hq (wk_to fewer_refl (by simp only [vP.down, vS.down, vE.down, Nat.reduceEqDiff, Nat.reduceAdd, Nat.reduceSub, Nat.reduceMul, Nat.reduceLeDiff, Nat.reduceLT, Int.reduceToNat, reduceIte, reduceCtorEq, Int.reduceEq, Int.reduceLT, Int.reduceLE, ↓avp_condG, ↓tf_arrow, ↓ft_arrow, wP.down]))
              · first | exact H149.box z5 n5 | exact H136.fresh hg5
              · first | exact (Store.set_other _ _ n4_g5).trans f4_151 | exact (Store.set_other _ _ n4_g5).trans f4_137
              · exact Store.set_same _ _ _
          · refine path_any H136.refl' fun p S156 hp I156 => ?_
            have H156 := H136.trans I156
            have f4_157 := I156.keep f4_137 n4
            have f5_158 := I156.keep f5_136 n5
            try simp only [vP.down, vS.down, vE.down, Nat.reduceEqDiff, Nat.reduceAdd, Nat.reduceSub, Nat.reduceMul, Nat.reduceLeDiff, Nat.reduceLT, Int.reduceToNat, reduceIte, reduceCtorEq, Int.reduceEq, Int.reduceLT, Int.reduceLE, ↓avp_condG, ↓tf_arrow, ↓ft_arrow, o4_g5, hr76, b0_76, b1_76, b2_76, f5_158, k_made_Picks_Edit_made_Picks_Num.down, m_made_Picks_Num, k_made_Picks_Edit_made_Picks_Path.down, m_made_Picks_Path]
            intro g3 hg3
            have n4_g3 := ne_of f4_157 hg3
            have o4_g3 : ∀ (T : Store) z, (T.set g3 z).f g4 = T.f g4 := fun _ _ => Store.set_other _ _ n4_g3
            have n5_g3 := ne_of f5_158 hg3
            have o5_g3 : ∀ (T : Store) z, (T.set g3 z).f g5 = T.f g5 := fun _ _ => Store.set_other _ _ n5_g3
            have n3 := H156.ne hg3
            have z3 := H156.old hg3
            have H159 := H156.fresh (e := some (.row 1 (kindE.map Cell.enc) false)) hg3
            have f4_160 := (Store.set_other _ (some (.row 1 (kindE.map Cell.enc) false)) n4_g3).trans f4_157
            have f5_161 := (Store.set_other _ (some (.row 1 (kindE.map Cell.enc) false)) n5_g3).trans f5_158
            have f3_159 := Store.set_same (S156) g3 (some (.row 1 (kindE.map Cell.enc) false))
            try simp only [vP.down, vS.down, vE.down, Nat.reduceEqDiff, Nat.reduceAdd, Nat.reduceSub, Nat.reduceMul, Nat.reduceLeDiff, Nat.reduceLT, Int.reduceToNat, reduceIte, reduceCtorEq, Int.reduceEq, Int.reduceLT, Int.reduceLE, ↓avp_condG, ↓tf_arrow, ↓ft_arrow, o4_g5, o4_g3, o5_g3, hr76, b0_76, b1_76, b2_76, f5_158, k_made_Picks_Edit_made_Picks_Num.down, m_made_Picks_Num, k_made_Picks_Edit_made_Picks_Path.down, m_made_Picks_Path]
            refine edit_tail (kindE_bd hi76) hid hp ?_ ?_ ?_ z4 z5 n4 n5 n4_g5 hq (wk_to fewer_refl (by simp only [vP.down, vS.down, vE.down, Nat.reduceEqDiff, Nat.reduceAdd, Nat.reduceSub, Nat.reduceMul, Nat.reduceLeDiff, Nat.reduceLT, Int.reduceToNat, reduceIte, reduceCtorEq, Int.reduceEq, Int.reduceLT, Int.reduceLE, ↓avp_condG, ↓tf_arrow, ↓ft_arrow, wP.down]))
            · first | exact H159.box z5 n5 | exact H156.fresh hg5
            · first | exact (Store.set_other _ _ n4_g5).trans f4_160 | exact (Store.set_other _ _ n4_g5).trans f4_157
            · exact Store.set_same _ _ _
    · intro g5 hg5
      have n4_g5 := ne_of f4 hg5
      have o4_g5 : ∀ (T : Store) z, (T.set g5 z).f g4 = T.f g4 := fun _ _ => Store.set_other _ _ n4_g5
      have n5 := H0.ne hg5
      have z5 := H0.old hg5
      have H166 := H0.fresh (e := some (stE step0 (.t .nilS))) hg5
      have f4_167 := (Store.set_other _ (some (stE step0 (.t .nilS))) n4_g5).trans f4
      have f5_166 := Store.set_same (s.set g4 (some (stE step0 (.t .nilS)))) g5 (some (stE step0 (.t .nilS)))
      try simp only [vP.down, vS.down, vE.down, Nat.reduceEqDiff, Nat.reduceAdd, Nat.reduceSub, Nat.reduceMul, Nat.reduceLeDiff, Nat.reduceLT, Int.reduceToNat, reduceIte, reduceCtorEq, Int.reduceEq, Int.reduceLT, Int.reduceLE, ↓avp_condG, ↓tf_arrow, ↓ft_arrow, o4_g5, k_made_Picks_Edit_made_Picks_Num.down, m_made_Picks_Num, k_made_Picks_Edit_made_Picks_Path.down, m_made_Picks_Path]
      refine ⟨?_, ?_⟩
      · intro g3 hg3
        have n4_g3 := ne_of f4_167 hg3
        have o4_g3 : ∀ (T : Store) z, (T.set g3 z).f g4 = T.f g4 := fun _ _ => Store.set_other _ _ n4_g3
        have n5_g3 := ne_of f5_166 hg3
        have o5_g3 : ∀ (T : Store) z, (T.set g3 z).f g5 = T.f g5 := fun _ _ => Store.set_other _ _ n5_g3
        have n3 := H166.ne hg3
        have z3 := H166.old hg3
        have H168 := H166.fresh (e := some (.row 1 (kindE.map Cell.enc) false)) hg3
        have f4_169 := (Store.set_other _ (some (.row 1 (kindE.map Cell.enc) false)) n4_g3).trans f4_167
        have f5_170 := (Store.set_other _ (some (.row 1 (kindE.map Cell.enc) false)) n5_g3).trans f5_166
        have f3_168 := Store.set_same ((s.set g4 (some (stE step0 (.t .nilS)))).set g5 (some (stE step0 (.t .nilS)))) g3 (some (.row 1 (kindE.map Cell.enc) false))
        try simp only [vP.down, vS.down, vE.down, Nat.reduceEqDiff, Nat.reduceAdd, Nat.reduceSub, Nat.reduceMul, Nat.reduceLeDiff, Nat.reduceLT, Int.reduceToNat, reduceIte, reduceCtorEq, Int.reduceEq, Int.reduceLT, Int.reduceLE, ↓avp_condG, ↓tf_arrow, ↓ft_arrow, o4_g5, o4_g3, o5_g3, k_made_Picks_Edit_made_Picks_Num.down, m_made_Picks_Num, k_made_Picks_Edit_made_Picks_Path.down, m_made_Picks_Path]
        refine num_any H168.refl' (by omega) fun v S171 hv0 hv1 I171 => ?_
        obtain ⟨i, rfl⟩ : ∃ i : Nat, v = (i : Int) := ⟨v.toNat, by omega⟩
        have hi171 : i < kindE.length := by show i < 12; omega
        have b0_171 : (0 ≤ (i : Int)) = True := by simp
        have b1_171 : ((i : Int) < 12) = True := by simp only [eq_iff_iff, iff_true]; omega
        have b2_171 : (i < 12) = True := by simp only [eq_iff_iff, iff_true]; omega
        have hr171 : ([[.int .i64 1], [.int .i64 1], [.int .i64 1], [.int .i64 2], [.int .i64 3], [.int .i64 3], [.int .i64 4], [.int .i64 4], [.int .i64 4], [.int .i64 5], [.int .i64 1], [.int .i64 4]] : List (List TV)).getD i [] = [.int .i64 (kindE.getD i default)] := row_at (l := kindE) hi171
        have H171 := H168.trans I171
        have f3_172 := I171.keep f3_168 n3
        have f4_173 := I171.keep f4_169 n4
        have f5_174 := I171.keep f5_170 n5
        try simp only [vP.down, vS.down, vE.down, Nat.reduceEqDiff, Nat.reduceAdd, Nat.reduceSub, Nat.reduceMul, Nat.reduceLeDiff, Nat.reduceLT, Int.reduceToNat, reduceIte, reduceCtorEq, Int.reduceEq, Int.reduceLT, Int.reduceLE, ↓avp_condG, ↓tf_arrow, ↓ft_arrow, o4_g5, o4_g3, o5_g3, rowL_at (α := Int) (w := 1) rfl f3_172 hi171, hr171, b0_171, b1_171, b2_171, f5_174, k_made_Picks_Edit_made_Picks_Num.down, m_made_Picks_Num, k_made_Picks_Edit_made_Picks_Path.down, m_made_Picks_Path]
        refine ⟨?_, ?_⟩
        · refine path_any H171.refl' fun p S177 hp I177 => ?_
          have H177 := H171.trans I177
          have f3_178 := I177.keep f3_172 n3
          have f4_179 := I177.keep f4_173 n4
          have f5_180 := I177.keep f5_174 n5
          try simp only [vP.down, vS.down, vE.down, Nat.reduceEqDiff, Nat.reduceAdd, Nat.reduceSub, Nat.reduceMul, Nat.reduceLeDiff, Nat.reduceLT, Int.reduceToNat, reduceIte, reduceCtorEq, Int.reduceEq, Int.reduceLT, Int.reduceLE, ↓avp_condG, ↓tf_arrow, ↓ft_arrow, o4_g5, o4_g3, o5_g3, rowL_at (α := Int) (w := 1) rfl f3_178 hi171, hr171, b0_171, b1_171, b2_171, f5_180, k_made_Picks_Edit_made_Picks_Num.down, m_made_Picks_Num, k_made_Picks_Edit_made_Picks_Path.down, m_made_Picks_Path]
          refine edit_tail (kindE_bd hi171) hid hp ?_ ?_ ?_ z4 z5 n4 n5 n4_g5 hq (wk_to fewer_refl (by simp only [vP.down, vS.down, vE.down, Nat.reduceEqDiff, Nat.reduceAdd, Nat.reduceSub, Nat.reduceMul, Nat.reduceLeDiff, Nat.reduceLT, Int.reduceToNat, reduceIte, reduceCtorEq, Int.reduceEq, Int.reduceLT, Int.reduceLE, ↓avp_condG, ↓tf_arrow, ↓ft_arrow, wP.down]))
          · first | exact H177.box z5 n5 | exact H166.fresh hg5
          · first | exact (Store.set_other _ _ n4_g5).trans f4_179 | exact (Store.set_other _ _ n4_g5).trans f4_167
          · exact Store.set_same _ _ _
        · refine path_any H171.refl' fun p S183 hp I183 => ?_
          have H183 := H171.trans I183
          have f3_184 := I183.keep f3_172 n3
          have f4_185 := I183.keep f4_173 n4
          have f5_186 := I183.keep f5_174 n5
          try simp only [vP.down, vS.down, vE.down, Nat.reduceEqDiff, Nat.reduceAdd, Nat.reduceSub, Nat.reduceMul, Nat.reduceLeDiff, Nat.reduceLT, Int.reduceToNat, reduceIte, reduceCtorEq, Int.reduceEq, Int.reduceLT, Int.reduceLE, ↓avp_condG, ↓tf_arrow, ↓ft_arrow, o4_g5, o4_g3, o5_g3, rowL_at (α := Int) (w := 1) rfl f3_184 hi171, hr171, b0_171, b1_171, b2_171, f5_186, k_made_Picks_Edit_made_Picks_Num.down, m_made_Picks_Num, k_made_Picks_Edit_made_Picks_Path.down, m_made_Picks_Path]
          refine edit_tail (kindE_bd hi171) hid hp ?_ ?_ ?_ z4 z5 n4 n5 n4_g5 hq (wk_to fewer_refl (by simp only [vP.down, vS.down, vE.down, Nat.reduceEqDiff, Nat.reduceAdd, Nat.reduceSub, Nat.reduceMul, Nat.reduceLeDiff, Nat.reduceLT, Int.reduceToNat, reduceIte, reduceCtorEq, Int.reduceEq, Int.reduceLT, Int.reduceLE, ↓avp_condG, ↓tf_arrow, ↓ft_arrow, wP.down]))
          · first | exact H183.box z5 n5 | exact H166.fresh hg5
          · first | exact (Store.set_other _ _ n4_g5).trans f4_185 | exact (Store.set_other _ _ n4_g5).trans f4_167
          · exact Store.set_same _ _ _
      · refine num_any H166.refl' (by omega) fun v S190 hv0 hv1 I190 => ?_
        obtain ⟨i, rfl⟩ : ∃ i : Nat, v = (i : Int) := ⟨v.toNat, by omega⟩
        have hi190 : i < kindE.length := by show i < 12; omega
        have b0_190 : (0 ≤ (i : Int)) = True := by simp
        have b1_190 : ((i : Int) < 12) = True := by simp only [eq_iff_iff, iff_true]; omega
        have b2_190 : (i < 12) = True := by simp only [eq_iff_iff, iff_true]; omega
        have hr190 : ([[.int .i64 1], [.int .i64 1], [.int .i64 1], [.int .i64 2], [.int .i64 3], [.int .i64 3], [.int .i64 4], [.int .i64 4], [.int .i64 4], [.int .i64 5], [.int .i64 1], [.int .i64 4]] : List (List TV)).getD i [] = [.int .i64 (kindE.getD i default)] := row_at (l := kindE) hi190
        have H190 := H166.trans I190
        have f4_191 := I190.keep f4_167 n4
        have f5_192 := I190.keep f5_166 n5
        try simp only [vP.down, vS.down, vE.down, Nat.reduceEqDiff, Nat.reduceAdd, Nat.reduceSub, Nat.reduceMul, Nat.reduceLeDiff, Nat.reduceLT, Int.reduceToNat, reduceIte, reduceCtorEq, Int.reduceEq, Int.reduceLT, Int.reduceLE, ↓avp_condG, ↓tf_arrow, ↓ft_arrow, o4_g5, hr190, b0_190, b1_190, b2_190, f5_192, k_made_Picks_Edit_made_Picks_Num.down, m_made_Picks_Num, k_made_Picks_Edit_made_Picks_Path.down, m_made_Picks_Path]
        refine ⟨?_, ?_⟩
        · intro g3 hg3
          have n4_g3 := ne_of f4_191 hg3
          have o4_g3 : ∀ (T : Store) z, (T.set g3 z).f g4 = T.f g4 := fun _ _ => Store.set_other _ _ n4_g3
          have n5_g3 := ne_of f5_192 hg3
          have o5_g3 : ∀ (T : Store) z, (T.set g3 z).f g5 = T.f g5 := fun _ _ => Store.set_other _ _ n5_g3
          have n3 := H190.ne hg3
          have z3 := H190.old hg3
          have H193 := H190.fresh (e := some (.row 1 (kindE.map Cell.enc) false)) hg3
          have f4_194 := (Store.set_other _ (some (.row 1 (kindE.map Cell.enc) false)) n4_g3).trans f4_191
          have f5_195 := (Store.set_other _ (some (.row 1 (kindE.map Cell.enc) false)) n5_g3).trans f5_192
          have f3_193 := Store.set_same (S190) g3 (some (.row 1 (kindE.map Cell.enc) false))
          try simp only [vP.down, vS.down, vE.down, Nat.reduceEqDiff, Nat.reduceAdd, Nat.reduceSub, Nat.reduceMul, Nat.reduceLeDiff, Nat.reduceLT, Int.reduceToNat, reduceIte, reduceCtorEq, Int.reduceEq, Int.reduceLT, Int.reduceLE, ↓avp_condG, ↓tf_arrow, ↓ft_arrow, o4_g5, o4_g3, o5_g3, hr190, b0_190, b1_190, b2_190, f5_192, k_made_Picks_Edit_made_Picks_Num.down, m_made_Picks_Num, k_made_Picks_Edit_made_Picks_Path.down, m_made_Picks_Path]
          refine ⟨?_, ?_⟩
          · refine path_any H193.refl' fun p S198 hp I198 => ?_
            have H198 := H193.trans I198
            have f3_199 := I198.keep f3_193 n3
            have f4_200 := I198.keep f4_194 n4
            have f5_201 := I198.keep f5_195 n5
            try simp only [vP.down, vS.down, vE.down, Nat.reduceEqDiff, Nat.reduceAdd, Nat.reduceSub, Nat.reduceMul, Nat.reduceLeDiff, Nat.reduceLT, Int.reduceToNat, reduceIte, reduceCtorEq, Int.reduceEq, Int.reduceLT, Int.reduceLE, ↓avp_condG, ↓tf_arrow, ↓ft_arrow, o4_g5, o4_g3, o5_g3, rowL_at (α := Int) (w := 1) rfl f3_199 hi190, hr190, b0_190, b1_190, b2_190, f5_201, k_made_Picks_Edit_made_Picks_Num.down, m_made_Picks_Num, k_made_Picks_Edit_made_Picks_Path.down, m_made_Picks_Path]
            refine edit_tail (kindE_bd hi190) hid hp ?_ ?_ ?_ z4 z5 n4 n5 n4_g5 hq (wk_to fewer_refl (by simp only [vP.down, vS.down, vE.down, Nat.reduceEqDiff, Nat.reduceAdd, Nat.reduceSub, Nat.reduceMul, Nat.reduceLeDiff, Nat.reduceLT, Int.reduceToNat, reduceIte, reduceCtorEq, Int.reduceEq, Int.reduceLT, Int.reduceLE, ↓avp_condG, ↓tf_arrow, ↓ft_arrow, wP.down]))
            · first | exact H198.box z5 n5 | exact H190.fresh hg5
            · first | exact (Store.set_other _ _ n4_g5).trans f4_200 | exact (Store.set_other _ _ n4_g5).trans f4_191
            · exact Store.set_same _ _ _
          · refine path_any H193.refl' fun p S204 hp I204 => ?_
            have H204 := H193.trans I204
            have f3_205 := I204.keep f3_193 n3
            have f4_206 := I204.keep f4_194 n4
            have f5_207 := I204.keep f5_195 n5
            try simp only [vP.down, vS.down, vE.down, Nat.reduceEqDiff, Nat.reduceAdd, Nat.reduceSub, Nat.reduceMul, Nat.reduceLeDiff, Nat.reduceLT, Int.reduceToNat, reduceIte, reduceCtorEq, Int.reduceEq, Int.reduceLT, Int.reduceLE, ↓avp_condG, ↓tf_arrow, ↓ft_arrow, o4_g5, o4_g3, o5_g3, rowL_at (α := Int) (w := 1) rfl f3_205 hi190, hr190, b0_190, b1_190, b2_190, f5_207, k_made_Picks_Edit_made_Picks_Num.down, m_made_Picks_Num, k_made_Picks_Edit_made_Picks_Path.down, m_made_Picks_Path]
            refine edit_tail (kindE_bd hi190) hid hp ?_ ?_ ?_ z4 z5 n4 n5 n4_g5 hq (wk_to fewer_refl (by simp only [vP.down, vS.down, vE.down, Nat.reduceEqDiff, Nat.reduceAdd, Nat.reduceSub, Nat.reduceMul, Nat.reduceLeDiff, Nat.reduceLT, Int.reduceToNat, reduceIte, reduceCtorEq, Int.reduceEq, Int.reduceLT, Int.reduceLE, ↓avp_condG, ↓tf_arrow, ↓ft_arrow, wP.down]))
            · first | exact H204.box z5 n5 | exact H190.fresh hg5
            · first | exact (Store.set_other _ _ n4_g5).trans f4_206 | exact (Store.set_other _ _ n4_g5).trans f4_191
            · exact Store.set_same _ _ _
        · refine path_any H190.refl' fun p S211 hp I211 => ?_
          have H211 := H190.trans I211
          have f4_212 := I211.keep f4_191 n4
          have f5_213 := I211.keep f5_192 n5
          try simp only [vP.down, vS.down, vE.down, Nat.reduceEqDiff, Nat.reduceAdd, Nat.reduceSub, Nat.reduceMul, Nat.reduceLeDiff, Nat.reduceLT, Int.reduceToNat, reduceIte, reduceCtorEq, Int.reduceEq, Int.reduceLT, Int.reduceLE, ↓avp_condG, ↓tf_arrow, ↓ft_arrow, o4_g5, hr190, b0_190, b1_190, b2_190, f5_213, k_made_Picks_Edit_made_Picks_Num.down, m_made_Picks_Num, k_made_Picks_Edit_made_Picks_Path.down, m_made_Picks_Path]
          intro g3 hg3
          have n4_g3 := ne_of f4_212 hg3
          have o4_g3 : ∀ (T : Store) z, (T.set g3 z).f g4 = T.f g4 := fun _ _ => Store.set_other _ _ n4_g3
          have n5_g3 := ne_of f5_213 hg3
          have o5_g3 : ∀ (T : Store) z, (T.set g3 z).f g5 = T.f g5 := fun _ _ => Store.set_other _ _ n5_g3
          have n3 := H211.ne hg3
          have z3 := H211.old hg3
          have H214 := H211.fresh (e := some (.row 1 (kindE.map Cell.enc) false)) hg3
          have f4_215 := (Store.set_other _ (some (.row 1 (kindE.map Cell.enc) false)) n4_g3).trans f4_212
          have f5_216 := (Store.set_other _ (some (.row 1 (kindE.map Cell.enc) false)) n5_g3).trans f5_213
          have f3_214 := Store.set_same (S211) g3 (some (.row 1 (kindE.map Cell.enc) false))
          try simp only [vP.down, vS.down, vE.down, Nat.reduceEqDiff, Nat.reduceAdd, Nat.reduceSub, Nat.reduceMul, Nat.reduceLeDiff, Nat.reduceLT, Int.reduceToNat, reduceIte, reduceCtorEq, Int.reduceEq, Int.reduceLT, Int.reduceLE, ↓avp_condG, ↓tf_arrow, ↓ft_arrow, o4_g5, o4_g3, o5_g3, hr190, b0_190, b1_190, b2_190, f5_213, k_made_Picks_Edit_made_Picks_Num.down, m_made_Picks_Num, k_made_Picks_Edit_made_Picks_Path.down, m_made_Picks_Path]
          refine edit_tail (kindE_bd hi190) hid hp ?_ ?_ ?_ z4 z5 n4 n5 n4_g5 hq (wk_to fewer_refl (by simp only [vP.down, vS.down, vE.down, Nat.reduceEqDiff, Nat.reduceAdd, Nat.reduceSub, Nat.reduceMul, Nat.reduceLeDiff, Nat.reduceLT, Int.reduceToNat, reduceIte, reduceCtorEq, Int.reduceEq, Int.reduceLT, Int.reduceLE, ↓avp_condG, ↓tf_arrow, ↓ft_arrow, wP.down]))
          · first | exact H214.box z5 n5 | exact H211.fresh hg5
          · first | exact (Store.set_other _ _ n4_g5).trans f4_215 | exact (Store.set_other _ _ n4_g5).trans f4_212
          · exact Store.set_same _ _ _
noncomputable def c_made_Picks_Edit : Con := .gen m_made_Picks_Edit F_made_Picks_Edit
theorem ok_made_Picks_Edit : COk Try.prog 39 c_made_Picks_Edit := fn_gok sys_made_Picks_Edit mixed Try.func39 (by kernel_rfl) geq_made_Picks_Edit Try.ntmps39 (by rw [Try.results39]) mono_made_Picks_Edit ex_made_Picks_Edit body_made_Picks_Edit
end Go.Proofs.Ythhgaeeeppipnaa


namespace Go.Proofs.Ythhgaeeeppipnaa
open Go Go.Eng
theorem edit_any {s : Store} {g : Nat} {l : List Byt} {id : Int} {Q : AV → Store → Prop} (h : PkI s s g l) (hid : n2 id) (hq : ∀ x S, good x = true → x.Keep = [] → PkI s S g l → Q (.agg (stC x (.t .nilS))) S) : F_made_Picks_Edit [.ptr g 0, .t (.int .i64 id)] s Q :=
  ⟨g, id, rfl, hid, l, h, fun r S ⟨x, h1, h2, e⟩ hS => by rw [e]; exact hq x S h1 h2 hS⟩
theorem set_any {s : Store} {g : Nat} {l : List Byt} {id : Int} {Q : AV → Store → Prop} (h : PkI s s g l) (hid : n2 id) (hq : ∀ x S, good x = true → x.Keep = [] → PkI s S g l → Q (.agg (stC x (.t .nilS))) S) : F_made_Picks_set [.ptr g 0, .t (.int .i64 id)] s Q :=
  ⟨g, id, rfl, hid, l, h, fun r S ⟨x, h1, h2, e⟩ hS => by rw [e]; exact hq x S h1 h2 hS⟩
def G_made_Picks_Keep_4 : GCode := .seq (.seq (.seq .weak (.region [⟨(some 12), none, .move (.tmp 0)⟩, ⟨(some 13), none, .call ⟨.value (.func 28), #[.tmp 12, .const (.int .i64 20)], #[40, 3]⟩⟩, ⟨(some 4), none, .assign (.tmp 13)⟩])) (.block 0 (.seq (.region [⟨(some 15), none, .move (.tmp 4)⟩, ⟨(some 16), none, .binOp .lss 3 (.tmp 15) (.const (.int .i64 11)) 3⟩, ⟨(some 14), none, .assign (.tmp 16)⟩]) (.cond (.tmp 14) (.seq (.region [⟨(some 17), none, .move (.tmp 0)⟩, ⟨(some 18), none, .move (.tmp 3)⟩, ⟨(some 19), none, .call ⟨.value (.func 39), #[.tmp 17, .tmp 18], #[40, 3]⟩⟩, ⟨none, none, .store 24 (.tmp 2) (.tmp 19)⟩]) (.ret)) (.seq (.region [⟨(some 21), none, .move (.tmp 4)⟩, ⟨(some 22), none, .binOp .lss 3 (.tmp 21) (.const (.int .i64 15)) 3⟩, ⟨(some 20), none, .assign (.tmp 22)⟩]) (.cond (.tmp 20) (.seq (.region [⟨(some 23), none, .move (.tmp 0)⟩, ⟨(some 24), none, .call ⟨.value (.func 28), #[.tmp 23, .const (.int .i64 2)], #[40, 3]⟩⟩, ⟨(some 25), none, .build 24 #[(0, .const (.int .i64 15)), (2, .tmp 24)]⟩, ⟨none, none, .store 24 (.tmp 2) (.tmp 25)⟩]) (.ret)) (.seq (.region [⟨(some 27), none, .move (.tmp 4)⟩, ⟨(some 28), none, .binOp .lss 3 (.tmp 27) (.const (.int .i64 18)) 3⟩, ⟨(some 26), none, .assign (.tmp 28)⟩]) (.cond (.tmp 26) (.seq (.region [⟨(some 29), none, .move (.tmp 0)⟩, ⟨(some 30), none, .move (.tmp 3)⟩, ⟨(some 31), none, .call ⟨.value (.func 40), #[.tmp 29, .tmp 30], #[40, 3]⟩⟩, ⟨none, none, .store 24 (.tmp 2) (.tmp 31)⟩]) (.ret)) (.seq (.region [⟨(some 33), none, .move (.tmp 4)⟩, ⟨(some 34), none, .binOp .eql 3 (.tmp 33) (.const (.int .i64 18)) 3⟩, ⟨(some 32), none, .assign (.tmp 34)⟩]) (.cond (.tmp 32) (.seq (.region [⟨(some 35), none, .buildSlice 22 2 #[(0, .const (.int .i64 16)), (1, .const (.int .i64 17))]⟩, ⟨(some 36), none, .move (.tmp 0)⟩, ⟨(some 37), none, .call ⟨.value (.func 28), #[.tmp 36, .const (.int .i64 2)], #[40, 3]⟩⟩, ⟨(some 38), none, .indexAddr 22 (.tmp 35) (.tmp 37)⟩, ⟨(some 39), none, .load 3 (.tmp 38)⟩, ⟨(some 40), none, .build 24 #[(0, .tmp 39)]⟩, ⟨none, none, .store 24 (.tmp 2) (.tmp 40)⟩]) (.ret)) (.skip))))))))))) (.seq (.region [⟨(some 41), none, .move (.tmp 0)⟩, ⟨(some 42), none, .call ⟨.value (.func 28), #[.tmp 41, .const (.int .i64 3)], #[40, 3]⟩⟩, ⟨(some 43), none, .binOp .add 3 (.const (.int .i64 6)) (.tmp 42) 3⟩, ⟨(some 44), none, .move (.tmp 3)⟩, ⟨(some 45), none, .move (.tmp 0)⟩, ⟨(some 46), none, .call ⟨.value (.func 41), #[.tmp 45], #[40]⟩⟩, ⟨(some 47), none, .build 24 #[(0, .tmp 43), (1, .tmp 44), (5, .tmp 46)]⟩, ⟨(some 5), none, .alloc 24⟩, ⟨none, none, .store 24 (.tmp 5) (.tmp 47)⟩]) (.seq (.seq (.region [⟨(some 48), none, .fieldAddr 24 (.tmp 5) 0⟩, ⟨(some 49), none, .load 3 (.tmp 48)⟩, ⟨(some 50), none, .binOp .eql 3 (.tmp 49) (.const (.int .i64 6)) 3⟩]) (.cond (.tmp 50) (.region [⟨(some 51), none, .move (.tmp 0)⟩, ⟨(some 52), none, .call ⟨.value (.func 28), #[.tmp 51, .const (.int .i64 3)], #[40, 3]⟩⟩, ⟨(some 53), none, .binOp .mul 3 (.tmp 52) (.const (.int .i64 30)) 3⟩, ⟨(some 54), none, .move (.tmp 0)⟩, ⟨(some 55), none, .call ⟨.value (.func 28), #[.tmp 54, .const (.int .i64 130)], #[40, 3]⟩⟩, ⟨(some 56), none, .fieldAddr 24 (.tmp 5) 2⟩, ⟨none, none, .store 3 (.tmp 56) (.tmp 53)⟩, ⟨(some 57), none, .fieldAddr 24 (.tmp 5) 3⟩, ⟨none, none, .store 3 (.tmp 57) (.tmp 55)⟩]) (.skip))) (.seq (.region [⟨(some 58), none, .load 24 (.tmp 5)⟩, ⟨none, none, .store 24 (.tmp 2) (.tmp 58)⟩]) (.ret))))
def G_made_Picks_Keep : GCode := .seq (.region [⟨(some 2), none, .alloc 24⟩]) (.seq (.region [⟨(some 3), none, .assign (.const (.int .i64 1))⟩]) (.seq (.seq (.region [⟨(some 6), none, .move (.tmp 0)⟩, ⟨(some 7), none, .call ⟨.value (.func 28), #[.tmp 6, .const (.int .i64 3)], #[40, 3]⟩⟩, ⟨(some 8), none, .binOp .eql 3 (.tmp 7) (.const (.int .i64 0)) 3⟩]) (.cond (.tmp 8) (.region [⟨(some 9), none, .move (.tmp 0)⟩, ⟨(some 10), none, .call ⟨.value (.func 28), #[.tmp 9, .const (.int .i64 8)], #[40, 3]⟩⟩, ⟨(some 11), none, .binOp .add 3 (.const (.int .i64 1)) (.tmp 10) 3⟩, ⟨(some 3), none, .assign (.tmp 11)⟩]) (.skip))) (G_made_Picks_Keep_4)))
noncomputable def l_made_Picks_Keep : List (Nat × Con) := [(28, c_made_Picks_Num), (39, c_made_Picks_Edit), (40, c_made_Picks_set), (41, c_made_Picks_Path)]
noncomputable abbrev K_made_Picks_Keep : Ctx := ctx (cl l_made_Picks_Keep)
theorem geq_made_Picks_Keep : gof K_made_Picks_Keep Try.f27 = some G_made_Picks_Keep.strip := by kernel_rfl
theorem sys_made_Picks_Keep : Go.Eng.Sys Try.prog K_made_Picks_Keep := sys_of' ⟨ok_made_Picks_Num, ok_made_Picks_Edit, ok_made_Picks_set, ok_made_Picks_Path, trivial⟩
theorem hm_made_Picks_Keep : ConMono K_made_Picks_Keep := conMono_of sys_made_Picks_Keep.con
noncomputable def k_made_Picks_Keep_made_Picks_Num := PLift.up (call_gen (C := K_made_Picks_Keep) (f := 28) (modes := m_made_Picks_Num) (F := F_made_Picks_Num) rfl)
noncomputable def k_made_Picks_Keep_made_Picks_Edit := PLift.up (call_gen (C := K_made_Picks_Keep) (f := 39) (modes := m_made_Picks_Edit) (F := F_made_Picks_Edit) rfl)
noncomputable def k_made_Picks_Keep_made_Picks_set := PLift.up (call_gen (C := K_made_Picks_Keep) (f := 40) (modes := m_made_Picks_set) (F := F_made_Picks_set) rfl)
noncomputable def k_made_Picks_Keep_made_Picks_Path := PLift.up (call_gen (C := K_made_Picks_Keep) (f := 41) (modes := m_made_Picks_Path) (F := F_made_Picks_Path) rfl)
def m_made_Picks_Keep : List Bool := [true]
def F_made_Picks_Keep (xs : List AV) (s : Store) (Q : AV → Store → Prop) : Prop := ∃ g, xs = [.ptr g 0] ∧ pkF stepP g s Q
theorem mono_made_Picks_Keep (xs : List AV) (s : Store) (Q Q' : AV → Store → Prop) (hq : ∀ r t, Q r t → Q' r t) : F_made_Picks_Keep xs s Q → F_made_Picks_Keep xs s Q' := fun ⟨g, a, b⟩ => ⟨g, a, pkF_mono hq b⟩
theorem ex_made_Picks_Keep (xs : List AV) (s : Store) (Q : AV → Store → Prop) : F_made_Picks_Keep xs s Q → ∃ r t, Q r t := fun ⟨_, _, b⟩ => pkF_ex stepP_ex b
set_option maxRecDepth 10000 in
set_option maxHeartbeats 4000000 in
theorem keep_tail {s : Store} {g g4 : Nat} {l : List Byt} {id : Int} (hid : n2 id) {S : Store} (H : PkI s S g l) (f4 : S.f g4 = some (stE step0 (.t .nilS)))
    (z4 : s.f g4 = none) (n4 : g4 ≠ g) {Q : AV → Store → Prop} (hq : ∀ r S', stepP r → PkI s S' g l → Q r S') {σ : St} (hσ : Wk σ (mkS [(0, .ptr g 0), (2, .ptr g4 0), (3, .t (.int .i64 id))] S)) :
    avp K_made_Picks_Keep G_made_Picks_Keep_4 (Ret K_made_Picks_Keep [.cell 2 24] fun r s' => ∃ s'', Sub s'' s' ∧ Q r s'') σ := by
  unfold G_made_Picks_Keep_4
  simp only [avp_seq]
  refine ⟨_, hσ, ?_⟩
  simp only [vP.down, vS.down, vE.down, Nat.reduceEqDiff, Nat.reduceAdd, Nat.reduceSub, Nat.reduceMul, Nat.reduceLeDiff, Nat.reduceLT, Int.reduceToNat, reduceIte, reduceCtorEq, Int.reduceEq, Int.reduceLT, Int.reduceLE, ↓avp_condG, ↓tf_arrow, ↓ft_arrow, k_made_Picks_Keep_made_Picks_Num.down, m_made_Picks_Num]
  refine num_any H.refl' (by omega) fun v S1 hv0 hv1 I1 => ?_
  have H1 := H.trans I1
  have f4a := I1.keep f4 n4
  by_cases c1 : v < 11
  · simp only [vP.down, vS.down, vE.down, Nat.reduceEqDiff, Nat.reduceAdd, Nat.reduceSub, Nat.reduceMul, Nat.reduceLeDiff, Nat.reduceLT, Int.reduceToNat, reduceIte, reduceCtorEq, Int.reduceEq, Int.reduceLT, Int.reduceLE, ↓avp_condG, ↓tf_arrow, ↓ft_arrow, c1, k_made_Picks_Keep_made_Picks_Edit.down, m_made_Picks_Edit]
    refine edit_any H1.refl' hid fun x S2 hx hk I2 => ?_
    have H2 := H1.trans I2
    have f4b := I2.keep f4a n4
    unfold stC
    simp only [vP.down, vS.down, vE.down, Nat.reduceEqDiff, Nat.reduceAdd, Nat.reduceSub, Nat.reduceMul, Nat.reduceLeDiff, Nat.reduceLT, Int.reduceToNat, reduceIte, reduceCtorEq, Int.reduceEq, Int.reduceLT, Int.reduceLE, ↓avp_condG, ↓tf_arrow, ↓ft_arrow, f4b]
    simp only [vP.down, vS.down, vE.down, Nat.reduceEqDiff, Nat.reduceAdd, Nat.reduceSub, Nat.reduceMul, Nat.reduceLeDiff, Nat.reduceLT, Int.reduceToNat, reduceIte, reduceCtorEq, Int.reduceEq, Int.reduceLT, Int.reduceLE, ↓avp_condG, ↓tf_arrow, ↓ft_arrow, vT.down]
    exact ⟨_, fun _ _ h => h, hq _ _ ⟨x, hx, hk, rfl⟩ (H2.box z4 n4)⟩
  by_cases c2 : v < 15
  · simp only [vP.down, vS.down, vE.down, Nat.reduceEqDiff, Nat.reduceAdd, Nat.reduceSub, Nat.reduceMul, Nat.reduceLeDiff, Nat.reduceLT, Int.reduceToNat, reduceIte, reduceCtorEq, Int.reduceEq, Int.reduceLT, Int.reduceLE, ↓avp_condG, ↓tf_arrow, ↓ft_arrow, c1, c2, k_made_Picks_Keep_made_Picks_Num.down, m_made_Picks_Num]
    refine num_any H1.refl' (by omega) fun n S2 hn0 hn1 I2 => ?_
    have H2 := H1.trans I2
    have f4b := I2.keep f4a n4
    simp only [vP.down, vS.down, vE.down, Nat.reduceEqDiff, Nat.reduceAdd, Nat.reduceSub, Nat.reduceMul, Nat.reduceLeDiff, Nat.reduceLT, Int.reduceToNat, reduceIte, reduceCtorEq, Int.reduceEq, Int.reduceLT, Int.reduceLE, ↓avp_condG, ↓tf_arrow, ↓ft_arrow, f4b]
    simp only [vP.down, vS.down, vE.down, Nat.reduceEqDiff, Nat.reduceAdd, Nat.reduceSub, Nat.reduceMul, Nat.reduceLeDiff, Nat.reduceLT, Int.reduceToNat, reduceIte, reduceCtorEq, Int.reduceEq, Int.reduceLT, Int.reduceLE, ↓avp_condG, ↓tf_arrow, ↓ft_arrow, vT.down]
    exact ⟨_, fun _ _ h => h, hq _ _ ⟨⟨15, 0, n, 0, 0, [], [], [], []⟩, gd_n (.inr (.inl rfl)) ⟨hn0, by omega⟩, rfl, rfl⟩ (H2.box z4 n4)⟩
  by_cases c3 : v < 18
  · simp only [vP.down, vS.down, vE.down, Nat.reduceEqDiff, Nat.reduceAdd, Nat.reduceSub, Nat.reduceMul, Nat.reduceLeDiff, Nat.reduceLT, Int.reduceToNat, reduceIte, reduceCtorEq, Int.reduceEq, Int.reduceLT, Int.reduceLE, ↓avp_condG, ↓tf_arrow, ↓ft_arrow, c1, c2, c3, k_made_Picks_Keep_made_Picks_set.down, m_made_Picks_set]
    refine set_any H1.refl' hid fun x S2 hx hk I2 => ?_
    have H2 := H1.trans I2
    have f4b := I2.keep f4a n4
    unfold stC
    simp only [vP.down, vS.down, vE.down, Nat.reduceEqDiff, Nat.reduceAdd, Nat.reduceSub, Nat.reduceMul, Nat.reduceLeDiff, Nat.reduceLT, Int.reduceToNat, reduceIte, reduceCtorEq, Int.reduceEq, Int.reduceLT, Int.reduceLE, ↓avp_condG, ↓tf_arrow, ↓ft_arrow, f4b]
    simp only [vP.down, vS.down, vE.down, Nat.reduceEqDiff, Nat.reduceAdd, Nat.reduceSub, Nat.reduceMul, Nat.reduceLeDiff, Nat.reduceLT, Int.reduceToNat, reduceIte, reduceCtorEq, Int.reduceEq, Int.reduceLT, Int.reduceLE, ↓avp_condG, ↓tf_arrow, ↓ft_arrow, vT.down]
    exact ⟨_, fun _ _ h => h, hq _ _ ⟨x, hx, hk, rfl⟩ (H2.box z4 n4)⟩
  by_cases c5 : v = 18
  · have c18 : ¬ ((18 : Int) < 11) := by omega
    simp only [vP.down, vS.down, vE.down, Nat.reduceEqDiff, Nat.reduceAdd, Nat.reduceSub, Nat.reduceMul, Nat.reduceLeDiff, Nat.reduceLT, Int.reduceToNat, reduceIte, reduceCtorEq, Int.reduceEq, Int.reduceLT, Int.reduceLE, ↓avp_condG, ↓tf_arrow, ↓ft_arrow, c1, c2, c3, c5]
    intro g3 hg3
    have n34 := ne_of f4a hg3
    have n3 := H1.ne hg3
    have H2 := H1.fresh (e := some (.row 1 (([16, 17] : List Int).map Cell.enc) false)) hg3
    simp only [vP.down, vS.down, vE.down, Nat.reduceEqDiff, Nat.reduceAdd, Nat.reduceSub, Nat.reduceMul, Nat.reduceLeDiff, Nat.reduceLT, Int.reduceToNat, reduceIte, reduceCtorEq, Int.reduceEq, Int.reduceLT, Int.reduceLE, ↓avp_condG, ↓tf_arrow, ↓ft_arrow, k_made_Picks_Keep_made_Picks_Num.down, m_made_Picks_Num]
    refine num_any H2.refl' (by omega) fun n S2 hn0 hn1 I2 => ?_
    have H3 := H2.trans I2
    have f3b := I2.keep (Store.set_same _ _ _) n3
    have f4b := I2.keep ((Store.set_other _ _ n34).trans f4a) n4
    obtain ⟨i, rfl⟩ : ∃ i : Nat, n = (i : Int) := ⟨n.toNat, by omega⟩
    have hi : i < ([16, 17] : List Int).length := by show i < 2; omega
    have hk : ([16, 17] : List Int).getD i default = 16 ∨ ([16, 17] : List Int).getD i default = 17 := by
      have : ∀ i, i < 2 → ([16, 17] : List Int).getD i default = 16 ∨ ([16, 17] : List Int).getD i default = 17 := by decide
      exact this i hi
    simp only [vP.down, vS.down, vE.down, Nat.reduceEqDiff, Nat.reduceAdd, Nat.reduceSub, Nat.reduceMul, Nat.reduceLeDiff, Nat.reduceLT, Int.reduceToNat, reduceIte, reduceCtorEq, Int.reduceEq, Int.reduceLT, Int.reduceLE, ↓avp_condG, ↓tf_arrow, ↓ft_arrow, rowL_at (α := Int) (w := 1) rfl f3b hi, f4b]
    refine ⟨by omega, ?_⟩
    simp only [vP.down, vS.down, vE.down, Nat.reduceEqDiff, Nat.reduceAdd, Nat.reduceSub, Nat.reduceMul, Nat.reduceLeDiff, Nat.reduceLT, Int.reduceToNat, reduceIte, reduceCtorEq, Int.reduceEq, Int.reduceLT, Int.reduceLE, ↓avp_condG, ↓tf_arrow, ↓ft_arrow, vT.down]
    exact ⟨_, fun _ _ h => h, hq _ _ ⟨⟨([16, 17] : List Int).getD i default, 0, 0, 0, 0, [], [], [], []⟩, gd_none hk, rfl, rfl⟩ (H3.box z4 n4)⟩
  simp only [vP.down, vS.down, vE.down, Nat.reduceEqDiff, Nat.reduceAdd, Nat.reduceSub, Nat.reduceMul, Nat.reduceLeDiff, Nat.reduceLT, Int.reduceToNat, reduceIte, reduceCtorEq, Int.reduceEq, Int.reduceLT, Int.reduceLE, ↓avp_condG, ↓tf_arrow, ↓ft_arrow, c1, c2, c3, c5, k_made_Picks_Keep_made_Picks_Num.down, m_made_Picks_Num]
  refine num_any H1.refl' (by omega) fun k S2 hk0 hk1 I2 => ?_
  have H2 := H1.trans I2
  have f4b := I2.keep f4a n4
  have w1 : IntKind.i64.wrap (6 + k) = 6 + k := IntWalk.i64_in _ (by omega)
  simp only [vP.down, vS.down, vE.down, Nat.reduceEqDiff, Nat.reduceAdd, Nat.reduceSub, Nat.reduceMul, Nat.reduceLeDiff, Nat.reduceLT, Int.reduceToNat, reduceIte, reduceCtorEq, Int.reduceEq, Int.reduceLT, Int.reduceLE, ↓avp_condG, ↓tf_arrow, ↓ft_arrow, w1, k_made_Picks_Keep_made_Picks_Path.down, m_made_Picks_Path]
  refine path_any H2.refl' fun p S3 hp I3 => ?_
  have H3 := H2.trans I3
  have f4c := I3.keep f4b n4
  by_cases ck : 6 + k = 6
  · have w6 : IntKind.i64.wrap 6 = 6 := by decide
    simp only [vP.down, vS.down, vE.down, Nat.reduceEqDiff, Nat.reduceAdd, Nat.reduceSub, Nat.reduceMul, Nat.reduceLeDiff, Nat.reduceLT, Int.reduceToNat, reduceIte, reduceCtorEq, Int.reduceEq, Int.reduceLT, Int.reduceLE, ↓avp_condG, ↓tf_arrow, ↓ft_arrow, ck, w6]
    intro g5 hg5
    have n45 := ne_of f4c hg5
    have n5 := H3.ne hg5
    have z5 := H3.old hg5
    have H4 := H3.fresh (e := some (stE ⟨6, id, 0, 0, 0, p, [], [], []⟩ (.t .nilS))) hg5
    have o4 : ∀ (T : Store) x, (T.set g5 x).f g4 = T.f g4 := fun _ _ => Store.set_other _ _ n45
    simp only [vP.down, vS.down, vE.down, Nat.reduceEqDiff, Nat.reduceAdd, Nat.reduceSub, Nat.reduceMul, Nat.reduceLeDiff, Nat.reduceLT, Int.reduceToNat, reduceIte, reduceCtorEq, Int.reduceEq, Int.reduceLT, Int.reduceLE, ↓avp_condG, ↓tf_arrow, ↓ft_arrow, k_made_Picks_Keep_made_Picks_Num.down, m_made_Picks_Num]
    refine num_any H4.refl' (by omega) fun a S4 ha0 ha1 I4 => ?_
    have H5 := H4.trans I4
    have f4d := I4.keep ((Store.set_other _ _ n45).trans f4c) n4
    have f5d := I4.keep (Store.set_same _ _ _) n5
    have wa : IntKind.i64.wrap (a * 30) = a * 30 := IntWalk.i64_in _ (by omega)
    simp only [vP.down, vS.down, vE.down, Nat.reduceEqDiff, Nat.reduceAdd, Nat.reduceSub, Nat.reduceMul, Nat.reduceLeDiff, Nat.reduceLT, Int.reduceToNat, reduceIte, reduceCtorEq, Int.reduceEq, Int.reduceLT, Int.reduceLE, ↓avp_condG, ↓tf_arrow, ↓ft_arrow, wa, k_made_Picks_Keep_made_Picks_Num.down, m_made_Picks_Num]
    refine num_any H5.refl' (by omega) fun b S5 hb0 hb1 I5 => ?_
    have H6 := H5.trans I5
    have f4e := I5.keep f4d n4
    have f5e := I5.keep f5d n5
    simp only [vP.down, vS.down, vE.down, Nat.reduceEqDiff, Nat.reduceAdd, Nat.reduceSub, Nat.reduceMul, Nat.reduceLeDiff, Nat.reduceLT, Int.reduceToNat, reduceIte, reduceCtorEq, Int.reduceEq, Int.reduceLT, Int.reduceLE, ↓avp_condG, ↓tf_arrow, ↓ft_arrow, f5e, f4e, o4]
    simp only [vP.down, vS.down, vE.down, Nat.reduceEqDiff, Nat.reduceAdd, Nat.reduceSub, Nat.reduceMul, Nat.reduceLeDiff, Nat.reduceLT, Int.reduceToNat, reduceIte, reduceCtorEq, Int.reduceEq, Int.reduceLT, Int.reduceLE, ↓avp_condG, ↓tf_arrow, ↓ft_arrow, vT.down]
    exact ⟨_, fun _ _ h => h, hq _ _ ⟨⟨6, id, a * 30, b, 0, p, [], [], []⟩, gd_read hid ⟨by omega, by omega⟩ ⟨by omega, by omega⟩ hp, rfl, rfl⟩ ((H6.box z5 n5).box z4 n4)⟩
  · simp only [vP.down, vS.down, vE.down, Nat.reduceEqDiff, Nat.reduceAdd, Nat.reduceSub, Nat.reduceMul, Nat.reduceLeDiff, Nat.reduceLT, Int.reduceToNat, reduceIte, reduceCtorEq, Int.reduceEq, Int.reduceLT, Int.reduceLE, ↓avp_condG, ↓tf_arrow, ↓ft_arrow, ck]
    intro g5 hg5
    have n45 := ne_of f4c hg5
    have n5 := H3.ne hg5
    have z5 := H3.old hg5
    have H4 := H3.fresh (e := some (stE ⟨6 + k, id, 0, 0, 0, p, [], [], []⟩ (.t .nilS))) hg5
    have o4 : ∀ (T : Store) x, (T.set g5 x).f g4 = T.f g4 := fun _ _ => Store.set_other _ _ n45
    simp only [vP.down, vS.down, vE.down, Nat.reduceEqDiff, Nat.reduceAdd, Nat.reduceSub, Nat.reduceMul, Nat.reduceLeDiff, Nat.reduceLT, Int.reduceToNat, reduceIte, reduceCtorEq, Int.reduceEq, Int.reduceLT, Int.reduceLE, ↓avp_condG, ↓tf_arrow, ↓ft_arrow, f4c, o4]
    simp only [vP.down, vS.down, vE.down, Nat.reduceEqDiff, Nat.reduceAdd, Nat.reduceSub, Nat.reduceMul, Nat.reduceLeDiff, Nat.reduceLT, Int.reduceToNat, reduceIte, reduceCtorEq, Int.reduceEq, Int.reduceLT, Int.reduceLE, ↓avp_condG, ↓tf_arrow, ↓ft_arrow, vT.down]
    exact ⟨_, fun _ _ h => h, hq _ _ ⟨⟨6 + k, id, 0, 0, 0, p, [], [], []⟩, gd_drop (by omega) hid hp, rfl, rfl⟩ (H4.box z4 n4)⟩
set_option maxRecDepth 10000 in
set_option maxHeartbeats 4000000 in
theorem body_made_Picks_Keep (xs : List AV) (s : Store) (Q : AV → Store → Prop) (h : F_made_Picks_Keep xs s Q) : xs.length ≤ 59 ∧ avp K_made_Picks_Keep G_made_Picks_Keep (Ret K_made_Picks_Keep [.cell 2 24] fun r s' => ∃ s'', Sub s'' s' ∧ Q r s'') (entry xs s) := by
  obtain ⟨g, rfl, l, h, hq⟩ := h
  refine ⟨by simp, ?_⟩
  unfold G_made_Picks_Keep
  simp only [vP.down, vS.down, vE.down, Nat.reduceEqDiff, Nat.reduceAdd, Nat.reduceSub, Nat.reduceMul, Nat.reduceLeDiff, Nat.reduceLT, Int.reduceToNat, reduceIte, reduceCtorEq, Int.reduceEq, Int.reduceLT, Int.reduceLE, ↓avp_condG, ↓tf_arrow, ↓ft_arrow]
  intro g4 hg4
  have n4 := h.ne hg4
  have z4 := hg4
  have H0 := h.fresh (e := some (stE step0 (.t .nilS))) hg4
  have f4 := Store.set_same s g4 (some (stE step0 (.t .nilS)))
  simp only [vP.down, vS.down, vE.down, Nat.reduceEqDiff, Nat.reduceAdd, Nat.reduceSub, Nat.reduceMul, Nat.reduceLeDiff, Nat.reduceLT, Int.reduceToNat, reduceIte, reduceCtorEq, Int.reduceEq, Int.reduceLT, Int.reduceLE, ↓avp_condG, ↓tf_arrow, ↓ft_arrow, k_made_Picks_Keep_made_Picks_Num.down, m_made_Picks_Num]
  refine num_any H0.refl' (by omega) fun v S1 hv0 hv1 I1 => ?_
  have H1 := H0.trans I1
  have f4a := I1.keep f4 n4
  by_cases c0 : v = 0
  · simp only [vP.down, vS.down, vE.down, Nat.reduceEqDiff, Nat.reduceAdd, Nat.reduceSub, Nat.reduceMul, Nat.reduceLeDiff, Nat.reduceLT, Int.reduceToNat, reduceIte, reduceCtorEq, Int.reduceEq, Int.reduceLT, Int.reduceLE, ↓avp_condG, ↓tf_arrow, ↓ft_arrow, c0, k_made_Picks_Keep_made_Picks_Num.down, m_made_Picks_Num]
    refine num_any H1.refl' (by omega) fun w S2 hw0 hw1 I2 => ?_
    have w1 : IntKind.i64.wrap (1 + w) = 1 + w := IntWalk.i64_in _ (by omega)
    simp only [vP.down, vS.down, vE.down, Nat.reduceEqDiff, Nat.reduceAdd, Nat.reduceSub, Nat.reduceMul, Nat.reduceLeDiff, Nat.reduceLT, Int.reduceToNat, reduceIte, reduceCtorEq, Int.reduceEq, Int.reduceLT, Int.reduceLE, ↓avp_condG, ↓tf_arrow, ↓ft_arrow, w1]
    exact keep_tail (id := 1 + w) ⟨by omega, by omega⟩ (H1.trans I2) (I2.keep f4a n4) z4 n4 hq (wk_to fewer_refl (by simp only [vP.down, vS.down, vE.down, Nat.reduceEqDiff, Nat.reduceAdd, Nat.reduceSub, Nat.reduceMul, Nat.reduceLeDiff, Nat.reduceLT, Int.reduceToNat, reduceIte, reduceCtorEq, Int.reduceEq, Int.reduceLT, Int.reduceLE, ↓avp_condG, ↓tf_arrow, ↓ft_arrow, wP.down]))
  · simp only [vP.down, vS.down, vE.down, Nat.reduceEqDiff, Nat.reduceAdd, Nat.reduceSub, Nat.reduceMul, Nat.reduceLeDiff, Nat.reduceLT, Int.reduceToNat, reduceIte, reduceCtorEq, Int.reduceEq, Int.reduceLT, Int.reduceLE, ↓avp_condG, ↓tf_arrow, ↓ft_arrow, c0]
    exact keep_tail (id := 1) ⟨by omega, by omega⟩ H1 f4a z4 n4 hq (wk_to fewer_refl (by simp only [vP.down, vS.down, vE.down, Nat.reduceEqDiff, Nat.reduceAdd, Nat.reduceSub, Nat.reduceMul, Nat.reduceLeDiff, Nat.reduceLT, Int.reduceToNat, reduceIte, reduceCtorEq, Int.reduceEq, Int.reduceLT, Int.reduceLE, ↓avp_condG, ↓tf_arrow, ↓ft_arrow, wP.down]))
noncomputable def c_made_Picks_Keep : Con := .gen m_made_Picks_Keep F_made_Picks_Keep
theorem ok_made_Picks_Keep : COk Try.prog 27 c_made_Picks_Keep := fn_gok sys_made_Picks_Keep mixed Try.func27 (by kernel_rfl) geq_made_Picks_Keep Try.ntmps27 (by rw [Try.results27]) mono_made_Picks_Keep ex_made_Picks_Keep body_made_Picks_Keep
end Go.Proofs.Ythhgaeeeppipnaa


namespace Go.Proofs.Ythhgaeeeppipnaa
open Go Go.Eng
theorem keep_any {s : Store} {g : Nat} {l : List Byt} {Q : AV → Store → Prop} (h : PkI s s g l) (hq : ∀ x S, good x = true → x.Keep = [] → PkI s S g l → Q (.agg (stC x (.t .nilS))) S) : F_made_Picks_Keep [.ptr g 0] s Q :=
  ⟨g, rfl, l, h, fun r S ⟨x, h1, h2, e⟩ hS => by rw [e]; exact hq x S h1 h2 hS⟩
theorem lv_w1 {α : Type} [Cell α] {s s' : Store} {v : AV} {l : List α} (h : LV s v l) (hd : ∀ g, ¬ Not v g → s'.f g = none) : W1 s s' v (.t (sl l)) := by
  rcases h with ⟨rfl, rfl⟩ | ⟨g, rfl, ro, h⟩
  · exact .inr (.inl ⟨_, rfl, .inl rfl⟩)
  · refine .inr (.inr ⟨sl l, [g], borrow1_tok rfl h, .inl rfl, fun k hk => ?_⟩)
    obtain rfl : k = g := by simpa using hk
    exact hd _ fun hn => hn _ _ _ rfl
/-- A step's box becomes one that is only read. -/
theorem step_freeze {S : Store} {g : Nat} {v : AV} {x : TStep} (h : S.f g = some (stE x v)) (hv : LV S v x.Keep) : ∃ S', Fewer S S' ∧ S'.f g = some (.box ((stT x).map .t) false) ∧ ∀ k e, k ≠ g → Not v k → S.f k = some e → S'.f k = some e := by
  have hvg : Not v g := hv.notbox h
  have core : ∀ T : Store, (∀ k e, T.f k = some e → S.f k = some e) → (∀ k, ¬ Not v k → T.f k = none) → (∀ k e, Not v k → S.f k = some e → T.f k = some e) →
      ∃ S', Fewer S S' ∧ S'.f g = some (.box ((stT x).map .t) false) ∧ ∀ k e, k ≠ g → Not v k → S.f k = some e → S'.f k = some e := by
    intro T h1 h2 h3
    refine ⟨T.set g (some (.box ((stT x).map .t) false)), fun k e' hk => ?_, Store.set_same _ _ _, fun k e hkg hn he => by rw [Store.set_other _ _ hkg]; exact h3 k e hn he⟩
    by_cases hkg : k = g
    · subst hkg
      rw [Store.set_same] at hk
      cases hk
      refine ⟨_, h, .inr ⟨_, _, false, rfl, rfl, ⟨.inl rfl, .inl rfl, .inl rfl, .inl rfl, .inl rfl, .inl rfl, .inl rfl, .inl rfl, lv_w1 hv fun j hj => ?_, trivial⟩, rfl⟩⟩
      have hjk : j ≠ k := fun e => hj (e ▸ hvg)
      rw [Store.set_other _ _ hjk]; exact h2 j hj
    · rw [Store.set_other _ _ hkg] at hk
      exact ⟨_, h1 _ _ hk, .inl rfl⟩
  rcases hv with ⟨_, rfl⟩ | ⟨gx, rfl, _⟩
  · exact core S (fun _ _ h => h) (fun k hk => absurd not_t hk) fun _ _ _ h => h
  · refine core (S.set gx none) (fun k e hk => ?_) (fun k hk => ?_) fun k e hn he => ?_
    · by_cases hkx : k = gx
      · rw [hkx, Store.set_same] at hk; cases hk
      · rwa [Store.set_other _ _ hkx] at hk
    · have : k = gx := Classical.byContradiction fun hh => hk (not_tok (Ne.symm hh))
      rw [this]; exact Store.set_same _ _ _
    · have : k ≠ gx := fun hh => hn _ _ _ (by rw [hh])
      rw [Store.set_other _ _ this]; exact he
def stepR (r : AV) : Prop := ∃ x : TStep, good x = true ∧ r = .agg ((stT x).map .t)
def G_made_Picks_Step_17 : GCode := .seq (.seq .weak (.region [⟨(some 50), none, .load 24 (.tmp 3)⟩, ⟨none, none, .store 24 (.tmp 2) (.tmp 50)⟩])) (.ret)
def G_made_Picks_Step : GCode := .seq (.region [⟨(some 2), none, .alloc 24⟩]) (.seq (.region [⟨(some 5), none, .move (.tmp 0)⟩, ⟨(some 6), none, .call ⟨.value (.func 27), #[.tmp 5], #[40]⟩⟩, ⟨(some 3), none, .alloc 24⟩, ⟨none, none, .store 24 (.tmp 3) (.tmp 6)⟩]) (.seq (.seq (.region [⟨(some 7), none, .move (.tmp 0)⟩, ⟨(some 8), none, .call ⟨.value (.func 28), #[.tmp 7, .const (.int .i64 14)], #[40, 3]⟩⟩]) (.block 0 (.seq (.region [⟨(some 10), none, .binOp .eql 3 (.tmp 8) (.const (.int .i64 0)) 3⟩, ⟨(some 9), none, .assign (.tmp 10)⟩]) (.cond (.tmp 9) (.region [⟨(some 11), none, .move (.tmp 0)⟩, ⟨(some 12), none, .call ⟨.value (.func 28), #[.tmp 11, .const (.int .i64 5)], #[40, 3]⟩⟩, ⟨(some 13), none, .build 24 #[(0, .const (.int .i64 18)), (2, .tmp 12)]⟩, ⟨none, none, .store 24 (.tmp 3) (.tmp 13)⟩]) (.seq (.region [⟨(some 15), none, .binOp .eql 3 (.tmp 8) (.const (.int .i64 1)) 3⟩, ⟨(some 14), none, .assign (.tmp 15)⟩]) (.cond (.tmp 14) (.region [⟨(some 16), none, .move (.tmp 0)⟩, ⟨(some 17), none, .call ⟨.value (.func 28), #[.tmp 16, .const (.int .i64 25)], #[40, 3]⟩⟩, ⟨(some 18), none, .build 24 #[(0, .const (.int .i64 19)), (2, .tmp 17)]⟩, ⟨none, none, .store 24 (.tmp 3) (.tmp 18)⟩]) (.seq (.region [⟨(some 20), none, .binOp .eql 3 (.tmp 8) (.const (.int .i64 2)) 3⟩, ⟨(some 19), none, .assign (.tmp 20)⟩]) (.cond (.tmp 19) (.seq (.region [⟨(some 21), none, .build 24 #[(0, .const (.int .i64 21))]⟩, ⟨none, none, .store 24 (.tmp 3) (.tmp 21)⟩]) (.seq (.region [⟨(some 22), none, .move (.tmp 0)⟩, ⟨(some 23), none, .call ⟨.value (.func 28), #[.tmp 22, .const (.int .i64 20)], #[40, 3]⟩⟩, ⟨(some 4), none, .assign (.tmp 23)⟩]) (.block 1 (.loop (.seq .weak (.seq (.seq (.region [⟨(some 24), none, .move (.tmp 4)⟩, ⟨(some 25), none, .binOp .gtr 3 (.tmp 24) (.const (.int .i64 0)) 3⟩]) (.cond (.tmp 25) (.skip) (.exit 1))) (.seq (.block 2 (.orders (.one ⟨(some 28), none, .fieldAddr 24 (.tmp 3) 8⟩ (.one ⟨(some 30), none, .move (.tmp 0)⟩ (.both (.one ⟨(some 29), none, .load 22 (.tmp 28)⟩ (.one ⟨(some 31), none, .call ⟨.value (.func 28), #[.tmp 30, .const (.int .i64 4)], #[40, 3]⟩⟩ (.one ⟨(some 32), none, .buildSlice 22 1 #[(0, .tmp 31)]⟩ (.one ⟨(some 33), none, .call ⟨.builtin .append, #[.tmp 29, .tmp 32], #[22, 22]⟩⟩ (.one ⟨(some 34), none, .fieldAddr 24 (.tmp 3) 8⟩ (.one ⟨none, none, .store 22 (.tmp 34) (.tmp 33)⟩ (.done))))))) (.one ⟨(some 31), none, .call ⟨.value (.func 28), #[.tmp 30, .const (.int .i64 4)], #[40, 3]⟩⟩ (.one ⟨(some 29), none, .load 22 (.tmp 28)⟩ (.one ⟨(some 32), none, .buildSlice 22 1 #[(0, .tmp 31)]⟩ (.one ⟨(some 33), none, .call ⟨.builtin .append, #[.tmp 29, .tmp 32], #[22, 22]⟩⟩ (.one ⟨(some 34), none, .fieldAddr 24 (.tmp 3) 8⟩ (.one ⟨none, none, .store 22 (.tmp 34) (.tmp 33)⟩ (.done)))))))))))) (.region [⟨(some 26), none, .move (.tmp 4)⟩, ⟨(some 27), none, .binOp .sub 3 (.tmp 26) (.const (.int .i64 1)) 3⟩, ⟨(some 4), none, .assign (.tmp 27)⟩])))))))) (.seq (.region [⟨(some 36), none, .binOp .eql 3 (.tmp 8) (.const (.int .i64 3)) 3⟩, ⟨(some 35), none, .assign (.tmp 36)⟩]) (.cond (.tmp 35) (.seq (.region [⟨(some 37), none, .move (.tmp 0)⟩, ⟨(some 38), none, .call ⟨.value (.func 28), #[.tmp 37, .const (.int .i64 2)], #[40, 3]⟩⟩, ⟨(some 39), none, .binOp .eql 3 (.tmp 38) (.const (.int .i64 0)) 3⟩]) (.cond (.tmp 39) (.region [⟨(some 40), none, .move (.tmp 0)⟩, ⟨(some 41), none, .call ⟨.value (.func 28), #[.tmp 40, .const (.int .i64 4)], #[40, 3]⟩⟩, ⟨(some 42), none, .build 24 #[(0, .const (.int .i64 20)), (2, .tmp 41)]⟩, ⟨none, none, .store 24 (.tmp 3) (.tmp 42)⟩]) (.region [⟨(some 43), none, .move (.tmp 0)⟩, ⟨(some 44), none, .call ⟨.value (.func 28), #[.tmp 43, .const (.int .i64 100)], #[40, 3]⟩⟩, ⟨(some 45), none, .move (.tmp 0)⟩, ⟨(some 46), none, .call ⟨.value (.func 28), #[.tmp 45, .const (.int .i64 256)], #[40, 3]⟩⟩, ⟨(some 47), none, .move (.tmp 0)⟩, ⟨(some 48), none, .call ⟨.value (.func 28), #[.tmp 47, .const (.int .i64 256)], #[40, 3]⟩⟩, ⟨(some 49), none, .build 24 #[(0, .const (.int .i64 22)), (2, .tmp 44), (3, .tmp 46), (4, .tmp 48)]⟩, ⟨none, none, .store 24 (.tmp 3) (.tmp 49)⟩]))) (.skip))))))))))) (G_made_Picks_Step_17)))
noncomputable def l_made_Picks_Step : List (Nat × Con) := [(27, c_made_Picks_Keep), (28, c_made_Picks_Num)]
noncomputable abbrev K_made_Picks_Step : Ctx := ctx (cl l_made_Picks_Step)
theorem geq_made_Picks_Step : gof K_made_Picks_Step Try.f18 = some G_made_Picks_Step.strip := by kernel_rfl
theorem sys_made_Picks_Step : Go.Eng.Sys Try.prog K_made_Picks_Step := sys_of' ⟨ok_made_Picks_Keep, ok_made_Picks_Num, trivial⟩
theorem hm_made_Picks_Step : ConMono K_made_Picks_Step := conMono_of sys_made_Picks_Step.con
noncomputable def k_made_Picks_Step_made_Picks_Keep := PLift.up (call_gen (C := K_made_Picks_Step) (f := 27) (modes := m_made_Picks_Keep) (F := F_made_Picks_Keep) rfl)
noncomputable def k_made_Picks_Step_made_Picks_Num := PLift.up (call_gen (C := K_made_Picks_Step) (f := 28) (modes := m_made_Picks_Num) (F := F_made_Picks_Num) rfl)
def m_made_Picks_Step : List Bool := [true]
def F_made_Picks_Step (xs : List AV) (s : Store) (Q : AV → Store → Prop) : Prop := ∃ g, xs = [.ptr g 0] ∧ pkF stepR g s Q
theorem mono_made_Picks_Step (xs : List AV) (s : Store) (Q Q' : AV → Store → Prop) (hq : ∀ r t, Q r t → Q' r t) : F_made_Picks_Step xs s Q → F_made_Picks_Step xs s Q' := fun ⟨g, a, b⟩ => ⟨g, a, pkF_mono hq b⟩
theorem ex_made_Picks_Step (xs : List AV) (s : Store) (Q : AV → Store → Prop) : F_made_Picks_Step xs s Q → ∃ r t, Q r t := fun ⟨_, _, b⟩ => pkF_ex ⟨_, _, gd_none (k := 16) (.inl rfl), rfl⟩ b
set_option maxRecDepth 10000 in
set_option maxHeartbeats 4000000 in
theorem step_end {s : Store} {g g4 g5 : Nat} {l : List Byt} {x : TStep} {v : AV} (hx : good x = true) {S : Store} (H : PkI s S g l) (f4 : S.f g4 = some (stE step0 (.t .nilS))) (f5 : S.f g5 = some (stE x v)) (hv : LV S v x.Keep) (hvs : ∀ k, s.f k ≠ none → Not v k)
    (z4 : s.f g4 = none) (n4 : g4 ≠ g) (n45 : g4 ≠ g5) (z5 : s.f g5 = none) (n5 : g5 ≠ g) {Q : AV → Store → Prop} (hq : ∀ r S', stepR r → PkI s S' g l → Q r S') {σ : St} (hσ : ∀ S', Fewer S S' → Wk σ (mkS [(2, .ptr g4 0), (3, .ptr g5 0)] S')) :
    avp K_made_Picks_Step G_made_Picks_Step_17 (Ret K_made_Picks_Step [.cell 2 24] fun r s' => ∃ s'', Sub s'' s' ∧ Q r s'') σ := by
  obtain ⟨S', hF, h5', hkeep⟩ := step_freeze f5 hv
  have h4' := hkeep _ _ n45 (hv.notbox f4) f4
  have H' : PkI s S' g l := by
    obtain ⟨n, a, b, c, d⟩ := H
    exact ⟨n, hkeep _ _ n5.symm (hv.notbox a) a, b, c, fun k e hk hs => hkeep _ _ (fun hh => by rw [hh, z5] at hs; cases hs) (hvs k (by rw [hs]; simp)) (d k e hk hs)⟩
  unfold G_made_Picks_Step_17
  simp only [avp_seq]
  refine ⟨_, hσ S' hF, ?_⟩
  unfold stT at h5'
  simp only [vP.down, vS.down, vE.down, Nat.reduceEqDiff, Nat.reduceAdd, Nat.reduceSub, Nat.reduceMul, Nat.reduceLeDiff, Nat.reduceLT, Int.reduceToNat, reduceIte, reduceCtorEq, Int.reduceEq, Int.reduceLT, Int.reduceLE, ↓avp_condG, ↓tf_arrow, ↓ft_arrow, h4', h5']
  simp only [vP.down, vS.down, vE.down, Nat.reduceEqDiff, Nat.reduceAdd, Nat.reduceSub, Nat.reduceMul, Nat.reduceLeDiff, Nat.reduceLT, Int.reduceToNat, reduceIte, reduceCtorEq, Int.reduceEq, Int.reduceLT, Int.reduceLE, ↓avp_condG, ↓tf_arrow, ↓ft_arrow, vT.down]
  exact ⟨_, fun _ _ h => h, hq _ _ ⟨x, hx, rfl⟩ (H'.box z4 n4)⟩
theorem lv_stay {S S' : Store} {g : Nat} {l : List Byt} {v : AV} {k : List Int} (h : LV S v k) (hg : Not v g) (I : PkI S S' g l) : LV S' v k :=
  h.stay fun j hj ⟨ro, hf⟩ => ⟨ro, I.keep hf fun e => hj (e ▸ hg)⟩
set_option maxRecDepth 10000 in
set_option maxHeartbeats 4000000 in
theorem body_made_Picks_Step (xs : List AV) (s : Store) (Q : AV → Store → Prop) (h : F_made_Picks_Step xs s Q) : xs.length ≤ 51 ∧ avp K_made_Picks_Step G_made_Picks_Step (Ret K_made_Picks_Step [.cell 2 24] fun r s' => ∃ s'', Sub s'' s' ∧ Q r s'') (entry xs s) := by
  obtain ⟨g, rfl, l, h, hq⟩ := h
  refine ⟨by simp, ?_⟩
  unfold G_made_Picks_Step
  simp only [vP.down, vS.down, vE.down, Nat.reduceEqDiff, Nat.reduceAdd, Nat.reduceSub, Nat.reduceMul, Nat.reduceLeDiff, Nat.reduceLT, Int.reduceToNat, reduceIte, reduceCtorEq, Int.reduceEq, Int.reduceLT, Int.reduceLE, ↓avp_condG, ↓tf_arrow, ↓ft_arrow]
  intro g4 hg4
  have n4 := h.ne hg4
  have z4 := hg4
  have H0 := h.fresh (e := some (stE step0 (.t .nilS))) hg4
  have f4 := Store.set_same s g4 (some (stE step0 (.t .nilS)))
  simp only [vP.down, vS.down, vE.down, Nat.reduceEqDiff, Nat.reduceAdd, Nat.reduceSub, Nat.reduceMul, Nat.reduceLeDiff, Nat.reduceLT, Int.reduceToNat, reduceIte, reduceCtorEq, Int.reduceEq, Int.reduceLT, Int.reduceLE, ↓avp_condG, ↓tf_arrow, ↓ft_arrow, k_made_Picks_Step_made_Picks_Keep.down, m_made_Picks_Keep]
  refine keep_any H0.refl' fun x S1 hx hk I1 => ?_
  have H1 := H0.trans I1
  have f4a := I1.keep f4 n4
  unfold stC
  simp only [vP.down, vS.down, vE.down, Nat.reduceEqDiff, Nat.reduceAdd, Nat.reduceSub, Nat.reduceMul, Nat.reduceLeDiff, Nat.reduceLT, Int.reduceToNat, reduceIte, reduceCtorEq, Int.reduceEq, Int.reduceLT, Int.reduceLE, ↓avp_condG, ↓tf_arrow, ↓ft_arrow]
  intro g5 hg5
  have n45 := ne_of f4a hg5
  have n5 := H1.ne hg5
  have z5 := H1.old hg5
  have H2 := H1.fresh (e := some (stE x (.t .nilS))) hg5
  have o4 : ∀ (T : Store) x, (T.set g5 x).f g4 = T.f g4 := fun _ _ => Store.set_other _ _ n45
  simp only [vP.down, vS.down, vE.down, Nat.reduceEqDiff, Nat.reduceAdd, Nat.reduceSub, Nat.reduceMul, Nat.reduceLeDiff, Nat.reduceLT, Int.reduceToNat, reduceIte, reduceCtorEq, Int.reduceEq, Int.reduceLT, Int.reduceLE, ↓avp_condG, ↓tf_arrow, ↓ft_arrow, k_made_Picks_Step_made_Picks_Num.down, m_made_Picks_Num]
  refine num_any H2.refl' (by omega) fun c S2 hc0 hc1 I2 => ?_
  have H3 := H2.trans I2
  have f4b := I2.keep ((Store.set_other _ _ n45).trans f4a) n4
  have f5b := I2.keep (Store.set_same _ _ _) n5
  have nn : ∀ k, s.f k ≠ none → Not (.t .nilS) k := fun _ _ => not_t
  by_cases c0 : c = 0
  · simp only [vP.down, vS.down, vE.down, Nat.reduceEqDiff, Nat.reduceAdd, Nat.reduceSub, Nat.reduceMul, Nat.reduceLeDiff, Nat.reduceLT, Int.reduceToNat, reduceIte, reduceCtorEq, Int.reduceEq, Int.reduceLT, Int.reduceLE, ↓avp_condG, ↓tf_arrow, ↓ft_arrow, c0, k_made_Picks_Step_made_Picks_Num.down, m_made_Picks_Num]
    refine num_any H3.refl' (by omega) fun n S3 hn0 hn1 I3 => ?_
    have H4 := H3.trans I3
    have f4c := I3.keep f4b n4
    have f5c := I3.keep f5b n5
    simp only [vP.down, vS.down, vE.down, Nat.reduceEqDiff, Nat.reduceAdd, Nat.reduceSub, Nat.reduceMul, Nat.reduceLeDiff, Nat.reduceLT, Int.reduceToNat, reduceIte, reduceCtorEq, Int.reduceEq, Int.reduceLT, Int.reduceLE, ↓avp_condG, ↓tf_arrow, ↓ft_arrow, f5c]
    exact step_end (gd_n (k := 18) (by simp) ⟨hn0, by omega⟩) (H4.box z5 n5) ((o4 _ _).trans f4c) (Store.set_same _ _ _) lv_nil nn z4 n4 n45 z5 n5 hq fun S' hF => wk_to hF (by simp only [vP.down, vS.down, vE.down, Nat.reduceEqDiff, Nat.reduceAdd, Nat.reduceSub, Nat.reduceMul, Nat.reduceLeDiff, Nat.reduceLT, Int.reduceToNat, reduceIte, reduceCtorEq, Int.reduceEq, Int.reduceLT, Int.reduceLE, ↓avp_condG, ↓tf_arrow, ↓ft_arrow, wP.down])
  by_cases c1 : c = 1
  · simp only [vP.down, vS.down, vE.down, Nat.reduceEqDiff, Nat.reduceAdd, Nat.reduceSub, Nat.reduceMul, Nat.reduceLeDiff, Nat.reduceLT, Int.reduceToNat, reduceIte, reduceCtorEq, Int.reduceEq, Int.reduceLT, Int.reduceLE, ↓avp_condG, ↓tf_arrow, ↓ft_arrow, c0, c1, k_made_Picks_Step_made_Picks_Num.down, m_made_Picks_Num]
    refine num_any H3.refl' (by omega) fun n S3 hn0 hn1 I3 => ?_
    have H4 := H3.trans I3
    have f4c := I3.keep f4b n4
    have f5c := I3.keep f5b n5
    simp only [vP.down, vS.down, vE.down, Nat.reduceEqDiff, Nat.reduceAdd, Nat.reduceSub, Nat.reduceMul, Nat.reduceLeDiff, Nat.reduceLT, Int.reduceToNat, reduceIte, reduceCtorEq, Int.reduceEq, Int.reduceLT, Int.reduceLE, ↓avp_condG, ↓tf_arrow, ↓ft_arrow, f5c]
    exact step_end (gd_n (k := 19) (by simp) ⟨hn0, by omega⟩) (H4.box z5 n5) ((o4 _ _).trans f4c) (Store.set_same _ _ _) lv_nil nn z4 n4 n45 z5 n5 hq fun S' hF => wk_to hF (by simp only [vP.down, vS.down, vE.down, Nat.reduceEqDiff, Nat.reduceAdd, Nat.reduceSub, Nat.reduceMul, Nat.reduceLeDiff, Nat.reduceLT, Int.reduceToNat, reduceIte, reduceCtorEq, Int.reduceEq, Int.reduceLT, Int.reduceLE, ↓avp_condG, ↓tf_arrow, ↓ft_arrow, wP.down])
  by_cases c3 : c = 3
  · have c2 : ¬ ((3 : Int) = 2) := by omega
    simp only [vP.down, vS.down, vE.down, Nat.reduceEqDiff, Nat.reduceAdd, Nat.reduceSub, Nat.reduceMul, Nat.reduceLeDiff, Nat.reduceLT, Int.reduceToNat, reduceIte, reduceCtorEq, Int.reduceEq, Int.reduceLT, Int.reduceLE, ↓avp_condG, ↓tf_arrow, ↓ft_arrow, c0, c1, c3, f5b, k_made_Picks_Step_made_Picks_Num.down, m_made_Picks_Num]
    refine num_any H3.refl' (by omega) fun n S3 hn0 hn1 I3 => ?_
    have H4 := H3.trans I3
    have f4c := I3.keep f4b n4
    have f5c := I3.keep f5b n5
    by_cases d0 : n = 0
    · simp only [vP.down, vS.down, vE.down, Nat.reduceEqDiff, Nat.reduceAdd, Nat.reduceSub, Nat.reduceMul, Nat.reduceLeDiff, Nat.reduceLT, Int.reduceToNat, reduceIte, reduceCtorEq, Int.reduceEq, Int.reduceLT, Int.reduceLE, ↓avp_condG, ↓tf_arrow, ↓ft_arrow, d0, k_made_Picks_Step_made_Picks_Num.down, m_made_Picks_Num]
      refine num_any H4.refl' (by omega) fun m S4 hm0 hm1 I4 => ?_
      have H5 := H4.trans I4
      have f4d := I4.keep f4c n4
      have f5d := I4.keep f5c n5
      simp only [vP.down, vS.down, vE.down, Nat.reduceEqDiff, Nat.reduceAdd, Nat.reduceSub, Nat.reduceMul, Nat.reduceLeDiff, Nat.reduceLT, Int.reduceToNat, reduceIte, reduceCtorEq, Int.reduceEq, Int.reduceLT, Int.reduceLE, ↓avp_condG, ↓tf_arrow, ↓ft_arrow, f5d]
      exact step_end (gd_n (k := 20) (by simp) ⟨hm0, by omega⟩) (H5.box z5 n5) ((o4 _ _).trans f4d) (Store.set_same _ _ _) lv_nil nn z4 n4 n45 z5 n5 hq fun S' hF => wk_to hF (by simp only [vP.down, vS.down, vE.down, Nat.reduceEqDiff, Nat.reduceAdd, Nat.reduceSub, Nat.reduceMul, Nat.reduceLeDiff, Nat.reduceLT, Int.reduceToNat, reduceIte, reduceCtorEq, Int.reduceEq, Int.reduceLT, Int.reduceLE, ↓avp_condG, ↓tf_arrow, ↓ft_arrow, wP.down])
    · simp only [vP.down, vS.down, vE.down, Nat.reduceEqDiff, Nat.reduceAdd, Nat.reduceSub, Nat.reduceMul, Nat.reduceLeDiff, Nat.reduceLT, Int.reduceToNat, reduceIte, reduceCtorEq, Int.reduceEq, Int.reduceLT, Int.reduceLE, ↓avp_condG, ↓tf_arrow, ↓ft_arrow, d0, k_made_Picks_Step_made_Picks_Num.down, m_made_Picks_Num]
      refine num_any H4.refl' (by omega) fun m S4 hm0 hm1 I4 => ?_
      have H5 := H4.trans I4
      simp only [vP.down, vS.down, vE.down, Nat.reduceEqDiff, Nat.reduceAdd, Nat.reduceSub, Nat.reduceMul, Nat.reduceLeDiff, Nat.reduceLT, Int.reduceToNat, reduceIte, reduceCtorEq, Int.reduceEq, Int.reduceLT, Int.reduceLE, ↓avp_condG, ↓tf_arrow, ↓ft_arrow, k_made_Picks_Step_made_Picks_Num.down, m_made_Picks_Num]
      refine num_any H5.refl' (by omega) fun m2 S5 hm20 hm21 I5 => ?_
      have H6 := H5.trans I5
      simp only [vP.down, vS.down, vE.down, Nat.reduceEqDiff, Nat.reduceAdd, Nat.reduceSub, Nat.reduceMul, Nat.reduceLeDiff, Nat.reduceLT, Int.reduceToNat, reduceIte, reduceCtorEq, Int.reduceEq, Int.reduceLT, Int.reduceLE, ↓avp_condG, ↓tf_arrow, ↓ft_arrow, k_made_Picks_Step_made_Picks_Num.down, m_made_Picks_Num]
      refine num_any H6.refl' (by omega) fun m3 S6 hm30 hm31 I6 => ?_
      have H7 := H6.trans I6
      have f4d := I6.keep (I5.keep (I4.keep f4c n4) n4) n4
      have f5d := I6.keep (I5.keep (I4.keep f5c n5) n5) n5
      simp only [vP.down, vS.down, vE.down, Nat.reduceEqDiff, Nat.reduceAdd, Nat.reduceSub, Nat.reduceMul, Nat.reduceLeDiff, Nat.reduceLT, Int.reduceToNat, reduceIte, reduceCtorEq, Int.reduceEq, Int.reduceLT, Int.reduceLE, ↓avp_condG, ↓tf_arrow, ↓ft_arrow, f5d]
      exact step_end (gd_turn ⟨hm0, by omega⟩ ⟨hm20, by omega⟩ ⟨hm30, hm31⟩) (H7.box z5 n5) ((o4 _ _).trans f4d) (Store.set_same _ _ _) lv_nil nn z4 n4 n45 z5 n5 hq fun S' hF => wk_to hF (by simp only [vP.down, vS.down, vE.down, Nat.reduceEqDiff, Nat.reduceAdd, Nat.reduceSub, Nat.reduceMul, Nat.reduceLeDiff, Nat.reduceLT, Int.reduceToNat, reduceIte, reduceCtorEq, Int.reduceEq, Int.reduceLT, Int.reduceLE, ↓avp_condG, ↓tf_arrow, ↓ft_arrow, wP.down])
  by_cases c2 : c = 2
  case neg =>
    simp only [vP.down, vS.down, vE.down, Nat.reduceEqDiff, Nat.reduceAdd, Nat.reduceSub, Nat.reduceMul, Nat.reduceLeDiff, Nat.reduceLT, Int.reduceToNat, reduceIte, reduceCtorEq, Int.reduceEq, Int.reduceLT, Int.reduceLE, ↓avp_condG, ↓tf_arrow, ↓ft_arrow, c0, c1, c2, c3]
    exact step_end hx H3 f4b f5b (by rw [hk]; exact lv_nil) nn z4 n4 n45 z5 n5 hq fun S' hF => wk_to hF (by simp only [vP.down, vS.down, vE.down, Nat.reduceEqDiff, Nat.reduceAdd, Nat.reduceSub, Nat.reduceMul, Nat.reduceLeDiff, Nat.reduceLT, Int.reduceToNat, reduceIte, reduceCtorEq, Int.reduceEq, Int.reduceLT, Int.reduceLE, ↓avp_condG, ↓tf_arrow, ↓ft_arrow, wP.down])
  simp only [vP.down, vS.down, vE.down, Nat.reduceEqDiff, Nat.reduceAdd, Nat.reduceSub, Nat.reduceMul, Nat.reduceLeDiff, Nat.reduceLT, Int.reduceToNat, reduceIte, reduceCtorEq, Int.reduceEq, Int.reduceLT, Int.reduceLE, ↓avp_condG, ↓tf_arrow, ↓ft_arrow, c0, c1, c2, f5b, k_made_Picks_Step_made_Picks_Num.down, m_made_Picks_Num]
  have H3' := H3.box (e := some (stE ⟨21, 0, 0, 0, 0, [], [], [], []⟩ (.t .nilS))) z5 n5
  refine num_any H3'.refl' (by omega) fun n S3 hn0 hn1 I3 => ?_
  have H4 := H3'.trans I3
  have f4c := I3.keep ((o4 _ _).trans f4b) n4
  have f5c := I3.keep (Store.set_same _ _ _) n5
  refine loop_weak hm_made_Picks_Step (fun m σ => ∃ (k : Int) (v : AV) (ks : List Int) (S : Store), m = k.toNat ∧ 0 ≤ k ∧ k + (ks.length : Int) ≤ 20 ∧ (∀ j ∈ ks, 0 ≤ j ∧ j < 4) ∧ PkI s S g l ∧ S.f g4 = some (stE step0 (.t .nilS)) ∧ S.f g5 = some (stE ⟨21, 0, 0, 0, 0, [], [], [], ks⟩ v) ∧ LV S v ks ∧ (∀ k, s.f k ≠ none → Not v k) ∧
    σ = mkS [(0, .ptr g 0), (2, .ptr g4 0), (3, .ptr g5 0), (4, .t (.int .i64 k))] S)
    ⟨n, .t .nilS, [], S3, rfl, hn0, by simp; omega, by simp, H4, f4c, f5c, lv_nil, nn, rfl⟩ (wk_to fewer_refl (by simp only [vP.down, vS.down, vE.down, Nat.reduceEqDiff, Nat.reduceAdd, Nat.reduceSub, Nat.reduceMul, Nat.reduceLeDiff, Nat.reduceLT, Int.reduceToNat, reduceIte, reduceCtorEq, Int.reduceEq, Int.reduceLT, Int.reduceLE, ↓avp_condG, ↓tf_arrow, ↓ft_arrow, wP.down])) ?_
  rintro m _ ⟨k, v, ks, S, rfl, hk0, hk1, hks, H, f4, f5, hv, hvs, rfl⟩
  by_cases hlt : 0 < k
  case neg =>
    simp only [vP.down, vS.down, vE.down, Nat.reduceEqDiff, Nat.reduceAdd, Nat.reduceSub, Nat.reduceMul, Nat.reduceLeDiff, Nat.reduceLT, Int.reduceToNat, reduceIte, reduceCtorEq, Int.reduceEq, Int.reduceLT, Int.reduceLE, ↓avp_condG, ↓tf_arrow, ↓ft_arrow, hlt, gt_iff_lt]
    exact step_end (gd_keep hks (by omega)) H f4 f5 hv hvs z4 n4 n45 z5 n5 hq fun S' hF => wk_to hF (by simp only [vP.down, vS.down, vE.down, Nat.reduceEqDiff, Nat.reduceAdd, Nat.reduceSub, Nat.reduceMul, Nat.reduceLeDiff, Nat.reduceLT, Int.reduceToNat, reduceIte, reduceCtorEq, Int.reduceEq, Int.reduceLT, Int.reduceLE, ↓avp_condG, ↓tf_arrow, ↓ft_arrow, wP.down])
  have wk1 : IntKind.i64.wrap (k - 1) = k - 1 := IntWalk.i64_in _ (by omega)
  have hvg : Not v g := by
    obtain ⟨_, a, _⟩ := H
    exact hv.notbox a
  simp only [vP.down, vS.down, vE.down, Nat.reduceEqDiff, Nat.reduceAdd, Nat.reduceSub, Nat.reduceMul, Nat.reduceLeDiff, Nat.reduceLT, Int.reduceToNat, reduceIte, reduceCtorEq, Int.reduceEq, Int.reduceLT, Int.reduceLE, ↓avp_condG, ↓tf_arrow, ↓ft_arrow, hlt, gt_iff_lt, f5, k_made_Picks_Step_made_Picks_Num.down, m_made_Picks_Num]
  refine ⟨?_, ?_⟩
  all_goals
    refine num_any H.refl' (by omega) fun a S1 ha0 ha1 I1 => ?_
    have H1 := H.trans I1
    have f4a := I1.keep f4 n4
    have f5a := I1.keep f5 n5
    have hva := lv_stay hv hvg I1
    simp only [vP.down, vS.down, vE.down, Nat.reduceEqDiff, Nat.reduceAdd, Nat.reduceSub, Nat.reduceMul, Nat.reduceLeDiff, Nat.reduceLT, Int.reduceToNat, reduceIte, reduceCtorEq, Int.reduceEq, Int.reduceLT, Int.reduceLE, ↓avp_condG, ↓tf_arrow, ↓ft_arrow, f5a]
    intro g9 hg9
    refine append_new ty_Lint ty_int rfl (by decide) hva hg9 (shows_one (x := a) rfl rfl rfl) (by simp; omega) (by simp; omega) fun v' S2 hv' kp => ?_
    obtain ⟨k1, k2⟩ := kp _ _ f5a (hva.notbox f5a)
    obtain ⟨k3, k4⟩ := kp _ _ f4a (hva.notbox f4a)
    have hvs' : ∀ k, s.f k ≠ none → Not v' k := fun k hk => by
      cases hs : s.f k with
      | none => exact absurd hs hk
      | some e =>
        by_cases hkg : k = g
        · obtain ⟨n, a1, _⟩ := H1
          exact hkg ▸ (kp _ _ a1 (hva.notbox a1)).2
        · exact (kp _ _ (H1.keep hs hkg) (hvs k hk)).2
    have H2 : PkI s S2 g l := by
      obtain ⟨n, a1, b, c, d⟩ := H1
      exact ⟨n, (kp _ _ a1 (hva.notbox a1)).1, b, c, fun k e hk hs => (kp _ _ (d k e hk hs) (hvs k (by rw [hs]; simp))).1⟩
    simp only [vP.down, vS.down, vE.down, Nat.reduceEqDiff, Nat.reduceAdd, Nat.reduceSub, Nat.reduceMul, Nat.reduceLeDiff, Nat.reduceLT, Int.reduceToNat, reduceIte, reduceCtorEq, Int.reduceEq, Int.reduceLT, Int.reduceLE, ↓avp_condG, ↓tf_arrow, ↓ft_arrow, k1, hv'.cells, hv'.one]
    refine round_to (k - 1).toNat [(0, .ptr g 0), (2, .ptr g4 0), (3, .ptr g5 0), (4, .t (.int .i64 (k - 1)))] (S2.set g5 (some (stE ⟨21, 0, 0, 0, 0, [], [], [], ks ++ [a]⟩ v'))) (by omega) fewer_refl (by simp only [vP.down, vS.down, vE.down, Nat.reduceEqDiff, Nat.reduceAdd, Nat.reduceSub, Nat.reduceMul, Nat.reduceLeDiff, Nat.reduceLT, Int.reduceToNat, reduceIte, reduceCtorEq, Int.reduceEq, Int.reduceLT, Int.reduceLE, ↓avp_condG, ↓tf_arrow, ↓ft_arrow, wP.down, wk1])
      ⟨k - 1, v', ks ++ [a], _, rfl, by omega, by rw [List.length_append, List.length_singleton]; omega, fun j hj => ?_, H2.box z5 n5, (o4 _ _).trans k3, Store.set_same _ _ _, hv'.set k2, hvs', rfl⟩
    rcases List.mem_append.1 hj with hj | hj
    · exact hks j hj
    · obtain rfl : j = a := by simpa using hj
      exact ⟨ha0, ha1⟩
noncomputable def c_made_Picks_Step : Con := .gen m_made_Picks_Step F_made_Picks_Step
theorem ok_made_Picks_Step : COk Try.prog 18 c_made_Picks_Step := fn_gok sys_made_Picks_Step mixed Try.func18 (by kernel_rfl) geq_made_Picks_Step Try.ntmps18 (by rw [Try.results18]) mono_made_Picks_Step ex_made_Picks_Step body_made_Picks_Step
end Go.Proofs.Ythhgaeeeppipnaa


namespace Go.Proofs.Ythhgaeeeppipnaa
open Go Go.Eng
theorem step_any {s : Store} {g : Nat} {l : List Byt} {Q : AV → Store → Prop} (h : PkI s s g l) (hq : ∀ x S, good x = true → PkI s S g l → Q (.agg ((stT x).map .t)) S) : F_made_Picks_Step [.ptr g 0] s Q :=
  ⟨g, rfl, l, h, fun r S ⟨x, h1, e⟩ hS => by rw [e]; exact hq x S h1 hS⟩
def G_made_Picks_Over : GCode := .seq (.region [⟨(some 2), none, .assign (.const (.bool false))⟩]) (.seq (.region [⟨(some 3), none, .move (.tmp 0)⟩, ⟨(some 4), none, .nilCheck (.tmp 3)⟩, ⟨(some 5), none, .fieldAddr 58 (.tmp 4) 1⟩, ⟨(some 6), none, .load 3 (.tmp 5)⟩, ⟨(some 7), none, .move (.tmp 0)⟩, ⟨(some 8), none, .nilCheck (.tmp 7)⟩, ⟨(some 9), none, .fieldAddr 58 (.tmp 8) 0⟩, ⟨(some 10), none, .load 25 (.tmp 9)⟩, ⟨(some 11), none, .call ⟨.builtin .len, #[.tmp 10], #[25]⟩⟩, ⟨(some 12), none, .binOp .geq 3 (.tmp 6) (.tmp 11) 3⟩, ⟨(some 2), none, .assign (.tmp 12)⟩]) (.ret))
noncomputable def l_made_Picks_Over : List (Nat × Con) := []
noncomputable abbrev K_made_Picks_Over : Ctx := ctx (cl l_made_Picks_Over)
theorem geq_made_Picks_Over : gof K_made_Picks_Over Try.f17 = some G_made_Picks_Over.strip := by kernel_rfl
theorem sys_made_Picks_Over : Go.Eng.Sys Try.prog K_made_Picks_Over := sys_of' (l := []) trivial
theorem hm_made_Picks_Over : ConMono K_made_Picks_Over := conMono_of sys_made_Picks_Over.con
def m_made_Picks_Over : List Bool := [true]
def F_made_Picks_Over (xs : List AV) (s : Store) (Q : AV → Store → Prop) : Prop := ∃ g l, xs = [.ptr g 0] ∧ PkI s s g l ∧ ∀ b : Bool, Q (.t (.bool b)) s
theorem mono_made_Picks_Over (xs : List AV) (s : Store) (Q Q' : AV → Store → Prop) (hq : ∀ r t, Q r t → Q' r t) : F_made_Picks_Over xs s Q → F_made_Picks_Over xs s Q' := fun ⟨g, l, a, b, c⟩ => ⟨g, l, a, b, fun x => hq _ _ (c x)⟩
theorem ex_made_Picks_Over (xs : List AV) (s : Store) (Q : AV → Store → Prop) : F_made_Picks_Over xs s Q → ∃ r t, Q r t := fun ⟨_, _, _, _, c⟩ => ⟨_, _, c true⟩
theorem body_made_Picks_Over (xs : List AV) (s : Store) (Q : AV → Store → Prop) (h : F_made_Picks_Over xs s Q) : xs.length ≤ 13 ∧ avp K_made_Picks_Over G_made_Picks_Over (Ret K_made_Picks_Over [.tmp 2] fun r s' => ∃ s'', Sub s'' s' ∧ Q r s'') (entry xs s) := by
  obtain ⟨g, l, rfl, ⟨n, a, b, c, d⟩, hq⟩ := h
  refine ⟨by simp, ?_⟩
  unfold pkE at a
  unfold G_made_Picks_Over
  simp only [vP.down, vS.down, vE.down, Nat.reduceEqDiff, Nat.reduceAdd, Nat.reduceSub, Nat.reduceMul, Nat.reduceLeDiff, Nat.reduceLT, Int.reduceToNat, reduceIte, reduceCtorEq, Int.reduceEq, Int.reduceLT, Int.reduceLE, ↓avp_condG, ↓tf_arrow, ↓ft_arrow, a]
  simp only [vP.down, vS.down, vE.down, Nat.reduceEqDiff, Nat.reduceAdd, Nat.reduceSub, Nat.reduceMul, Nat.reduceLeDiff, Nat.reduceLT, Int.reduceToNat, reduceIte, reduceCtorEq, Int.reduceEq, Int.reduceLT, Int.reduceLE, ↓avp_condG, ↓tf_arrow, ↓ft_arrow, vT.down]
  exact ⟨s, fun _ _ h => h, hq _⟩
noncomputable def c_made_Picks_Over : Con := .gen m_made_Picks_Over F_made_Picks_Over
theorem ok_made_Picks_Over : COk Try.prog 17 c_made_Picks_Over := fn_gok sys_made_Picks_Over mixed Try.func17 (by kernel_rfl) geq_made_Picks_Over Try.ntmps17 (by rw [Try.results17]) mono_made_Picks_Over ex_made_Picks_Over body_made_Picks_Over
def G_law25_made : GCode := .seq (.region [⟨(some 4), none, .assign (.const (.slice none 0 0))⟩]) (.seq (.region [⟨(some 8), none, .move (.tmp 0)⟩, ⟨(some 9), none, .call ⟨.value (.func 16), #[.tmp 8], #[25]⟩⟩, ⟨(some 5), none, .assign (.tmp 9)⟩]) (.seq (.region [⟨(some 6), none, .assign (.const (.slice none 0 0))⟩]) (.seq (.seq (.region [⟨(some 7), none, .assign (.const (.int .i64 0))⟩]) (.block 0 (.loop (.seq .weak (.seq (.seq (.region [⟨(some 10), none, .move (.tmp 7)⟩, ⟨(some 11), none, .move (.tmp 1)⟩, ⟨(some 12), none, .binOp .lss 3 (.tmp 10) (.tmp 11) 3⟩, ⟨(some 13), none, .move (.tmp 12)⟩, ⟨(some 14), (some (13, true)), .move (.tmp 5)⟩, ⟨(some 15), (some (13, true)), .call ⟨.value (.func 17), #[.tmp 14], #[40]⟩⟩, ⟨(some 16), (some (13, true)), .unOp .not 4 (.tmp 15)⟩, ⟨(some 17), none, .pick (.tmp 13) (.tmp 16) (.const (.bool false))⟩]) (.cond (.tmp 17) (.skip) (.exit 0))) (.seq (.block 1 (.region [⟨(some 20), none, .move (.tmp 6)⟩, ⟨(some 21), none, .move (.tmp 5)⟩, ⟨(some 22), none, .call ⟨.value (.func 18), #[.tmp 21], #[40]⟩⟩, ⟨(some 23), none, .buildSlice 27 1 #[(0, .tmp 22)]⟩, ⟨(some 24), none, .call ⟨.builtin .append, #[.tmp 20, .tmp 23], #[27, 27]⟩⟩, ⟨(some 6), none, .assign (.tmp 24)⟩])) (.region [⟨(some 18), none, .move (.tmp 7)⟩, ⟨(some 19), none, .binOp .add 3 (.tmp 18) (.const (.int .i64 1)) 3⟩, ⟨(some 7), none, .assign (.tmp 19)⟩]))))))) (.seq (.region [⟨(some 25), none, .move (.tmp 6)⟩, ⟨(some 4), none, .assign (.tmp 25)⟩]) (.ret)))))
noncomputable def l_law25_made : List (Nat × Con) := [(16, c_made_Made), (17, c_made_Picks_Over), (18, c_made_Picks_Step)]
noncomputable abbrev K_law25_made : Ctx := ctx (cl l_law25_made)
theorem geq_law25_made : gof K_law25_made Try.f9 = some G_law25_made.strip := by kernel_rfl
theorem sys_law25_made : Go.Eng.Sys Try.prog K_law25_made := sys_of' ⟨ok_made_Made, ok_made_Picks_Over, ok_made_Picks_Step, trivial⟩
theorem hm_law25_made : ConMono K_law25_made := conMono_of sys_law25_made.con
noncomputable def k_law25_made_made_Made := PLift.up (call_new (C := K_law25_made) (f := 16) (c := q_made_Made) (e := e_made_Made) (mk := mk_made_Made) rfl)
noncomputable def k_law25_made_made_Picks_Over := PLift.up (call_gen (C := K_law25_made) (f := 17) (modes := m_made_Picks_Over) (F := F_made_Picks_Over) rfl)
noncomputable def k_law25_made_made_Picks_Step := PLift.up (call_gen (C := K_law25_made) (f := 18) (modes := m_made_Picks_Step) (F := F_made_Picks_Step) rfl)
def m_law25_made : List Bool := [false, false]
/-- So many good steps at most, whatever they are. -/
def F_law25_made (xs : List AV) (s : Store) (Q : AV → Store → Prop) : Prop := ∃ (l : List Byt) (m : Int), xs = [.t (sl l), .t (.int .i64 m)] ∧ l.length ≤ 1099511627776 ∧ 0 ≤ m ∧ m ≤ 1000 ∧
  ∀ v S (L : List TStep), LV S v L → L.all good = true → (L.length : Int) ≤ m → (∀ k e, s.f k = some e → S.f k = some e ∧ Not v k) → Q v S
theorem mono_law25_made (xs : List AV) (s : Store) (Q Q' : AV → Store → Prop) (hq : ∀ r t, Q r t → Q' r t) : F_law25_made xs s Q → F_law25_made xs s Q' := fun ⟨l, m, a, b, c, d, e⟩ => ⟨l, m, a, b, c, d, fun v S L h1 h2 h3 h4 => hq _ _ (e v S L h1 h2 h3 h4)⟩
theorem ex_law25_made (xs : List AV) (s : Store) (Q : AV → Store → Prop) : F_law25_made xs s Q → ∃ r t, Q r t := fun ⟨_, _, _, _, c, _, e⟩ => ⟨_, _, e (.t .nilS) s [] lv_nil rfl c fun _ _ h => ⟨h, not_t⟩⟩
set_option maxRecDepth 10000 in
set_option maxHeartbeats 4000000 in
theorem body_law25_made (xs : List AV) (s : Store) (Q : AV → Store → Prop) (h : F_law25_made xs s Q) : xs.length ≤ 26 ∧ avp K_law25_made G_law25_made (Ret K_law25_made [.tmp 4] fun r s' => ∃ s'', Sub s'' s' ∧ Q r s'') (entry xs s) := by
  obtain ⟨l, m, rfl, hl, hm, hm2, hq⟩ := h
  refine ⟨by simp, ?_⟩
  unfold G_law25_made
  simp only [vP.down, vS.down, vE.down, Nat.reduceEqDiff, Nat.reduceAdd, Nat.reduceSub, Nat.reduceMul, Nat.reduceLeDiff, Nat.reduceLT, Int.reduceToNat, reduceIte, reduceCtorEq, Int.reduceEq, Int.reduceLT, Int.reduceLE, ↓avp_condG, ↓tf_arrow, ↓ft_arrow, k_law25_made_made_Made.down, q_made_Made, e_made_Made, mk_made_Made]
  refine ⟨⟨l, rfl⟩, fun g hg => ?_⟩
  have H0 : PkI s (s.set g (some (pkE l 0))) g l := ⟨0, Store.set_same _ _ _, Nat.zero_le _, hl, fun k e hk hs => by rw [Store.set_other _ _ hk]; exact hs⟩
  refine loop_weak hm_law25_made (fun k σ => ∃ (i : Nat) (v : AV) (L : List TStep) (S : Store), k = m.toNat - i ∧ (i : Int) ≤ m ∧ L.length ≤ i ∧ L.all good = true ∧ LV S v L ∧ PkI s S g l ∧ (∀ k e, s.f k = some e → Not v k) ∧
    σ = mkS [(1, .t (.int .i64 m)), (5, .ptr g 0), (6, v), (7, .t (.int .i64 (i : Nat)))] S)
    ⟨0, .t .nilS, [], _, rfl, hm, Nat.le_refl _, rfl, lv_nil, H0, fun _ _ _ => not_t, rfl⟩ (wk_to fewer_refl (by simp only [vP.down, vS.down, vE.down, Nat.reduceEqDiff, Nat.reduceAdd, Nat.reduceSub, Nat.reduceMul, Nat.reduceLeDiff, Nat.reduceLT, Int.reduceToNat, reduceIte, reduceCtorEq, Int.reduceEq, Int.reduceLT, Int.reduceLE, ↓avp_condG, ↓tf_arrow, ↓ft_arrow, wP.down, Int.natCast_zero])) ?_
  rintro k _ ⟨i, v, L, S, rfl, hi, hL, hgd, hv, H, hvs, rfl⟩
  have hi1 : IntKind.i64.wrap ((i : Int) + 1) = ((i + 1 : Nat) : Int) := by rw [IntWalk.i64_in _ (by omega)]; rfl
  have hend : ∃ s'', Sub s'' S ∧ Q v s'' := ⟨S, fun _ _ h => h, hq v S L hv hgd (by omega) fun k e hs => ⟨H.keep hs (fun hh => by rw [hh, hg] at hs; cases hs), hvs k e hs⟩⟩
  by_cases hlt : (i : Int) < m
  case neg =>
    simp only [vP.down, vS.down, vE.down, Nat.reduceEqDiff, Nat.reduceAdd, Nat.reduceSub, Nat.reduceMul, Nat.reduceLeDiff, Nat.reduceLT, Int.reduceToNat, reduceIte, reduceCtorEq, Int.reduceEq, Int.reduceLT, Int.reduceLE, ↓avp_condG, ↓tf_arrow, ↓ft_arrow, hlt, pick_of, pick_ot, k_law25_made_made_Picks_Over.down, m_made_Picks_Over]
    simp only [vP.down, vS.down, vE.down, Nat.reduceEqDiff, Nat.reduceAdd, Nat.reduceSub, Nat.reduceMul, Nat.reduceLeDiff, Nat.reduceLT, Int.reduceToNat, reduceIte, reduceCtorEq, Int.reduceEq, Int.reduceLT, Int.reduceLE, ↓avp_condG, ↓tf_arrow, ↓ft_arrow, vT.down]
    exact hend
  simp only [vP.down, vS.down, vE.down, Nat.reduceEqDiff, Nat.reduceAdd, Nat.reduceSub, Nat.reduceMul, Nat.reduceLeDiff, Nat.reduceLT, Int.reduceToNat, reduceIte, reduceCtorEq, Int.reduceEq, Int.reduceLT, Int.reduceLE, ↓avp_condG, ↓tf_arrow, ↓ft_arrow, hlt, k_law25_made_made_Picks_Over.down, m_made_Picks_Over]
  refine ⟨g, l, rfl, H.refl', fun b => ?_⟩
  cases b with
  | true =>
    simp only [vP.down, vS.down, vE.down, Nat.reduceEqDiff, Nat.reduceAdd, Nat.reduceSub, Nat.reduceMul, Nat.reduceLeDiff, Nat.reduceLT, Int.reduceToNat, reduceIte, reduceCtorEq, Int.reduceEq, Int.reduceLT, Int.reduceLE, ↓avp_condG, ↓tf_arrow, ↓ft_arrow]
    simp only [vP.down, vS.down, vE.down, Nat.reduceEqDiff, Nat.reduceAdd, Nat.reduceSub, Nat.reduceMul, Nat.reduceLeDiff, Nat.reduceLT, Int.reduceToNat, reduceIte, reduceCtorEq, Int.reduceEq, Int.reduceLT, Int.reduceLE, ↓avp_condG, ↓tf_arrow, ↓ft_arrow, vT.down]
    exact hend
  | false =>
    simp only [vP.down, vS.down, vE.down, Nat.reduceEqDiff, Nat.reduceAdd, Nat.reduceSub, Nat.reduceMul, Nat.reduceLeDiff, Nat.reduceLT, Int.reduceToNat, reduceIte, reduceCtorEq, Int.reduceEq, Int.reduceLT, Int.reduceLE, ↓avp_condG, ↓tf_arrow, ↓ft_arrow, k_law25_made_made_Picks_Step.down, m_made_Picks_Step]
    refine step_any H.refl' fun x S1 hx I1 => ?_
    have H1 := H.trans I1
    have hvg : Not v g := by
      obtain ⟨_, a, _⟩ := H
      exact hv.notbox a
    have hva : LV S1 v L := hv.stay fun j hj ⟨ro, hf⟩ => ⟨ro, I1.keep hf fun e => hj (e ▸ hvg)⟩
    unfold stT
    simp only [vP.down, vS.down, vE.down, Nat.reduceEqDiff, Nat.reduceAdd, Nat.reduceSub, Nat.reduceMul, Nat.reduceLeDiff, Nat.reduceLT, Int.reduceToNat, reduceIte, reduceCtorEq, Int.reduceEq, Int.reduceLT, Int.reduceLE, ↓avp_condG, ↓tf_arrow, ↓ft_arrow]
    intro g9 hg9
    refine append_new ty_Lapi_Step ty_api_Step rfl (by decide) hva hg9 (shows_one (x := x) rfl rfl rfl) (by simp; omega) (by simp; omega) fun v' S2 hv' kp => ?_
    have H2 : PkI s S2 g l := by
      obtain ⟨n, a1, b, c, d⟩ := H1
      exact ⟨n, (kp _ _ a1 (hva.notbox a1)).1, b, c, fun k e hk hs => (kp _ _ (d k e hk hs) (hvs k e hs)).1⟩
    have hvs' : ∀ k e, s.f k = some e → Not v' k := fun k e hs => (kp _ _ (H1.keep hs (fun hh => by rw [hh, hg] at hs; cases hs)) (hvs k e hs)).2
    exact round_to (m.toNat - (i + 1)) [(1, .t (.int .i64 m)), (5, .ptr g 0), (6, v'), (7, .t (.int .i64 (i + 1 : Nat)))] S2 (by omega) fewer_refl (by simp only [vP.down, vS.down, vE.down, Nat.reduceEqDiff, Nat.reduceAdd, Nat.reduceSub, Nat.reduceMul, Nat.reduceLeDiff, Nat.reduceLT, Int.reduceToNat, reduceIte, reduceCtorEq, Int.reduceEq, Int.reduceLT, Int.reduceLE, ↓avp_condG, ↓tf_arrow, ↓ft_arrow, wP.down, hi1])
      ⟨i + 1, v', L ++ [x], S2, rfl, by omega, by rw [List.length_append, List.length_singleton]; omega, by rw [List.all_append, hgd, List.all_cons, hx]; rfl, hv', H2, hvs', rfl⟩
noncomputable def c_law25_made : Con := .gen m_law25_made F_law25_made
theorem ok_law25_made : COk Try.prog 9 c_law25_made := fn_gok sys_law25_made mixed Try.func9 (by kernel_rfl) geq_law25_made Try.ntmps9 (by rw [Try.results9]) mono_law25_made ex_law25_made body_law25_made
end Go.Proofs.Ythhgaeeeppipnaa


namespace Go.Proofs.Ythhgaeeeppipnaa
open Go Go.Eng
theorem takeS_len : ∀ (n : Nat) (b : List UInt8), b.length ≤ n → (takeS b).length ≤ b.length
  | 0, b, h => by
    obtain rfl := List.length_eq_zero_iff.1 (Nat.le_zero.1 h)
    exact Nat.le_refl _
  | n + 1, b, h => by
    by_cases hb : b = []
    · subst hb; exact Nat.le_refl _
    rw [takeS_step hb]
    by_cases hk : (takenS b).2.2 = true
    · have h1 := (takenS_ok (trip hk)).1
      have := takeS_len n (takenS b).2.1 (by omega)
      rw [if_pos hk]
      split
      · rw [List.length_cons]; omega
      · omega
    · rw [if_neg hk]; exact Nat.zero_le _
theorem good_small {x : TStep} (h : good x = true) : smallS x := by
  obtain ⟨_, _, ⟨a, b, c, d⟩, _⟩ := good_of h
  exact ⟨by omega, by omega, by omega, by omega⟩
def G_law25_OpsTaken : GCode := .seq (.region [⟨(some 4), none, .assign (.const (.bool false))⟩]) (.seq (.seq (.region [⟨(some 7), none, .call ⟨.value (.func 8), #[], #[]⟩⟩, ⟨(some 8), none, .unOp .not 4 (.tmp 7)⟩]) (.cond (.tmp 8) (.seq (.region [⟨(some 4), none, .assign (.const (.bool false))⟩]) (.ret)) (.skip))) (.seq (.seq (.region [⟨(some 9), none, .move (.tmp 0)⟩, ⟨(some 10), none, .call ⟨.builtin .len, #[.tmp 9], #[9]⟩⟩, ⟨(some 11), none, .binOp .gtr 3 (.tmp 10) (.const (.int .i64 200)) 3⟩]) (.cond (.tmp 11) (.seq (.region [⟨(some 4), none, .assign (.const (.bool true))⟩]) (.ret)) (.skip))) (.seq (.region [⟨(some 12), none, .move (.tmp 0)⟩, ⟨(some 13), none, .call ⟨.value (.func 13), #[.tmp 12], #[9]⟩⟩, ⟨(some 5), none, .assign (.tmp 13)⟩]) (.seq (.region [⟨(some 14), none, .move (.tmp 5)⟩, ⟨(some 15), none, .call ⟨.value (.func 10), #[.tmp 14], #[27]⟩⟩, ⟨(some 6), none, .assign (.tmp 15)⟩]) (.seq (.region [⟨(some 16), none, .move (.tmp 6)⟩, ⟨(some 17), none, .call ⟨.builtin .len, #[.tmp 16], #[9]⟩⟩, ⟨(some 18), none, .move (.tmp 0)⟩, ⟨(some 19), none, .call ⟨.builtin .len, #[.tmp 18], #[9]⟩⟩, ⟨(some 20), none, .binOp .leq 3 (.tmp 17) (.tmp 19) 3⟩, ⟨(some 21), none, .move (.tmp 20)⟩, ⟨(some 22), (some (21, true)), .move (.tmp 6)⟩, ⟨(some 23), (some (21, true)), .call ⟨.value (.func 13), #[.tmp 22], #[9]⟩⟩, ⟨(some 24), (some (21, true)), .move (.tmp 5)⟩, ⟨(some 25), (some (21, true)), .call ⟨.value (.func 12), #[.tmp 23, .tmp 24], #[27, 27]⟩⟩, ⟨(some 26), none, .pick (.tmp 21) (.tmp 25) (.const (.bool false))⟩, ⟨(some 27), none, .move (.tmp 26)⟩, ⟨(some 28), (some (27, true)), .move (.tmp 1)⟩, ⟨(some 29), (some (27, true)), .binOp .rem 5 (.tmp 28) (.const (.int .u8 40)) 5⟩, ⟨(some 30), (some (27, true)), .convert 5 3 (.tmp 29)⟩, ⟨(some 31), (some (27, true)), .makeSlice 25 (.tmp 30) (.tmp 30)⟩, ⟨(some 32), (some (27, true)), .convert 25 9 (.tmp 31)⟩, ⟨(some 33), (some (27, true)), .move (.tmp 0)⟩, ⟨(some 34), (some (27, true)), .binOp .add 9 (.tmp 32) (.tmp 33) 9⟩, ⟨(some 35), (some (27, true)), .call ⟨.value (.func 13), #[.tmp 34], #[9]⟩⟩, ⟨(some 36), (some (27, true)), .move (.tmp 5)⟩, ⟨(some 37), (some (27, true)), .call ⟨.value (.func 12), #[.tmp 35, .tmp 36], #[27, 27]⟩⟩, ⟨(some 38), none, .pick (.tmp 27) (.tmp 37) (.const (.bool false))⟩, ⟨(some 39), none, .move (.tmp 38)⟩, ⟨(some 40), (some (39, true)), .move (.tmp 6)⟩, ⟨(some 41), (some (39, true)), .call ⟨.value (.func 13), #[.tmp 40], #[9]⟩⟩, ⟨(some 42), (some (39, true)), .call ⟨.value (.func 10), #[.tmp 41], #[27]⟩⟩, ⟨(some 43), (some (39, true)), .move (.tmp 6)⟩, ⟨(some 44), (some (39, true)), .binOp .eql 9 (.tmp 42) (.tmp 43) 9⟩, ⟨(some 45), none, .pick (.tmp 39) (.tmp 44) (.const (.bool false))⟩, ⟨(some 4), none, .assign (.tmp 45)⟩]) (.ret))))))
noncomputable def l_law25_OpsTaken : List (Nat × Con) := [(8, c_law25_begun), (13, c_ops_Take), (10, c_ops_Put), (12, c_ref25_SameSteps)]
noncomputable abbrev K_law25_OpsTaken : Ctx := ctx (cl l_law25_OpsTaken)
theorem geq_law25_OpsTaken : gof K_law25_OpsTaken Try.f5 = some G_law25_OpsTaken.strip := by kernel_rfl
theorem sys_law25_OpsTaken : Go.Eng.Sys Try.prog K_law25_OpsTaken := sys_of' ⟨ok_law25_begun, ok_ops_Take, ok_ops_Put, ok_ref25_SameSteps, trivial⟩
theorem hm_law25_OpsTaken : ConMono K_law25_OpsTaken := conMono_of sys_law25_OpsTaken.con
noncomputable def k_law25_OpsTaken_law25_begun := PLift.up (call_scal (C := K_law25_OpsTaken) (f := 8) (A := A_law25_begun) (p := p_law25_begun) (r := r_law25_begun) rfl)
noncomputable def k_law25_OpsTaken_ops_Take := PLift.up (call_fn (C := K_law25_OpsTaken) (f := 13) (A := A_ops_Take) (p := p_ops_Take) (r := r_ops_Take) rfl)
noncomputable def k_law25_OpsTaken_ops_Put := PLift.up (call_scal (C := K_law25_OpsTaken) (f := 10) (A := A_ops_Put) (p := p_ops_Put) (r := r_ops_Put) rfl)
noncomputable def k_law25_OpsTaken_ref25_SameSteps := PLift.up (call_scal (C := K_law25_OpsTaken) (f := 12) (A := A_ref25_SameSteps) (p := p_ref25_SameSteps) (r := r_ref25_SameSteps) rfl)
noncomputable def A_law25_OpsTaken : Arms ((List UInt8) × Byt × Unit) := Arms.cons (argT (List UInt8)) (Arms.cons (argT Byt) (Arms.nil))
def p_law25_OpsTaken (x : (List UInt8) × Byt × Unit) : Prop := (goodStr x.1) ∧ (goodAny x.2.1) ∧ goodAny (x.2.2)
abbrev r_law25_OpsTaken (x : (List UInt8) × Byt × Unit) : AV := rTrue x
theorem rd_law25_OpsTaken : ReadsA Try.prog [9, 5] A_law25_OpsTaken p_law25_OpsTaken := (readsA_T (reads_str Try.underlying9) (by kernel_rfl) (readsA_T (reads_u8 Try.underlying5) (by kernel_rfl) readsA_nil))
set_option maxRecDepth 100000 in
set_option maxHeartbeats 4000000 in
theorem body_law25_OpsTaken (x) (hx : p_law25_OpsTaken x) : avp K_law25_OpsTaken G_law25_OpsTaken (Ret K_law25_OpsTaken [.tmp 4] fun v _ => v = r_law25_OpsTaken x) (entry (A_law25_OpsTaken.enc x) .empty) := by
  obtain ⟨s, n, ⟨⟩⟩ := x
  change avp _ _ (Ret _ _ fun v _ => v = .t (.bool true)) (entry [.t (.str s), .t (.int .u8 (n.v.toNat : Int))] .empty)
  unfold G_law25_OpsTaken
  by_cases hl : (200 : Int) < (s.length : Int)
  · simp only [vP.down, vS.down, vE.down, Nat.reduceEqDiff, Nat.reduceAdd, Nat.reduceSub, Nat.reduceMul, Nat.reduceLeDiff, Nat.reduceLT, Int.reduceToNat, reduceIte, reduceCtorEq, Int.reduceEq, Int.reduceLT, Int.reduceLE, ↓avp_condG, ↓tf_arrow, ↓ft_arrow, k_law25_OpsTaken_law25_begun.down, A_law25_begun, p_law25_begun, r_law25_begun, hl, gt_iff_lt]
    simp only [vP.down, vS.down, vE.down, Nat.reduceEqDiff, Nat.reduceAdd, Nat.reduceSub, Nat.reduceMul, Nat.reduceLeDiff, Nat.reduceLT, Int.reduceToNat, reduceIte, reduceCtorEq, Int.reduceEq, Int.reduceLT, Int.reduceLE, ↓avp_condG, ↓tf_arrow, ↓ft_arrow, vT.down]
  obtain ⟨l, hL⟩ : ∃ l, l = takeS s := ⟨_, rfl⟩
  obtain ⟨hg, ht⟩ := takeS_good _ s (Nat.le_refl _)
  rw [← hL] at hg ht
  have hll := takeS_len _ s (Nat.le_refl _)
  rw [← hL] at hll
  have hb := takeS_back hg
  obtain ⟨t, hT⟩ : ∃ t, t = putL l := ⟨_, rfl⟩
  rw [← hT] at ht hb
  have hm : ∀ y ∈ l, good y = true := List.all_eq_true.1 hg
  have q1 : (∀ y ∈ l, smallS y) = True := by simp only [eq_iff_iff, iff_true]; exact fun y hy => good_small (hm y hy)
  have q2 : (∀ y ∈ l, y.Keep.length ≤ 1099511627776) = True := by simp only [eq_iff_iff, iff_true]; exact fun y hy => by have := (good_of (hm y hy)).2.2.1.2.2.2; omega
  have h1 : s.length ≤ 1099511627776 := by omega
  have h2 : t.length ≤ 1099511627776 := by omega
  have h3 : l.length ≤ 1048576 := by omega
  have h4 : (t.length : Int) ≤ (s.length : Int) := by omega
  have h5 : l.length ≤ 1099511627776 := by omega
  obtain ⟨k, hk⟩ : ∃ k : Nat, k = n.v.toNat % 40 := ⟨_, rfl⟩
  have hrem : (n.v.toNat : Int).tmod 40 = (k : Int) := by rw [Int.tmod_eq_emod_of_nonneg (by omega)]; omega
  have hwr : IntKind.i64.wrap (k : Int) = (k : Int) := IntWalk.i64_in _ (by omega)
  have hmk := madeB_sl (k := .i64) (k' := .i64) (l := (k : Int)) (c := (k : Int)) (C := K_law25_OpsTaken) ty_Luint8 ty_uint8
  have hrep : u8s? (List.replicate k [TV.int .u8 0]) = some (List.replicate k 0) := by
    clear hk hrem hwr hmk
    induction k with
    | zero => rfl
    | succ k ih => rw [List.replicate_succ, u8s?, ih]; rfl
  have hz := takeS_zeros k s
  have hcv : convB K_law25_OpsTaken Store.empty 25 9 (.t (.seq 1 (List.replicate k [TV.int .u8 0]))) = .val True (.t (.str (List.replicate k 0))) := by simp [convB, ty_Luint8, ty_uint8, ty_string, hrep]
  have hzl : (List.replicate k (0 : UInt8) ++ s).length ≤ 1099511627776 := by rw [List.length_append, List.length_replicate]; omega
  simp only [vP.down, vS.down, vE.down, Nat.reduceEqDiff, Nat.reduceAdd, Nat.reduceSub, Nat.reduceMul, Nat.reduceLeDiff, Nat.reduceLT, Int.reduceToNat, reduceIte, reduceCtorEq, Int.reduceEq, Int.reduceLT, Int.reduceLE, ↓avp_condG, ↓tf_arrow, ↓ft_arrow, k_law25_OpsTaken_law25_begun.down, A_law25_begun, p_law25_begun, r_law25_begun, hl, gt_iff_lt, k_law25_OpsTaken_ops_Take.down, A_ops_Take, p_ops_Take, r_ops_Take, k_law25_OpsTaken_ops_Put.down, A_ops_Put, p_ops_Put, r_ops_Put, k_law25_OpsTaken_ref25_SameSteps.down, A_ref25_SameSteps, p_ref25_SameSteps, r_ref25_SameSteps, ← hL, ← hT, hb, q1, q2, h1, h2, h3, h4, h5, og_makeSlice, hrem, hwr, hmk, hcv, hz, hzl, List.length_replicate]
  refine ⟨⟨by omega, by omega, by omega, by omega⟩, by omega, ?_⟩
  simp only [vP.down, vS.down, vE.down, Nat.reduceEqDiff, Nat.reduceAdd, Nat.reduceSub, Nat.reduceMul, Nat.reduceLeDiff, Nat.reduceLT, Int.reduceToNat, reduceIte, reduceCtorEq, Int.reduceEq, Int.reduceLT, Int.reduceLE, ↓avp_condG, ↓tf_arrow, ↓ft_arrow, vT.down]
noncomputable def c_law25_OpsTaken : Con := fnScal A_law25_OpsTaken p_law25_OpsTaken r_law25_OpsTaken
theorem ok_law25_OpsTaken : COk Try.prog 5 c_law25_OpsTaken := fn_sok sys_law25_OpsTaken mixed Try.func5 (by kernel_rfl) geq_law25_OpsTaken Try.ntmps5 (by rw [Try.results5]) (fun x => by simp [rTrue, AV.scal]) fun x hx => ⟨Nat.le_of_ble_eq_true rfl, body_law25_OpsTaken x hx⟩
theorem says_law25_OpsTaken : SaysTrue Rows.opsTakenSpec 2 := ⟨rfl, fun H ds h => by
  match ds, h with
  | [d0, d1], _ => exact ⟨rfl, rfl, rfl⟩⟩
set_option maxRecDepth 100000 in
theorem lifted_law25_OpsTaken (os : Os) (started : os.Started) (H : Type) (enc : TypeId × Value → H) :
    ReturnsInHanded {} Try.checked os 5 .any (Rows.opsTakenSpec.pre6 enc Try.prog Try.f5 Rows.opsTakenRow.domain false) (Rows.opsTakenSpec.post enc Try.prog Try.f5 false true false false) := by
  refine returnsInHanded_of_change (C := Try.checked) own started (by kernel_rfl) Try.func5
    (ChangeSpec.witness6 (enc := enc) (C := Try.checked) false ⟨#[], #[.string ⟨#[]⟩, .int .u8 0], []⟩ 8 (by kernel_rfl) (by kernel_rfl) (by kernel_rfl) (by kernel_rfl)) ?_
  intro W base args ds gs before hval hW _ _
  exact law_contract (ts := [9, 5]) (tb := 4) ok_law25_OpsTaken (by rw [Try.params5]) (by kernel_rfl) Try.underlying4 laid (by kernel_rfl) rd_law25_OpsTaken (fun _ h => h) says_law25_OpsTaken H enc W base args ds gs before hval hW
theorem over_law25_OpsTaken : Rows.opsTakenRow.holds Try.pinned (OpenSpec.ofChange Rows.opsTakenSpec) :=
  OpenClaim.holds_of_wide 5 Try.f5 rfl rfl rfl rfl rfl rfl rfl ⟨rfl, rfl, rfl, rfl, rfl⟩ rfl rfl rfl rfl rfl (by kernel_rfl) Try.func5 (by kernel_rfl)
    (of_decide_eq_true (by kernel_rfl)) (by unfold Func.isWrapper; first | (rw [if_pos (by decide +kernel)]; kernel_rfl) | (rw [if_neg (by decide +kernel)]; exact ⟨rfl, rfl⟩))
    (fun os started H enc _ => lifted_law25_OpsTaken os started H enc)
theorem opsTaken_holds : Rows.OpsTakenSaid := over_law25_OpsTaken
end Go.Proofs.Ythhgaeeeppipnaa


namespace Go.Proofs.Ythhgaeeeppipnaa
open Go Go.Eng
theorem made_any {s : Store} {l : List Byt} {m : Int} {Q : AV → Store → Prop} (hl : l.length ≤ 1099511627776) (h0 : 0 ≤ m) (h1 : m ≤ 1000) (hq : ∀ v S (L : List TStep), LV S v L → L.all good = true → (L.length : Int) ≤ m → (∀ k e, s.f k = some e → S.f k = some e ∧ Not v k) → Q v S) : F_law25_made [.t (sl l), .t (.int .i64 m)] s Q := ⟨l, m, rfl, hl, h0, h1, hq⟩
theorem hd_one {x : TStep} : (argT (List TStep)).dec (.t (.seq 9 [[.int .i64 x.Kind, .int .i64 x.ID, .int .i64 x.N, .int .i64 x.M, .int .i64 x.By, .str x.Path, .str x.To, .str x.Text, sl x.Keep]])) = some [x] := argT_sl (l := [x])
theorem putL_one {x : TStep} (h : good x = true) : putL [x] = putB x := by rw [putL_cons, putOne_good, if_pos h]; exact List.append_nil _
theorem takeS_one {x : TStep} (h : good x = true) : takeS (putB x) = [x] := by
  have := takeS_put h []
  rwa [List.append_nil, takeS_nil] at this
theorem putB_len {x : TStep} (h : good x = true) : (putB x).length ≤ 2000 := by
  have := putOne_len x
  rwa [putOne_good, if_pos h] at this
def G_law25_OpsBack : GCode := .seq (.region [⟨(some 2), none, .assign (.const (.bool false))⟩]) (.seq (.seq (.region [⟨(some 8), none, .call ⟨.value (.func 8), #[], #[]⟩⟩, ⟨(some 9), none, .unOp .not 4 (.tmp 8)⟩]) (.cond (.tmp 9) (.seq (.region [⟨(some 2), none, .assign (.const (.bool false))⟩]) (.ret)) (.skip))) (.seq (.seq (.region [⟨(some 10), none, .move (.tmp 0)⟩, ⟨(some 11), none, .call ⟨.builtin .len, #[.tmp 10], #[25]⟩⟩, ⟨(some 12), none, .binOp .gtr 3 (.tmp 11) (.const (.int .i64 100)) 3⟩]) (.cond (.tmp 12) (.seq (.region [⟨(some 2), none, .assign (.const (.bool true))⟩]) (.ret)) (.skip))) (.seq (.region [⟨(some 13), none, .move (.tmp 0)⟩, ⟨(some 14), none, .call ⟨.value (.func 9), #[.tmp 13, .const (.int .i64 15)], #[25, 3]⟩⟩, ⟨(some 3), none, .assign (.tmp 14)⟩]) (.seq (.seq .weak (.region [⟨(some 4), none, .assign (.const (.string ⟨#[]⟩))⟩])) (.seq (.seq (.region [⟨(some 5), none, .assign (.const (.int .i64 0))⟩]) (.block 0 (.loop (.seq .weak (.seq (.seq (.region [⟨(some 15), none, .move (.tmp 5)⟩, ⟨(some 16), none, .move (.tmp 3)⟩, ⟨(some 17), none, .call ⟨.builtin .len, #[.tmp 16], #[27]⟩⟩, ⟨(some 18), none, .binOp .lss 3 (.tmp 15) (.tmp 17) 3⟩]) (.cond (.tmp 18) (.skip) (.exit 0))) (.seq (.block 1 (.seq (.region [⟨(some 21), none, .move (.tmp 3)⟩, ⟨(some 22), none, .move (.tmp 5)⟩, ⟨(some 23), none, .indexAddr 27 (.tmp 21) (.tmp 22)⟩, ⟨(some 24), none, .load 24 (.tmp 23)⟩, ⟨(some 25), none, .buildSlice 27 1 #[(0, .tmp 24)]⟩, ⟨(some 26), none, .call ⟨.value (.func 10), #[.tmp 25], #[27]⟩⟩, ⟨(some 6), none, .assign (.tmp 26)⟩]) (.seq (.region [⟨(some 27), none, .move (.tmp 6)⟩, ⟨(some 28), none, .call ⟨.value (.func 13), #[.tmp 27], #[9]⟩⟩, ⟨(some 7), none, .assign (.tmp 28)⟩]) (.seq (.seq (.region [⟨(some 29), none, .move (.tmp 7)⟩, ⟨(some 30), none, .call ⟨.builtin .len, #[.tmp 29], #[27]⟩⟩, ⟨(some 31), none, .binOp .neq 3 (.tmp 30) (.const (.int .i64 1)) 3⟩, ⟨(some 32), none, .move (.tmp 31)⟩, ⟨(some 33), (some (32, false)), .move (.tmp 7)⟩, ⟨(some 34), (some (32, false)), .indexAddr 27 (.tmp 33) (.const (.int .i64 0))⟩, ⟨(some 35), (some (32, false)), .load 24 (.tmp 34)⟩, ⟨(some 36), (some (32, false)), .move (.tmp 3)⟩, ⟨(some 37), (some (32, false)), .move (.tmp 5)⟩, ⟨(some 38), (some (32, false)), .indexAddr 27 (.tmp 36) (.tmp 37)⟩, ⟨(some 39), (some (32, false)), .load 24 (.tmp 38)⟩, ⟨(some 40), (some (32, false)), .call ⟨.value (.func 15), #[.tmp 35, .tmp 39], #[24, 24]⟩⟩, ⟨(some 41), (some (32, false)), .unOp .not 4 (.tmp 40)⟩, ⟨(some 42), none, .pick (.tmp 32) (.const (.bool true)) (.tmp 41)⟩]) (.cond (.tmp 42) (.seq (.region [⟨(some 2), none, .assign (.const (.bool false))⟩]) (.ret)) (.skip))) (.region [⟨(some 43), none, .move (.tmp 4)⟩, ⟨(some 44), none, .move (.tmp 6)⟩, ⟨(some 45), none, .binOp .add 9 (.tmp 43) (.tmp 44) 9⟩, ⟨(some 4), none, .assign (.tmp 45)⟩]))))) (.region [⟨(some 19), none, .move (.tmp 5)⟩, ⟨(some 20), none, .binOp .add 3 (.tmp 19) (.const (.int .i64 1)) 3⟩, ⟨(some 5), none, .assign (.tmp 20)⟩]))))))) (.seq (.region [⟨(some 46), none, .move (.tmp 3)⟩, ⟨(some 47), none, .call ⟨.value (.func 10), #[.tmp 46], #[27]⟩⟩, ⟨(some 48), none, .move (.tmp 4)⟩, ⟨(some 49), none, .binOp .eql 9 (.tmp 47) (.tmp 48) 9⟩, ⟨(some 50), none, .move (.tmp 49)⟩, ⟨(some 51), (some (50, true)), .move (.tmp 4)⟩, ⟨(some 52), (some (50, true)), .call ⟨.value (.func 13), #[.tmp 51], #[9]⟩⟩, ⟨(some 53), (some (50, true)), .move (.tmp 3)⟩, ⟨(some 54), (some (50, true)), .call ⟨.value (.func 12), #[.tmp 52, .tmp 53], #[27, 27]⟩⟩, ⟨(some 55), none, .pick (.tmp 50) (.tmp 54) (.const (.bool false))⟩, ⟨(some 2), none, .assign (.tmp 55)⟩]) (.ret)))))))
noncomputable def l_law25_OpsBack : List (Nat × Con) := [(8, c_law25_begun), (9, c_law25_made), (10, c_ops_Put), (13, c_ops_Take), (15, c_ref25_SameStep), (12, c_ref25_SameSteps)]
noncomputable abbrev K_law25_OpsBack : Ctx := ctx (cl l_law25_OpsBack)
theorem geq_law25_OpsBack : gof K_law25_OpsBack Try.f4 = some G_law25_OpsBack.strip := by kernel_rfl
theorem sys_law25_OpsBack : Go.Eng.Sys Try.prog K_law25_OpsBack := sys_of' ⟨ok_law25_begun, ok_law25_made, ok_ops_Put, ok_ops_Take, ok_ref25_SameStep, ok_ref25_SameSteps, trivial⟩
theorem hm_law25_OpsBack : ConMono K_law25_OpsBack := conMono_of sys_law25_OpsBack.con
noncomputable def k_law25_OpsBack_law25_begun := PLift.up (call_scal (C := K_law25_OpsBack) (f := 8) (A := A_law25_begun) (p := p_law25_begun) (r := r_law25_begun) rfl)
noncomputable def k_law25_OpsBack_law25_made := PLift.up (call_gen (C := K_law25_OpsBack) (f := 9) (modes := m_law25_made) (F := F_law25_made) rfl)
noncomputable def k_law25_OpsBack_ops_Put := PLift.up (call_scal (C := K_law25_OpsBack) (f := 10) (A := A_ops_Put) (p := p_ops_Put) (r := r_ops_Put) rfl)
noncomputable def k_law25_OpsBack_ops_Take := PLift.up (call_fn (C := K_law25_OpsBack) (f := 13) (A := A_ops_Take) (p := p_ops_Take) (r := r_ops_Take) rfl)
noncomputable def k_law25_OpsBack_ref25_SameStep := PLift.up (call_scal (C := K_law25_OpsBack) (f := 15) (A := A_ref25_SameStep) (p := p_ref25_SameStep) (r := r_ref25_SameStep) rfl)
noncomputable def k_law25_OpsBack_ref25_SameSteps := PLift.up (call_scal (C := K_law25_OpsBack) (f := 12) (A := A_ref25_SameSteps) (p := p_ref25_SameSteps) (r := r_ref25_SameSteps) rfl)
noncomputable def A_law25_OpsBack : Arms ((List Byt) × Unit) := Arms.cons (argT (List Byt)) (Arms.nil)
def p_law25_OpsBack (x : (List Byt) × Unit) : Prop := (goodList (fun x : Byt => goodAny x) x.1) ∧ goodAny (x.2)
abbrev r_law25_OpsBack (x : (List Byt) × Unit) : AV := rTrue x
theorem rd_law25_OpsBack : ReadsA Try.prog [25] A_law25_OpsBack p_law25_OpsBack := (readsA_T (reads_list Try.underlying25 (reads_u8 Try.underlying5) (by kernel_rfl) (by decide)) (by kernel_rfl) readsA_nil)
set_option maxRecDepth 100000 in
set_option maxHeartbeats 4000000 in
theorem body_law25_OpsBack (x) (hx : p_law25_OpsBack x) : avp K_law25_OpsBack G_law25_OpsBack (Ret K_law25_OpsBack [.tmp 2] fun v _ => v = r_law25_OpsBack x) (entry (A_law25_OpsBack.enc x) .empty) := by
  obtain ⟨p, ⟨⟩⟩ := x
  change avp _ _ (Ret _ _ fun v _ => v = .t (.bool true)) (entry [.t (sl p)] .empty)
  unfold G_law25_OpsBack
  by_cases hl : (100 : Int) < (p.length : Int)
  · simp only [vP.down, vS.down, vE.down, Nat.reduceEqDiff, Nat.reduceAdd, Nat.reduceSub, Nat.reduceMul, Nat.reduceLeDiff, Nat.reduceLT, Int.reduceToNat, reduceIte, reduceCtorEq, Int.reduceEq, Int.reduceLT, Int.reduceLE, ↓avp_condG, ↓tf_arrow, ↓ft_arrow, k_law25_OpsBack_law25_begun.down, A_law25_begun, p_law25_begun, r_law25_begun, hl, gt_iff_lt]
    simp only [vP.down, vS.down, vE.down, Nat.reduceEqDiff, Nat.reduceAdd, Nat.reduceSub, Nat.reduceMul, Nat.reduceLeDiff, Nat.reduceLT, Int.reduceToNat, reduceIte, reduceCtorEq, Int.reduceEq, Int.reduceLT, Int.reduceLE, ↓avp_condG, ↓tf_arrow, ↓ft_arrow, vT.down]
  simp only [vP.down, vS.down, vE.down, Nat.reduceEqDiff, Nat.reduceAdd, Nat.reduceSub, Nat.reduceMul, Nat.reduceLeDiff, Nat.reduceLT, Int.reduceToNat, reduceIte, reduceCtorEq, Int.reduceEq, Int.reduceLT, Int.reduceLE, ↓avp_condG, ↓tf_arrow, ↓ft_arrow, k_law25_OpsBack_law25_begun.down, A_law25_begun, p_law25_begun, r_law25_begun, hl, gt_iff_lt, k_law25_OpsBack_law25_made.down, m_law25_made]
  refine made_any (by omega) (by omega) (by omega) fun v S L hv hg hm _ => ?_
  refine weak_at [(3, .t (sl L))] .empty fewer_empty (by simp only [vP.down, vS.down, vE.down, Nat.reduceEqDiff, Nat.reduceAdd, Nat.reduceSub, Nat.reduceMul, Nat.reduceLeDiff, Nat.reduceLT, Int.reduceToNat, reduceIte, reduceCtorEq, Int.reduceEq, Int.reduceLT, Int.reduceLE, ↓avp_condG, ↓tf_arrow, ↓ft_arrow, wP.down]; exact hv.w2 fun _ _ => rfl) ?_
  clear hv
  have hmem : ∀ y ∈ L, good y = true := List.all_eq_true.1 hg
  simp only [vP.down, vS.down, vE.down, Nat.reduceEqDiff, Nat.reduceAdd, Nat.reduceSub, Nat.reduceMul, Nat.reduceLeDiff, Nat.reduceLT, Int.reduceToNat, reduceIte, reduceCtorEq, Int.reduceEq, Int.reduceLT, Int.reduceLE, ↓avp_condG, ↓tf_arrow, ↓ft_arrow]
  refine loop_weak hm_law25_OpsBack (fun m σ => ∃ i : Nat, m = L.length - i ∧ i ≤ L.length ∧ σ = mkS [(3, .t (sl L)), (4, .t (.str (putL (L.take i)))), (5, .t (.int .i64 (i : Nat)))] .empty)
    ⟨0, rfl, by omega, rfl⟩ (wk_to fewer_refl (by simp only [vP.down, vS.down, vE.down, Nat.reduceEqDiff, Nat.reduceAdd, Nat.reduceSub, Nat.reduceMul, Nat.reduceLeDiff, Nat.reduceLT, Int.reduceToNat, reduceIte, reduceCtorEq, Int.reduceEq, Int.reduceLT, Int.reduceLE, ↓avp_condG, ↓tf_arrow, ↓ft_arrow, wP.down, List.take_zero, Int.natCast_zero, show putL [] = [] from rfl])) ?_
  rintro m _ ⟨i, rfl, hi, rfl⟩
  have hi1 : IntKind.i64.wrap ((i : Int) + 1) = ((i + 1 : Nat) : Int) := by rw [IntWalk.i64_in _ (by omega)]; rfl
  have hpl := putL_len (L.take i)
  rw [List.length_take] at hpl
  by_cases hlt : i < L.length
  case neg =>
    obtain rfl : i = L.length := by omega
    have hge : ¬ ((L.length : Int) < (L.length : Int)) := by omega
    have hb := takeS_back hg
    have q1 : (∀ y ∈ L, smallS y) = True := by simp only [eq_iff_iff, iff_true]; exact fun y hy => good_small (hmem y hy)
    have q2 : (∀ y ∈ L, y.Keep.length ≤ 1099511627776) = True := by simp only [eq_iff_iff, iff_true]; exact fun y hy => by have := (good_of (hmem y hy)).2.2.1.2.2.2; omega
    have h1 : (putL L).length ≤ 1099511627776 := by rw [List.take_length] at hpl; omega
    have h2 : L.length ≤ 1048576 := by omega
    have h3 : L.length ≤ 1099511627776 := by omega
    simp only [vP.down, vS.down, vE.down, Nat.reduceEqDiff, Nat.reduceAdd, Nat.reduceSub, Nat.reduceMul, Nat.reduceLeDiff, Nat.reduceLT, Int.reduceToNat, reduceIte, reduceCtorEq, Int.reduceEq, Int.reduceLT, Int.reduceLE, ↓avp_condG, ↓tf_arrow, ↓ft_arrow, hge, List.take_length, hb, q1, q2, h1, h2, h3, k_law25_OpsBack_ops_Take.down, A_ops_Take, p_ops_Take, r_ops_Take, k_law25_OpsBack_ops_Put.down, A_ops_Put, p_ops_Put, r_ops_Put, k_law25_OpsBack_ref25_SameSteps.down, A_ref25_SameSteps, p_ref25_SameSteps, r_ref25_SameSteps]
    simp only [vP.down, vS.down, vE.down, Nat.reduceEqDiff, Nat.reduceAdd, Nat.reduceSub, Nat.reduceMul, Nat.reduceLeDiff, Nat.reduceLT, Int.reduceToNat, reduceIte, reduceCtorEq, Int.reduceEq, Int.reduceLT, Int.reduceLE, ↓avp_condG, ↓tf_arrow, ↓ft_arrow, vT.down]
  have hlt' : (i : Int) < (L.length : Int) := by omega
  obtain ⟨x, hx⟩ : ∃ x, x = L.getD i default := ⟨_, rfl⟩
  have hgx : good x = true := hmem x (by rw [hx, List.getD_eq_getElem?_getD, List.getElem?_eq_getElem hlt]; exact List.getElem_mem _)
  have e1 := putL_one hgx
  have e2 := takeS_one hgx
  have e3 := putB_len hgx
  have e4 : (putB x).length ≤ 1099511627776 := by omega
  have e5 : (∀ y ∈ [x], smallS y) = True := by simp only [eq_iff_iff, iff_true]; exact fun y hy => by rw [List.mem_singleton.1 hy]; exact good_small hgx
  have e6 : x.Keep.length ≤ 1099511627776 := by have := (good_of hgx).2.2.1.2.2.2; omega
  have hnx : putL (L.take (i + 1)) = putL (L.take i) ++ putB x := by
    have := take_map_flat putOne hlt
    rw [← hx, putOne_good, if_pos hgx] at this
    exact this
  have hdz : (idxB K_law25_OpsBack 27 (.t (sl [x])) (.t (.int .i64 0))) = .val True (.imm (Cell.enc x)) := idx_at (l := [x]) (i := 0) ty_Lapi_Step ty_api_Step rfl (by simp) .i64
  have hdx := idx_at (C := K_law25_OpsBack) (l := L) ty_Lapi_Step ty_api_Step rfl hlt .i64
  simp only [vP.down, vS.down, vE.down, Nat.reduceEqDiff, Nat.reduceAdd, Nat.reduceSub, Nat.reduceMul, Nat.reduceLeDiff, Nat.reduceLT, Int.reduceToNat, reduceIte, reduceCtorEq, Int.reduceEq, Int.reduceLT, Int.reduceLE, ↓avp_condG, ↓tf_arrow, ↓ft_arrow, hlt', ← hx]
  ((repeat' with_reducible refine And.intro ?_ ?_) <;> try (first | omega | (simp only [List.length_take, List.length_drop, List.length_append, List.length_map, List.length_replicate] <;> omega)))
  intro g9 hg9
  simp only [vP.down, vS.down, vE.down, Nat.reduceEqDiff, Nat.reduceAdd, Nat.reduceSub, Nat.reduceMul, Nat.reduceLeDiff, Nat.reduceLT, Int.reduceToNat, reduceIte, reduceCtorEq, Int.reduceEq, Int.reduceLT, Int.reduceLE, ↓avp_condG, ↓tf_arrow, ↓ft_arrow, hd_one, e1, e2, e4, e5, e6, hdz, hdx, ← hx, Int.natCast_one, k_law25_OpsBack_ops_Take.down, A_ops_Take, p_ops_Take, r_ops_Take, k_law25_OpsBack_ops_Put.down, A_ops_Put, p_ops_Put, r_ops_Put, k_law25_OpsBack_ref25_SameStep.down, A_ref25_SameStep, p_ref25_SameStep, r_ref25_SameStep]
  refine ⟨by omega, ?_⟩
  exact round_to (L.length - (i + 1)) [(3, .t (sl L)), (4, .t (.str (putL (L.take (i + 1))))), (5, .t (.int .i64 (i + 1 : Nat)))] .empty (by omega) fewer_empty (by simp only [vP.down, vS.down, vE.down, Nat.reduceEqDiff, Nat.reduceAdd, Nat.reduceSub, Nat.reduceMul, Nat.reduceLeDiff, Nat.reduceLT, Int.reduceToNat, reduceIte, reduceCtorEq, Int.reduceEq, Int.reduceLT, Int.reduceLE, ↓avp_condG, ↓tf_arrow, ↓ft_arrow, wP.down, hi1, hnx]) ⟨i + 1, rfl, hlt, rfl⟩
noncomputable def c_law25_OpsBack : Con := fnScal A_law25_OpsBack p_law25_OpsBack r_law25_OpsBack
theorem ok_law25_OpsBack : COk Try.prog 4 c_law25_OpsBack := fn_sok sys_law25_OpsBack mixed Try.func4 (by kernel_rfl) geq_law25_OpsBack Try.ntmps4 (by rw [Try.results4]) (fun x => by simp [rTrue, AV.scal]) fun x hx => ⟨Nat.le_of_ble_eq_true rfl, body_law25_OpsBack x hx⟩
theorem says_law25_OpsBack : SaysTrue Rows.opsBackSpec 1 := ⟨rfl, fun H ds h => by
  match ds, h with
  | [d0], _ => exact ⟨rfl, rfl, rfl⟩⟩
set_option maxRecDepth 100000 in
theorem lifted_law25_OpsBack (os : Os) (started : os.Started) (H : Type) (enc : TypeId × Value → H) :
    ReturnsInHanded {} Try.checked os 4 .any (Rows.opsBackSpec.pre6 enc Try.prog Try.f4 Rows.opsBackRow.domain false) (Rows.opsBackSpec.post enc Try.prog Try.f4 false true false false) := by
  refine returnsInHanded_of_change (C := Try.checked) own started (by kernel_rfl) Try.func4
    (ChangeSpec.witness6 (enc := enc) (C := Try.checked) false ⟨#[], #[.slice none 0 0], []⟩ 8 (by kernel_rfl) (by kernel_rfl) (by kernel_rfl) (by kernel_rfl)) ?_
  intro W base args ds gs before hval hW _ _
  exact law_contract (ts := [25]) (tb := 4) ok_law25_OpsBack (by rw [Try.params4]) (by kernel_rfl) Try.underlying4 laid (by kernel_rfl) rd_law25_OpsBack (fun _ h => h) says_law25_OpsBack H enc W base args ds gs before hval hW
theorem over_law25_OpsBack : Rows.opsBackRow.holds Try.pinned (OpenSpec.ofChange Rows.opsBackSpec) :=
  OpenClaim.holds_of_wide 4 Try.f4 rfl rfl rfl rfl rfl rfl rfl ⟨rfl, rfl, rfl, rfl, rfl⟩ rfl rfl rfl rfl rfl (by kernel_rfl) Try.func4 (by kernel_rfl)
    (of_decide_eq_true (by kernel_rfl)) (by unfold Func.isWrapper; first | (rw [if_pos (by decide +kernel)]; kernel_rfl) | (rw [if_neg (by decide +kernel)]; exact ⟨rfl, rfl⟩))
    (fun os started H enc _ => lifted_law25_OpsBack os started H enc)
theorem opsBack_holds : Rows.OpsBackSaid := over_law25_OpsBack
end Go.Proofs.Ythhgaeeeppipnaa

