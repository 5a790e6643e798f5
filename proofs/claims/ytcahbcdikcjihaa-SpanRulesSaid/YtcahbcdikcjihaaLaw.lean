/-
  SpanRules.
-/
import Derived.Test.YtcahbcdikcjihaaFnsC
set_option linter.unusedSimpArgs false
set_option linter.unusedVariables false
namespace Go.Proofs.Ytcahbcdikcjihaa
open Go Go.Eng
def G_law8_SpanRules_10 : GCode := .seq (.seq .weak (.region [⟨(some 132), none, .move (.tmp 7)⟩, ⟨(some 133), none, .move (.tmp 7)⟩, ⟨(some 134), none, .call ⟨.value (.func 18), #[.tmp 132, .tmp 133], #[23, 23]⟩⟩, ⟨(some 135), none, .call ⟨.builtin .len, #[.tmp 134], #[23]⟩⟩, ⟨(some 136), none, .binOp .eql 3 (.tmp 135) (.const (.int .i64 0)) 3⟩, ⟨(some 137), none, .move (.tmp 136)⟩, ⟨(some 138), (some (137, true)), .move (.tmp 7)⟩, ⟨(some 139), (some (137, true)), .move (.tmp 7)⟩, ⟨(some 140), (some (137, true)), .call ⟨.value (.func 16), #[.tmp 138, .tmp 139], #[23, 23]⟩⟩, ⟨(some 141), (some (137, true)), .move (.tmp 7)⟩, ⟨(some 142), (some (137, true)), .call ⟨.value (.func 15), #[.tmp 140, .tmp 141], #[23, 23]⟩⟩, ⟨(some 143), none, .pick (.tmp 137) (.tmp 142) (.const (.bool false))⟩, ⟨(some 144), none, .move (.tmp 143)⟩, ⟨(some 145), (some (144, true)), .move (.tmp 7)⟩, ⟨(some 146), (some (144, true)), .call ⟨.value (.func 18), #[.tmp 145, .const (.slice none 0 0)], #[23, 23]⟩⟩, ⟨(some 147), (some (144, true)), .move (.tmp 7)⟩, ⟨(some 148), (some (144, true)), .call ⟨.value (.func 15), #[.tmp 146, .tmp 147], #[23, 23]⟩⟩, ⟨(some 149), none, .pick (.tmp 144) (.tmp 148) (.const (.bool false))⟩, ⟨(some 150), none, .move (.tmp 149)⟩, ⟨(some 151), (some (150, true)), .move (.tmp 7)⟩, ⟨(some 152), (some (150, true)), .call ⟨.value (.func 20), #[.tmp 151, .const (.slice none 0 0)], #[23, 23]⟩⟩, ⟨(some 153), (some (150, true)), .call ⟨.builtin .len, #[.tmp 152], #[23]⟩⟩, ⟨(some 154), (some (150, true)), .binOp .eql 3 (.tmp 153) (.const (.int .i64 0)) 3⟩, ⟨(some 155), none, .pick (.tmp 150) (.tmp 154) (.const (.bool false))⟩, ⟨(some 156), none, .move (.tmp 155)⟩, ⟨(some 157), (some (156, true)), .move (.tmp 7)⟩, ⟨(some 158), (some (156, true)), .move (.tmp 8)⟩, ⟨(some 159), (some (156, true)), .call ⟨.value (.func 16), #[.tmp 157, .tmp 158], #[23, 23]⟩⟩, ⟨(some 160), (some (156, true)), .call ⟨.value (.func 22), #[.tmp 159], #[23]⟩⟩, ⟨(some 161), (some (156, true)), .move (.tmp 7)⟩, ⟨(some 162), (some (156, true)), .move (.tmp 8)⟩, ⟨(some 163), (some (156, true)), .call ⟨.value (.func 20), #[.tmp 161, .tmp 162], #[23, 23]⟩⟩, ⟨(some 164), (some (156, true)), .call ⟨.value (.func 22), #[.tmp 163], #[23]⟩⟩, ⟨(some 165), (some (156, true)), .binOp .add 3 (.tmp 160) (.tmp 164) 3⟩, ⟨(some 166), (some (156, true)), .move (.tmp 7)⟩, ⟨(some 167), (some (156, true)), .call ⟨.value (.func 22), #[.tmp 166], #[23]⟩⟩, ⟨(some 168), (some (156, true)), .move (.tmp 8)⟩, ⟨(some 169), (some (156, true)), .call ⟨.value (.func 22), #[.tmp 168], #[23]⟩⟩, ⟨(some 170), (some (156, true)), .binOp .add 3 (.tmp 167) (.tmp 169) 3⟩, ⟨(some 171), (some (156, true)), .binOp .eql 3 (.tmp 165) (.tmp 170) 3⟩, ⟨(some 172), none, .pick (.tmp 156) (.tmp 171) (.const (.bool false))⟩, ⟨(some 6), none, .assign (.tmp 172)⟩])) (.ret)
def G_law8_SpanRules_8 : GCode := .seq (.seq (.seq .weak (.region [⟨(some 80), none, .move (.tmp 7)⟩, ⟨(some 81), none, .move (.tmp 8)⟩, ⟨(some 82), none, .call ⟨.value (.func 18), #[.tmp 80, .tmp 81], #[23, 23]⟩⟩, ⟨(some 83), none, .move (.tmp 7)⟩, ⟨(some 84), none, .move (.tmp 7)⟩, ⟨(some 85), none, .move (.tmp 8)⟩, ⟨(some 86), none, .call ⟨.value (.func 20), #[.tmp 84, .tmp 85], #[23, 23]⟩⟩, ⟨(some 87), none, .call ⟨.value (.func 18), #[.tmp 83, .tmp 86], #[23, 23]⟩⟩, ⟨(some 88), none, .call ⟨.value (.func 15), #[.tmp 82, .tmp 87], #[23, 23]⟩⟩, ⟨(some 89), none, .unOp .not 4 (.tmp 88)⟩, ⟨(some 90), none, .move (.tmp 89)⟩, ⟨(some 91), (some (90, false)), .move (.tmp 7)⟩, ⟨(some 92), (some (90, false)), .move (.tmp 8)⟩, ⟨(some 93), (some (90, false)), .call ⟨.value (.func 18), #[.tmp 91, .tmp 92], #[23, 23]⟩⟩, ⟨(some 94), (some (90, false)), .move (.tmp 7)⟩, ⟨(some 95), (some (90, false)), .move (.tmp 8)⟩, ⟨(some 96), (some (90, false)), .call ⟨.value (.func 20), #[.tmp 94, .tmp 95], #[23, 23]⟩⟩, ⟨(some 97), (some (90, false)), .call ⟨.value (.func 16), #[.tmp 93, .tmp 96], #[23, 23]⟩⟩, ⟨(some 98), (some (90, false)), .move (.tmp 7)⟩, ⟨(some 99), (some (90, false)), .call ⟨.value (.func 15), #[.tmp 97, .tmp 98], #[23, 23]⟩⟩, ⟨(some 100), (some (90, false)), .unOp .not 4 (.tmp 99)⟩, ⟨(some 101), none, .pick (.tmp 90) (.const (.bool true)) (.tmp 100)⟩, ⟨(some 102), none, .move (.tmp 101)⟩, ⟨(some 103), (some (102, false)), .move (.tmp 7)⟩, ⟨(some 104), (some (102, false)), .move (.tmp 8)⟩, ⟨(some 105), (some (102, false)), .call ⟨.value (.func 18), #[.tmp 103, .tmp 104], #[23, 23]⟩⟩, ⟨(some 106), (some (102, false)), .move (.tmp 9)⟩, ⟨(some 107), (some (102, false)), .call ⟨.value (.func 18), #[.tmp 105, .tmp 106], #[23, 23]⟩⟩, ⟨(some 108), (some (102, false)), .move (.tmp 7)⟩, ⟨(some 109), (some (102, false)), .move (.tmp 8)⟩, ⟨(some 110), (some (102, false)), .move (.tmp 9)⟩, ⟨(some 111), (some (102, false)), .call ⟨.value (.func 16), #[.tmp 109, .tmp 110], #[23, 23]⟩⟩, ⟨(some 112), (some (102, false)), .call ⟨.value (.func 18), #[.tmp 108, .tmp 111], #[23, 23]⟩⟩, ⟨(some 113), (some (102, false)), .call ⟨.value (.func 15), #[.tmp 107, .tmp 112], #[23, 23]⟩⟩, ⟨(some 114), (some (102, false)), .unOp .not 4 (.tmp 113)⟩, ⟨(some 115), none, .pick (.tmp 102) (.const (.bool true)) (.tmp 114)⟩, ⟨(some 116), none, .move (.tmp 115)⟩, ⟨(some 117), (some (116, false)), .move (.tmp 7)⟩, ⟨(some 118), (some (116, false)), .move (.tmp 8)⟩, ⟨(some 119), (some (116, false)), .move (.tmp 9)⟩, ⟨(some 120), (some (116, false)), .call ⟨.value (.func 16), #[.tmp 118, .tmp 119], #[23, 23]⟩⟩, ⟨(some 121), (some (116, false)), .call ⟨.value (.func 20), #[.tmp 117, .tmp 120], #[23, 23]⟩⟩, ⟨(some 122), (some (116, false)), .move (.tmp 7)⟩, ⟨(some 123), (some (116, false)), .move (.tmp 8)⟩, ⟨(some 124), (some (116, false)), .call ⟨.value (.func 20), #[.tmp 122, .tmp 123], #[23, 23]⟩⟩, ⟨(some 125), (some (116, false)), .move (.tmp 7)⟩, ⟨(some 126), (some (116, false)), .move (.tmp 9)⟩, ⟨(some 127), (some (116, false)), .call ⟨.value (.func 20), #[.tmp 125, .tmp 126], #[23, 23]⟩⟩, ⟨(some 128), (some (116, false)), .call ⟨.value (.func 16), #[.tmp 124, .tmp 127], #[23, 23]⟩⟩, ⟨(some 129), (some (116, false)), .call ⟨.value (.func 15), #[.tmp 121, .tmp 128], #[23, 23]⟩⟩, ⟨(some 130), (some (116, false)), .unOp .not 4 (.tmp 129)⟩, ⟨(some 131), none, .pick (.tmp 116) (.const (.bool true)) (.tmp 130)⟩])) (.cond (.tmp 131) (.seq (.region [⟨(some 6), none, .assign (.const (.bool false))⟩]) (.ret)) (.skip))) (G_law8_SpanRules_10)
def G_law8_SpanRules_6 : GCode := .seq (.seq (.seq .weak (.region [⟨(some 34), none, .move (.tmp 7)⟩, ⟨(some 35), none, .move (.tmp 8)⟩, ⟨(some 36), none, .call ⟨.value (.func 16), #[.tmp 34, .tmp 35], #[23, 23]⟩⟩, ⟨(some 37), none, .move (.tmp 8)⟩, ⟨(some 38), none, .move (.tmp 7)⟩, ⟨(some 39), none, .call ⟨.value (.func 16), #[.tmp 37, .tmp 38], #[23, 23]⟩⟩, ⟨(some 40), none, .call ⟨.value (.func 15), #[.tmp 36, .tmp 39], #[23, 23]⟩⟩, ⟨(some 41), none, .unOp .not 4 (.tmp 40)⟩, ⟨(some 42), none, .move (.tmp 41)⟩, ⟨(some 43), (some (42, false)), .move (.tmp 7)⟩, ⟨(some 44), (some (42, false)), .move (.tmp 8)⟩, ⟨(some 45), (some (42, false)), .call ⟨.value (.func 20), #[.tmp 43, .tmp 44], #[23, 23]⟩⟩, ⟨(some 46), (some (42, false)), .move (.tmp 8)⟩, ⟨(some 47), (some (42, false)), .move (.tmp 7)⟩, ⟨(some 48), (some (42, false)), .call ⟨.value (.func 20), #[.tmp 46, .tmp 47], #[23, 23]⟩⟩, ⟨(some 49), (some (42, false)), .call ⟨.value (.func 15), #[.tmp 45, .tmp 48], #[23, 23]⟩⟩, ⟨(some 50), (some (42, false)), .unOp .not 4 (.tmp 49)⟩, ⟨(some 51), none, .pick (.tmp 42) (.const (.bool true)) (.tmp 50)⟩, ⟨(some 52), none, .move (.tmp 51)⟩, ⟨(some 53), (some (52, false)), .move (.tmp 7)⟩, ⟨(some 54), (some (52, false)), .move (.tmp 8)⟩, ⟨(some 55), (some (52, false)), .call ⟨.value (.func 16), #[.tmp 53, .tmp 54], #[23, 23]⟩⟩, ⟨(some 56), (some (52, false)), .move (.tmp 9)⟩, ⟨(some 57), (some (52, false)), .call ⟨.value (.func 16), #[.tmp 55, .tmp 56], #[23, 23]⟩⟩, ⟨(some 58), (some (52, false)), .move (.tmp 7)⟩, ⟨(some 59), (some (52, false)), .move (.tmp 8)⟩, ⟨(some 60), (some (52, false)), .move (.tmp 9)⟩, ⟨(some 61), (some (52, false)), .call ⟨.value (.func 16), #[.tmp 59, .tmp 60], #[23, 23]⟩⟩, ⟨(some 62), (some (52, false)), .call ⟨.value (.func 16), #[.tmp 58, .tmp 61], #[23, 23]⟩⟩, ⟨(some 63), (some (52, false)), .call ⟨.value (.func 15), #[.tmp 57, .tmp 62], #[23, 23]⟩⟩, ⟨(some 64), (some (52, false)), .unOp .not 4 (.tmp 63)⟩, ⟨(some 65), none, .pick (.tmp 52) (.const (.bool true)) (.tmp 64)⟩, ⟨(some 66), none, .move (.tmp 65)⟩, ⟨(some 67), (some (66, false)), .move (.tmp 7)⟩, ⟨(some 68), (some (66, false)), .move (.tmp 8)⟩, ⟨(some 69), (some (66, false)), .call ⟨.value (.func 20), #[.tmp 67, .tmp 68], #[23, 23]⟩⟩, ⟨(some 70), (some (66, false)), .move (.tmp 9)⟩, ⟨(some 71), (some (66, false)), .call ⟨.value (.func 20), #[.tmp 69, .tmp 70], #[23, 23]⟩⟩, ⟨(some 72), (some (66, false)), .move (.tmp 7)⟩, ⟨(some 73), (some (66, false)), .move (.tmp 8)⟩, ⟨(some 74), (some (66, false)), .move (.tmp 9)⟩, ⟨(some 75), (some (66, false)), .call ⟨.value (.func 20), #[.tmp 73, .tmp 74], #[23, 23]⟩⟩, ⟨(some 76), (some (66, false)), .call ⟨.value (.func 20), #[.tmp 72, .tmp 75], #[23, 23]⟩⟩, ⟨(some 77), (some (66, false)), .call ⟨.value (.func 15), #[.tmp 71, .tmp 76], #[23, 23]⟩⟩, ⟨(some 78), (some (66, false)), .unOp .not 4 (.tmp 77)⟩, ⟨(some 79), none, .pick (.tmp 66) (.const (.bool true)) (.tmp 78)⟩])) (.cond (.tmp 79) (.seq (.region [⟨(some 6), none, .assign (.const (.bool false))⟩]) (.ret)) (.skip))) (G_law8_SpanRules_8)
def G_law8_SpanRules : GCode := .seq (.region [⟨(some 6), none, .assign (.const (.bool false))⟩]) (.seq (.seq (.region [⟨(some 10), none, .call ⟨.value (.func 10), #[], #[]⟩⟩, ⟨(some 11), none, .unOp .not 4 (.tmp 10)⟩]) (.cond (.tmp 11) (.seq (.region [⟨(some 6), none, .assign (.const (.bool false))⟩]) (.ret)) (.skip))) (.seq (.seq (.region [⟨(some 12), none, .move (.tmp 0)⟩, ⟨(some 13), none, .call ⟨.builtin .len, #[.tmp 12], #[22]⟩⟩, ⟨(some 14), none, .binOp .gtr 3 (.tmp 13) (.const (.int .i64 20)) 3⟩, ⟨(some 15), none, .move (.tmp 14)⟩, ⟨(some 16), (some (15, false)), .move (.tmp 1)⟩, ⟨(some 17), (some (15, false)), .call ⟨.builtin .len, #[.tmp 16], #[22]⟩⟩, ⟨(some 18), (some (15, false)), .binOp .gtr 3 (.tmp 17) (.const (.int .i64 20)) 3⟩, ⟨(some 19), none, .pick (.tmp 15) (.const (.bool true)) (.tmp 18)⟩, ⟨(some 20), none, .move (.tmp 19)⟩, ⟨(some 21), (some (20, false)), .move (.tmp 2)⟩, ⟨(some 22), (some (20, false)), .call ⟨.builtin .len, #[.tmp 21], #[22]⟩⟩, ⟨(some 23), (some (20, false)), .binOp .gtr 3 (.tmp 22) (.const (.int .i64 20)) 3⟩, ⟨(some 24), none, .pick (.tmp 20) (.const (.bool true)) (.tmp 23)⟩]) (.cond (.tmp 24) (.seq (.region [⟨(some 6), none, .assign (.const (.bool true))⟩]) (.ret)) (.skip))) (.seq (.region [⟨(some 25), none, .move (.tmp 0)⟩, ⟨(some 26), none, .call ⟨.value (.func 11), #[.tmp 25], #[22]⟩⟩, ⟨(some 27), none, .call ⟨.value (.func 12), #[.tmp 26, .const (.int .i64 8)], #[26, 3]⟩⟩, ⟨(some 28), none, .move (.tmp 1)⟩, ⟨(some 29), none, .call ⟨.value (.func 11), #[.tmp 28], #[22]⟩⟩, ⟨(some 30), none, .call ⟨.value (.func 12), #[.tmp 29, .const (.int .i64 8)], #[26, 3]⟩⟩, ⟨(some 31), none, .move (.tmp 2)⟩, ⟨(some 32), none, .call ⟨.value (.func 11), #[.tmp 31], #[22]⟩⟩, ⟨(some 33), none, .call ⟨.value (.func 12), #[.tmp 32, .const (.int .i64 8)], #[26, 3]⟩⟩, ⟨(some 7), none, .assign (.tmp 27)⟩, ⟨(some 8), none, .assign (.tmp 30)⟩, ⟨(some 9), none, .assign (.tmp 33)⟩]) (G_law8_SpanRules_6))))
noncomputable def l_law8_SpanRules : List (Nat × Con) := [(10, c_law8_begun), (11, c_made_Made), (12, c_made_Picks_Runs), (16, c_span_Add), (15, c_span_Same), (20, c_span_Both), (18, c_span_Less), (22, c_span_Count)]
noncomputable abbrev K_law8_SpanRules : Ctx := ctx (cl l_law8_SpanRules)
theorem geq_law8_SpanRules : gof K_law8_SpanRules Try.f6 = some G_law8_SpanRules.strip := by kernel_rfl
theorem sys_law8_SpanRules : Go.Eng.Sys Try.prog K_law8_SpanRules := sys_of' ⟨ok_law8_begun, ok_made_Made, ok_made_Picks_Runs, ok_span_Add, ok_span_Same, ok_span_Both, ok_span_Less, ok_span_Count, trivial⟩
theorem hm_law8_SpanRules : ConMono K_law8_SpanRules := conMono_of sys_law8_SpanRules.con
noncomputable def k_law8_SpanRules_law8_begun := PLift.up (call_scal (C := K_law8_SpanRules) (f := 10) (A := A_law8_begun) (p := p_law8_begun) (r := r_law8_begun) rfl)
noncomputable def k_law8_SpanRules_made_Made := PLift.up (call_new (C := K_law8_SpanRules) (f := 11) (c := q_made_Made) (e := e_made_Made) (mk := mk_made_Made) rfl)
noncomputable def k_law8_SpanRules_made_Picks_Runs := PLift.up (call_gen (C := K_law8_SpanRules) (f := 12) (modes := m_made_Picks_Runs) (F := F_made_Picks_Runs) rfl)
noncomputable def k_law8_SpanRules_span_Add := PLift.up (call_fn (C := K_law8_SpanRules) (f := 16) (A := A_span_Add) (p := p_span_Add) (r := r_span_Add) rfl)
noncomputable def k_law8_SpanRules_span_Same := PLift.up (call_scal (C := K_law8_SpanRules) (f := 15) (A := A_span_Same) (p := p_span_Same) (r := r_span_Same) rfl)
noncomputable def k_law8_SpanRules_span_Both := PLift.up (call_fn (C := K_law8_SpanRules) (f := 20) (A := A_span_Both) (p := p_span_Both) (r := r_span_Both) rfl)
noncomputable def k_law8_SpanRules_span_Less := PLift.up (call_fn (C := K_law8_SpanRules) (f := 18) (A := A_span_Less) (p := p_span_Less) (r := r_span_Less) rfl)
noncomputable def k_law8_SpanRules_span_Count := PLift.up (call_scal (C := K_law8_SpanRules) (f := 22) (A := A_span_Count) (p := p_span_Count) (r := r_span_Count) rfl)
noncomputable def A_law8_SpanRules : Arms ((List Byt) × (List Byt) × (List Byt) × Unit) := Arms.cons (argT (List Byt)) (Arms.cons (argT (List Byt)) (Arms.cons (argT (List Byt)) (Arms.nil)))
def p_law8_SpanRules (x : (List Byt) × (List Byt) × (List Byt) × Unit) : Prop := (goodList (fun x : Byt => goodAny x) x.1) ∧ (goodList (fun x : Byt => goodAny x) x.2.1) ∧ (goodList (fun x : Byt => goodAny x) x.2.2.1) ∧ goodAny (x.2.2.2)
abbrev r_law8_SpanRules (x : (List Byt) × (List Byt) × (List Byt) × Unit) : AV := rTrue x
theorem rd_law8_SpanRules : ReadsA Try.prog [22, 22, 22] A_law8_SpanRules p_law8_SpanRules := (readsA_T (reads_list Try.underlying22 (reads_u8 Try.underlying5) (by kernel_rfl) (by decide)) (by kernel_rfl) (readsA_T (reads_list Try.underlying22 (reads_u8 Try.underlying5) (by kernel_rfl) (by decide)) (by kernel_rfl) (readsA_T (reads_list Try.underlying22 (reads_u8 Try.underlying5) (by kernel_rfl) (by decide)) (by kernel_rfl) readsA_nil)))
set_option maxRecDepth 100000 in
set_option maxHeartbeats 4000000 in
theorem rules_10 {x y z : List TRun} (hx : Sm 8 x) (hy : Sm 8 y) (hz : Sm 8 z) {σ : St} (hσ : Wk σ (mkS [(7, .t (sl x)), (8, .t (sl y)), (9, .t (sl z))] .empty)) :
    avp K_law8_SpanRules G_law8_SpanRules_10 (Ret K_law8_SpanRules [.tmp 6] fun v _ => v = .t (.bool true)) σ := by
  unfold G_law8_SpanRules_10
  simp only [avp_seq]
  refine ⟨_, hσ, ?_⟩
  have lx := hx.len
  have ly := hy.len
  have n0 := where_len .add x y
  have n1 := where_len .both x y
  have n2 := where_len .less x x
  have n3 := where_len .add x x
  have n4 := where_len .less x []
  have n5 := where_len .both x []
  rw [List.length_nil] at n4 n5
  have e0 : whereL .less x x = [] := nf_ext where_nf .nil fun i => by rw [where_has]; cases hasR x i <;> rfl
  have e1 : (whereL .add x x = x) = True := w_ext hx.nf fun i => by cases hasR x i <;> rfl
  have e2 : (whereL .less x [] = x) = True := w_ext hx.nf fun i => by cases hasR x i <;> rfl
  have e3 : whereL .both x [] = [] := nf_ext where_nf .nil fun i => by rw [where_has]; cases hasR x i <;> rfl
  have wxy : ∀ h, Wn 14 40 (whereL h x y) := fun h => where_wn hx.wn hy.wn
  have o1 : okB (whereL .add x y) = True := eq_true (okB_of where_nf (wxy _) (by omega) (by omega))
  have o2 : okB (whereL .both x y) = True := eq_true (okB_of where_nf (wxy _) (by omega) (by omega))
  have o3 : okB x = True := eq_true (okB_of hx.nf hx.wn (by omega) (by omega))
  have o4 : okB y = True := eq_true (okB_of hy.nf hy.wn (by omega) (by omega))
  have ct := cnt_two hx.nf hy.nf hx.wn hy.wn
  have b1 := cntR_bd (okB_of hx.nf hx.wn (by omega) (by omega))
  have b2 := cntR_bd (okB_of hy.nf hy.wn (by omega) (by omega))
  have w1 : IntKind.i64.wrap (cntR x + cntR y) = cntR x + cntR y := IntWalk.i64_in _ (by omega)
  have hdn : (argT (List TRun)).dec (.t .nilS) = some [] := rfl
  simp only [vP.down, vS.down, vE.down, Nat.reduceEqDiff, Nat.reduceAdd, Nat.reduceSub, Nat.reduceMul, Nat.reduceLeDiff, Nat.reduceLT, Int.reduceToNat, reduceIte, reduceCtorEq, Int.reduceEq, Int.reduceLT, Int.reduceLE, ↓avp_condG, ↓tf_arrow, ↓ft_arrow, e0, e1, e2, e3, hdn, o1, o2, o3, o4, ct, w1, pick_of, pick_ot, k_law8_SpanRules_span_Add.down, A_span_Add, p_span_Add, r_span_Add, k_law8_SpanRules_span_Both.down, A_span_Both, p_span_Both, r_span_Both, k_law8_SpanRules_span_Less.down, A_span_Less, p_span_Less, r_span_Less, k_law8_SpanRules_span_Same.down, A_span_Same, p_span_Same, r_span_Same, k_law8_SpanRules_span_Count.down, A_span_Count, p_span_Count, r_span_Count]
  ((repeat' with_reducible refine And.intro ?_ ?_) <;> try (first | omega | (simp only [List.length_take, List.length_drop, List.length_append, List.length_map, List.length_replicate] <;> omega)))
  simp only [vP.down, vS.down, vE.down, Nat.reduceEqDiff, Nat.reduceAdd, Nat.reduceSub, Nat.reduceMul, Nat.reduceLeDiff, Nat.reduceLT, Int.reduceToNat, reduceIte, reduceCtorEq, Int.reduceEq, Int.reduceLT, Int.reduceLE, ↓avp_condG, ↓tf_arrow, ↓ft_arrow, vT.down]
set_option maxRecDepth 100000 in
set_option maxHeartbeats 4000000 in
theorem rules_8 {x y z : List TRun} (hx : Sm 8 x) (hy : Sm 8 y) (hz : Sm 8 z) {σ : St} (hσ : Wk σ (mkS [(7, .t (sl x)), (8, .t (sl y)), (9, .t (sl z))] .empty)) :
    avp K_law8_SpanRules G_law8_SpanRules_8 (Ret K_law8_SpanRules [.tmp 6] fun v _ => v = .t (.bool true)) σ := by
  unfold G_law8_SpanRules_8
  simp only [avp_seq]
  refine ⟨_, hσ, ?_⟩
  have lx := hx.len
  have ly := hy.len
  have lz := hz.len
  have hN := hx.nf
  have n0 := where_len .less x y
  have n1 := where_len .both x y
  have n2 := where_len .less x (whereL .both x y)
  have n3 := where_len .add (whereL .less x y) (whereL .both x y)
  have n4 := where_len .less (whereL .less x y) z
  have n5 := where_len .add y z
  have n6 := where_len .less x (whereL .add y z)
  have n7 := where_len .both x (whereL .add y z)
  have n8 := where_len .both x z
  have n9 := where_len .add (whereL .both x y) (whereL .both x z)
  have q0 : ((whereL .less x y) = (whereL .less x (whereL .both x y))) = True := w_ext where_nf fun i => by simp only [where_has, How.op]; cases hasR x i <;> cases hasR y i <;> cases hasR z i <;> rfl
  have q1 : ((whereL .add (whereL .less x y) (whereL .both x y)) = x) = True := w_ext hN fun i => by simp only [where_has, How.op]; cases hasR x i <;> cases hasR y i <;> cases hasR z i <;> rfl
  have q2 : ((whereL .less (whereL .less x y) z) = (whereL .less x (whereL .add y z))) = True := w_ext where_nf fun i => by simp only [where_has, How.op]; cases hasR x i <;> cases hasR y i <;> cases hasR z i <;> rfl
  have q3 : ((whereL .both x (whereL .add y z)) = (whereL .add (whereL .both x y) (whereL .both x z))) = True := w_ext where_nf fun i => by simp only [where_has, How.op]; cases hasR x i <;> cases hasR y i <;> cases hasR z i <;> rfl
  simp only [vP.down, vS.down, vE.down, Nat.reduceEqDiff, Nat.reduceAdd, Nat.reduceSub, Nat.reduceMul, Nat.reduceLeDiff, Nat.reduceLT, Int.reduceToNat, reduceIte, reduceCtorEq, Int.reduceEq, Int.reduceLT, Int.reduceLE, ↓avp_condG, ↓tf_arrow, ↓ft_arrow, q0, q1, q2, q3, pick_of, pick_ot, k_law8_SpanRules_span_Add.down, A_span_Add, p_span_Add, r_span_Add, k_law8_SpanRules_span_Both.down, A_span_Both, p_span_Both, r_span_Both, k_law8_SpanRules_span_Less.down, A_span_Less, p_span_Less, r_span_Less, k_law8_SpanRules_span_Same.down, A_span_Same, p_span_Same, r_span_Same, k_law8_SpanRules_span_Count.down, A_span_Count, p_span_Count, r_span_Count]
  ((repeat' with_reducible refine And.intro ?_ ?_) <;> try (first | omega | (simp only [List.length_take, List.length_drop, List.length_append, List.length_map, List.length_replicate] <;> omega)))
  exact rules_10 hx hy hz (wk_to fewer_refl (by simp only [vP.down, vS.down, vE.down, Nat.reduceEqDiff, Nat.reduceAdd, Nat.reduceSub, Nat.reduceMul, Nat.reduceLeDiff, Nat.reduceLT, Int.reduceToNat, reduceIte, reduceCtorEq, Int.reduceEq, Int.reduceLT, Int.reduceLE, ↓avp_condG, ↓tf_arrow, ↓ft_arrow, wP.down]))
set_option maxRecDepth 100000 in
set_option maxHeartbeats 4000000 in
theorem rules_6 {x y z : List TRun} (hx : Sm 8 x) (hy : Sm 8 y) (hz : Sm 8 z) {σ : St} (hσ : Wk σ (mkS [(7, .t (sl x)), (8, .t (sl y)), (9, .t (sl z))] .empty)) :
    avp K_law8_SpanRules G_law8_SpanRules_6 (Ret K_law8_SpanRules [.tmp 6] fun v _ => v = .t (.bool true)) σ := by
  unfold G_law8_SpanRules_6
  simp only [avp_seq]
  refine ⟨_, hσ, ?_⟩
  have lx := hx.len
  have ly := hy.len
  have lz := hz.len
  have n0 := where_len .add x y
  have n1 := where_len .add y x
  have n2 := where_len .both x y
  have n3 := where_len .both y x
  have n4 := where_len .add (whereL .add x y) z
  have n5 := where_len .add y z
  have n6 := where_len .add x (whereL .add y z)
  have n7 := where_len .both (whereL .both x y) z
  have n8 := where_len .both y z
  have n9 := where_len .both x (whereL .both y z)
  have q0 : ((whereL .add x y) = (whereL .add y x)) = True := w_ext where_nf fun i => by simp only [where_has, How.op]; cases hasR x i <;> cases hasR y i <;> cases hasR z i <;> rfl
  have q1 : ((whereL .both x y) = (whereL .both y x)) = True := w_ext where_nf fun i => by simp only [where_has, How.op]; cases hasR x i <;> cases hasR y i <;> cases hasR z i <;> rfl
  have q2 : ((whereL .add (whereL .add x y) z) = (whereL .add x (whereL .add y z))) = True := w_ext where_nf fun i => by simp only [where_has, How.op]; cases hasR x i <;> cases hasR y i <;> cases hasR z i <;> rfl
  have q3 : ((whereL .both (whereL .both x y) z) = (whereL .both x (whereL .both y z))) = True := w_ext where_nf fun i => by simp only [where_has, How.op]; cases hasR x i <;> cases hasR y i <;> cases hasR z i <;> rfl
  simp only [vP.down, vS.down, vE.down, Nat.reduceEqDiff, Nat.reduceAdd, Nat.reduceSub, Nat.reduceMul, Nat.reduceLeDiff, Nat.reduceLT, Int.reduceToNat, reduceIte, reduceCtorEq, Int.reduceEq, Int.reduceLT, Int.reduceLE, ↓avp_condG, ↓tf_arrow, ↓ft_arrow, q0, q1, q2, q3, pick_of, pick_ot, k_law8_SpanRules_span_Add.down, A_span_Add, p_span_Add, r_span_Add, k_law8_SpanRules_span_Both.down, A_span_Both, p_span_Both, r_span_Both, k_law8_SpanRules_span_Less.down, A_span_Less, p_span_Less, r_span_Less, k_law8_SpanRules_span_Same.down, A_span_Same, p_span_Same, r_span_Same, k_law8_SpanRules_span_Count.down, A_span_Count, p_span_Count, r_span_Count]
  ((repeat' with_reducible refine And.intro ?_ ?_) <;> try (first | omega | (simp only [List.length_take, List.length_drop, List.length_append, List.length_map, List.length_replicate] <;> omega)))
  exact rules_8 hx hy hz (wk_to fewer_refl (by simp only [vP.down, vS.down, vE.down, Nat.reduceEqDiff, Nat.reduceAdd, Nat.reduceSub, Nat.reduceMul, Nat.reduceLeDiff, Nat.reduceLT, Int.reduceToNat, reduceIte, reduceCtorEq, Int.reduceEq, Int.reduceLT, Int.reduceLE, ↓avp_condG, ↓tf_arrow, ↓ft_arrow, wP.down]))
set_option maxRecDepth 100000 in
set_option maxHeartbeats 4000000 in
theorem body_law8_SpanRules (x) (hx : p_law8_SpanRules x) : avp K_law8_SpanRules G_law8_SpanRules (Ret K_law8_SpanRules [.tmp 6] fun v _ => v = r_law8_SpanRules x) (entry (A_law8_SpanRules.enc x) .empty) := by
  obtain ⟨a, b, c, ⟨⟩⟩ := x
  change avp _ _ (Ret _ _ fun v _ => v = .t (.bool true)) (entry [.t (sl a), .t (sl b), .t (sl c)] .empty)
  unfold G_law8_SpanRules
  by_cases c1 : (20 : Int) < (a.length : Int)
  · simp only [vP.down, vS.down, vE.down, Nat.reduceEqDiff, Nat.reduceAdd, Nat.reduceSub, Nat.reduceMul, Nat.reduceLeDiff, Nat.reduceLT, Int.reduceToNat, reduceIte, reduceCtorEq, Int.reduceEq, Int.reduceLT, Int.reduceLE, ↓avp_condG, ↓tf_arrow, ↓ft_arrow, k_law8_SpanRules_law8_begun.down, A_law8_begun, p_law8_begun, r_law8_begun, c1, gt_iff_lt, pick_of, pick_ot]
    simp only [vP.down, vS.down, vE.down, Nat.reduceEqDiff, Nat.reduceAdd, Nat.reduceSub, Nat.reduceMul, Nat.reduceLeDiff, Nat.reduceLT, Int.reduceToNat, reduceIte, reduceCtorEq, Int.reduceEq, Int.reduceLT, Int.reduceLE, ↓avp_condG, ↓tf_arrow, ↓ft_arrow, vT.down]
  by_cases c2 : (20 : Int) < (b.length : Int)
  · simp only [vP.down, vS.down, vE.down, Nat.reduceEqDiff, Nat.reduceAdd, Nat.reduceSub, Nat.reduceMul, Nat.reduceLeDiff, Nat.reduceLT, Int.reduceToNat, reduceIte, reduceCtorEq, Int.reduceEq, Int.reduceLT, Int.reduceLE, ↓avp_condG, ↓tf_arrow, ↓ft_arrow, k_law8_SpanRules_law8_begun.down, A_law8_begun, p_law8_begun, r_law8_begun, c1, c2, gt_iff_lt, pick_of, pick_ot]
    simp only [vP.down, vS.down, vE.down, Nat.reduceEqDiff, Nat.reduceAdd, Nat.reduceSub, Nat.reduceMul, Nat.reduceLeDiff, Nat.reduceLT, Int.reduceToNat, reduceIte, reduceCtorEq, Int.reduceEq, Int.reduceLT, Int.reduceLE, ↓avp_condG, ↓tf_arrow, ↓ft_arrow, vT.down]
  by_cases c3 : (20 : Int) < (c.length : Int)
  · simp only [vP.down, vS.down, vE.down, Nat.reduceEqDiff, Nat.reduceAdd, Nat.reduceSub, Nat.reduceMul, Nat.reduceLeDiff, Nat.reduceLT, Int.reduceToNat, reduceIte, reduceCtorEq, Int.reduceEq, Int.reduceLT, Int.reduceLE, ↓avp_condG, ↓tf_arrow, ↓ft_arrow, k_law8_SpanRules_law8_begun.down, A_law8_begun, p_law8_begun, r_law8_begun, c1, c2, c3, gt_iff_lt, pick_of, pick_ot]
    simp only [vP.down, vS.down, vE.down, Nat.reduceEqDiff, Nat.reduceAdd, Nat.reduceSub, Nat.reduceMul, Nat.reduceLeDiff, Nat.reduceLT, Int.reduceToNat, reduceIte, reduceCtorEq, Int.reduceEq, Int.reduceLT, Int.reduceLE, ↓avp_condG, ↓tf_arrow, ↓ft_arrow, vT.down]
  simp only [vP.down, vS.down, vE.down, Nat.reduceEqDiff, Nat.reduceAdd, Nat.reduceSub, Nat.reduceMul, Nat.reduceLeDiff, Nat.reduceLT, Int.reduceToNat, reduceIte, reduceCtorEq, Int.reduceEq, Int.reduceLT, Int.reduceLE, ↓avp_condG, ↓tf_arrow, ↓ft_arrow, k_law8_SpanRules_law8_begun.down, A_law8_begun, p_law8_begun, r_law8_begun, c1, c2, c3, gt_iff_lt, pick_of, pick_ot, k_law8_SpanRules_made_Made.down, q_made_Made, e_made_Made, mk_made_Made, k_law8_SpanRules_made_Picks_Runs.down, m_made_Picks_Runs]
  refine ⟨⟨a, rfl⟩, fun g1 hg1 => ?_⟩
  refine runs_any (pk_new hg1 (by omega)) (by omega) (by omega) fun v1 S1 x hv1 hx H1 _ => ?_
  refine ⟨⟨b, rfl⟩, fun g2 hg2 => ?_⟩
  refine runs_any (pk_new hg2 (by omega)) (by omega) (by omega) fun v2 S2 y hv2 hy H2 _ => ?_
  have hv1' := lv_over hv1 hg2 H2
  refine ⟨⟨c, rfl⟩, fun g3 hg3 => ?_⟩
  refine runs_any (pk_new hg3 (by omega)) (by omega) (by omega) fun v3 S3 z hv3 hz H3 _ => ?_
  have hv1'' := lv_over hv1' hg3 H3
  have hv2' := lv_over hv2 hg3 H3
  exact rules_6 hx hy hz (wk_to fewer_empty (by
    simp only [vP.down, vS.down, vE.down, Nat.reduceEqDiff, Nat.reduceAdd, Nat.reduceSub, Nat.reduceMul, Nat.reduceLeDiff, Nat.reduceLT, Int.reduceToNat, reduceIte, reduceCtorEq, Int.reduceEq, Int.reduceLT, Int.reduceLE, ↓avp_condG, ↓tf_arrow, ↓ft_arrow, wP.down]
    exact ⟨hv1''.w2 fun _ _ => rfl, hv2'.w2 fun _ _ => rfl, hv3.w2 fun _ _ => rfl⟩))
noncomputable def c_law8_SpanRules : Con := fnScal A_law8_SpanRules p_law8_SpanRules r_law8_SpanRules
theorem ok_law8_SpanRules : COk Try.prog 6 c_law8_SpanRules := fn_sok sys_law8_SpanRules mixed Try.func6 (by kernel_rfl) geq_law8_SpanRules Try.ntmps6 (by rw [Try.results6]) (fun x => by simp [rTrue, AV.scal]) fun x hx => ⟨Nat.le_of_ble_eq_true rfl, body_law8_SpanRules x hx⟩
theorem says_law8_SpanRules : SaysTrue Rows.spanRulesSpec 3 := ⟨rfl, fun H ds h => by
  match ds, h with
  | [d0, d1, d2], _ => exact ⟨rfl, rfl, rfl⟩⟩
set_option maxRecDepth 100000 in
theorem lifted_law8_SpanRules (os : Os) (started : os.Started) (H : Type) (enc : TypeId × Value → H) :
    ReturnsInHanded {} Try.checked os 6 .any (Rows.spanRulesSpec.pre6 enc Try.prog Try.f6 Rows.spanRulesRow.domain false) (Rows.spanRulesSpec.post enc Try.prog Try.f6 false true false false) := by
  refine returnsInHanded_of_change (C := Try.checked) own started (by kernel_rfl) Try.func6
    (ChangeSpec.witness6 (enc := enc) (C := Try.checked) false ⟨#[], #[.slice none 0 0, .slice none 0 0, .slice none 0 0], []⟩ 8 (by kernel_rfl) (by kernel_rfl) (by kernel_rfl) (by kernel_rfl)) ?_
  intro W base args ds gs before hval hW _ _
  exact law_contract (ts := [22, 22, 22]) (tb := 4) ok_law8_SpanRules (by rw [Try.params6]) (by kernel_rfl) Try.underlying4 laid (by kernel_rfl) rd_law8_SpanRules (fun _ h => h) says_law8_SpanRules H enc W base args ds gs before hval hW
theorem over_law8_SpanRules : Rows.spanRulesRow.holds Try.pinned (OpenSpec.ofChange Rows.spanRulesSpec) :=
  OpenClaim.holds_of_wide 6 Try.f6 rfl rfl rfl rfl rfl rfl rfl ⟨rfl, rfl, rfl, rfl, rfl⟩ rfl rfl rfl rfl rfl (by kernel_rfl) Try.func6 (by kernel_rfl)
    (of_decide_eq_true (by kernel_rfl)) (by unfold Func.isWrapper; first | (rw [if_pos (by decide +kernel)]; kernel_rfl) | (rw [if_neg (by decide +kernel)]; exact ⟨rfl, rfl⟩))
    (fun os started H enc _ => lifted_law8_SpanRules os started H enc)
theorem spanRules_holds : Rows.SpanRulesSaid := over_law8_SpanRules
end Go.Proofs.Ytcahbcdikcjihaa

