/-
  What the laws lean on: how long sets are; what is still.
-/
import Derived.Test.YtgdaibdfjhchbaaFnsE
set_option linter.unusedSimpArgs false
set_option linter.unusedVariables false
namespace Go.Proofs.Ytgdaibdfjhchbaa
open Go Go.Eng
set_option maxRecDepth 100000
theorem cnt_ge : ∀ {l : List TRun}, Nf l → (l.length : Int) ≤ cntR l
  | [], _ => Int.le_refl _
  | r :: t, h => by
    have h1 := cnt_ge h.tail
    have h2 := h.head.1
    have e : cntR (r :: t) = r.To - r.From + cntR t := by simp [cntR]
    rw [e, List.length_cons]
    omega
theorem nf_len {l : List TRun} {a : Int} {k : Nat} (h : Nf l) (hw : Wn a k l) : l.length ≤ k := by
  have h1 := cnt_ge h
  rw [cntR_card h hw] at h1
  have h2 := List.length_filter_le (hasR l) (seg a k)
  rw [seg_len] at h2
  omega
theorem Sp.len {s : TSpace} (h : Sp s) : lenS s := by
  have h1 := nf_len h.nh h.wh
  have h2 := nf_len h.no h.wo
  have h3 := nf_len h.nt h.wt
  have h4 := nf_len h.nk h.wk
  have e1 : s.Held.length ≤ 1000 := by omega
  have e2 : s.One.length ≤ 1000 := by omega
  have e3 : s.Two.length ≤ 1000 := by omega
  have e4 : s.Kept.length ≤ 1000 := by omega
  exact ⟨e1, e2, e3, e4⟩
theorem less_self {l : List TRun} : whereL .less l l = [] := where_nil.2 fun i => by
  show (hasR l i && !hasR l i) = false
  cases hasR l i <;> rfl
theorem less_nl {l : List TRun} : whereL .less [] l = [] := where_nil.2 fun i => rfl
theorem still_eq {s : TSpace} {h : List TRun} : turnM (turnM (turnM s h) h) h = ⟨h, [], [], s.Kept⟩ := by
  simp only [turnM, less_self, less_nl]
theorem still_turn {h k : List TRun} : turnM ⟨h, [], [], k⟩ h = ⟨h, [], [], k⟩ := by
  simp only [turnM, less_self, less_nl]
theorem still_free {h k : List TRun} (hS : Sp ⟨h, [], [], k⟩) : whereL .less (whereL .less [(⟨14, 54⟩ : TRun)] h) k = freeM 40 ⟨h, [], [], k⟩ := by
  refine nf_ext where_nf free_nf fun i => ?_
  have e := hS.free (n := 40) rfl i
  rw [show ((40 : Nat) : Int) = 40 from rfl] at e
  rw [e, where_has, where_has]
  have e2 : hasR [(⟨14, 54⟩ : TRun)] i = (decide (14 ≤ i) && decide (i < 14 + 40)) := all_has (n := 40)
  rw [e2]
  show ((decide (14 ≤ i) && decide (i < 14 + 40) && !hasR h i) && !hasR k i) = (decide (14 ≤ i) && decide (i < 14 + 40) && !(hasR h i || (false || (false || hasR k i))))
  cases hasR h i <;> cases hasR k i <;> simp
end Go.Proofs.Ytgdaibdfjhchbaa


namespace Go.Proofs.Ytgdaibdfjhchbaa
open Go Go.Eng
set_option maxRecDepth 100000
theorem card40 {l : List TRun} (h : Nf l) (hw : Wn 14 40 l) : l.length ≤ 40 ∧ okB l ∧ 0 ≤ cntR l ∧ cntR l ≤ 40 := by
  have e := cntR_card h hw
  have h2 := List.length_filter_le (hasR l) (seg 14 40)
  rw [seg_len] at h2
  exact ⟨nf_len h hw, okB_of h hw (by omega) (by omega), by omega, by omega⟩
/-- What a group holds: of what was held, and of what was free. -/
def growH (s : TSpace) (x y f : List TRun) : List TRun := whereL .add (whereL .both x s.Held) (whereL .both y f)
theorem grow_nf {s : TSpace} {x y f : List TRun} : Nf (growH s x y f) := where_nf
theorem grow_wn {s : TSpace} (h : Sp s) {x y f : List TRun} (hx : Wn 14 40 x) (hy : Wn 14 40 y) (hf : Wn 14 40 f) : Wn 14 40 (growH s x y f) := where_wn (where_wn hx h.wh) (where_wn hy hf)
theorem grow_all {s : TSpace} (h : Sp s) {x y f g : List TRun} (hx : Wn 14 40 x) (hy : Wn 14 40 y) (hf : f = freeM 40 s) (hg : g = freeM 40 (turnM s (growH s x y f))) :
    cntR g = cntR f - cntR (whereL .both y f) + cntR (whereL .less s.Two s.Kept) ∧ whereL .both g (whereL .both y f) = [] ∧ whereL .less (whereL .less f (whereL .both y f)) g = [] := by
  have d40 : dataOk ((40 : Nat) : Int) = true := rfl
  have wf : Wn 14 40 f := hf ▸ h.fwn d40
  have nf : Nf f := hf ▸ free_nf
  have ht := h.turn grow_nf (grow_wn h hx hy wf)
  have ef : ∀ i, hasR f i = (decide (14 ≤ i) && decide (i < 54) && !inS s i) := fun i => hf ▸ h.free d40 i
  have eg : ∀ i, hasR g i = (decide (14 ≤ i) && decide (i < 54) && !(((hasR x i && hasR s.Held i) || (hasR y i && hasR f i)) || (hasR s.Held i || (hasR s.One i || hasR s.Kept i)))) := fun i => by
    have := ht.free d40 i
    rw [turn_in] at this
    have e2 : hasR (growH s x y f) i = ((hasR x i && hasR s.Held i) || (hasR y i && hasR f i)) := by
      rw [growH, where_has, where_has, where_has]; rfl
    rw [e2] at this
    exact hg ▸ this
  have d1 := h.d1
  have d2 := h.d2
  have d3 := h.d3
  have wt := h.wt
  have hin : ∀ i, hasR s.Two i = true → (decide (14 ≤ i) && decide (i < 54)) = true := fun i hi => by
    have := wt i hi
    rw [decide_eq_true (by omega), decide_eq_true (by omega)]; rfl
  have sum : whereL .add (whereL .less f (whereL .both y f)) (whereL .less s.Two s.Kept) = g := nf_ext where_nf (hg ▸ free_nf) fun i => by
    have a2 := d2 i
    have a3 := d3 i
    have a4 := hin i
    rw [where_has, where_has, where_has, where_has, eg, ef]
    simp only [How.op, inS]
    revert a2 a3 a4
    generalize (decide (14 ≤ i) && decide (i < 54)) = I
    cases I <;> cases hasR s.Held i <;> cases hasR s.One i <;> cases hasR s.Two i <;> cases hasR s.Kept i <;> cases hasR x i <;> cases hasR y i <;> simp
  have dis : whereL .both (whereL .less f (whereL .both y f)) (whereL .less s.Two s.Kept) = [] := where_nil.2 fun i => by
    rw [where_has, where_has, where_has, ef]
    simp only [How.op, inS]
    generalize (decide (14 ≤ i) && decide (i < 54)) = I
    cases I <;> cases hasR s.Held i <;> cases hasR s.One i <;> cases hasR s.Two i <;> cases hasR s.Kept i <;> cases hasR y i <;> simp
  have fm : whereL .both f (whereL .both y f) = whereL .both y f := nf_ext where_nf where_nf fun i => by
    rw [where_has, where_has]
    simp only [How.op]
    cases hasR f i <;> cases hasR y i <;> rfl
  have wm := where_wn (h := .both) hy wf
  have wl : Wn 14 40 (whereL .less f (whereL .both y f)) := less_wn wf
  have wk : Wn 14 40 (whereL .less s.Two s.Kept) := less_wn h.wt
  have c1 := cnt_two (l := whereL .less f (whereL .both y f)) (m := whereL .less s.Two s.Kept) where_nf where_nf wl wk
  have c2 := cnt_less (l := f) (m := whereL .both y f) nf wf wm
  rw [sum, dis] at c1
  rw [fm] at c2
  have c0 : cntR ([] : List TRun) = 0 := rfl
  refine ⟨by omega, where_nil.2 fun i => ?_, where_nil.2 fun i => ?_⟩
  · rw [where_has, eg, ef]
    simp only [How.op, inS]
    generalize (decide (14 ≤ i) && decide (i < 54)) = I
    cases I <;> cases hasR s.Held i <;> cases hasR s.One i <;> cases hasR s.Two i <;> cases hasR s.Kept i <;> cases hasR y i <;> simp
  · rw [where_has, where_has, eg, ef]
    simp only [How.op, inS]
    have a2 := d2 i
    have a3 := d3 i
    have a4 := hin i
    revert a2 a3 a4
    generalize (decide (14 ≤ i) && decide (i < 54)) = I
    cases I <;> cases hasR s.Held i <;> cases hasR s.One i <;> cases hasR s.Two i <;> cases hasR s.Kept i <;> cases hasR x i <;> cases hasR y i <;> simp
end Go.Proofs.Ytgdaibdfjhchbaa


namespace Go.Proofs.Ytgdaibdfjhchbaa
open Go Go.Eng
set_option maxRecDepth 100000
def G_law10_SpaceGrows_9 : GCode := .seq (.seq .weak (.region [⟨(some 68), none, .load 26 (.tmp 13)⟩, ⟨(some 69), none, .move (.tmp 15)⟩, ⟨(some 70), none, .move (.tmp 16)⟩, ⟨(some 71), none, .call ⟨.value (.func 30), #[.tmp 69, .tmp 70], #[23, 23]⟩⟩, ⟨(some 72), none, .call ⟨.value (.func 22), #[.tmp 68, .tmp 71], #[26, 23]⟩⟩, ⟨(some 17), none, .alloc 26⟩, ⟨none, none, .store 26 (.tmp 17) (.tmp 72)⟩])) (.seq (.seq .weak (.region [⟨(some 73), none, .load 26 (.tmp 17)⟩, ⟨(some 74), none, .call ⟨.value (.func 19), #[.const (.int .i64 40), .tmp 73], #[3, 26]⟩⟩, ⟨(some 18), none, .assign (.tmp 74)⟩])) (.seq (.seq .weak (.region [⟨(some 75), none, .move (.tmp 14)⟩, ⟨(some 76), none, .call ⟨.value (.func 29), #[.tmp 75], #[23]⟩⟩, ⟨(some 77), none, .move (.tmp 16)⟩, ⟨(some 78), none, .call ⟨.value (.func 29), #[.tmp 77], #[23]⟩⟩, ⟨(some 79), none, .binOp .sub 3 (.tmp 76) (.tmp 78) 3⟩, ⟨(some 19), none, .assign (.tmp 79)⟩])) (.seq (.seq .weak (.region [⟨(some 80), none, .load 26 (.tmp 17)⟩, ⟨(some 81), none, .call ⟨.value (.func 16), #[.const (.int .i64 40), .tmp 80], #[3, 26]⟩⟩, ⟨(some 82), none, .move (.tmp 81)⟩, ⟨(some 83), (some (82, true)), .move (.tmp 18)⟩, ⟨(some 84), (some (82, true)), .call ⟨.value (.func 29), #[.tmp 83], #[23]⟩⟩, ⟨(some 85), (some (82, true)), .move (.tmp 19)⟩, ⟨(some 86), (some (82, true)), .fieldAddr 26 (.tmp 13) 2⟩, ⟨(some 87), (some (82, true)), .load 23 (.tmp 86)⟩, ⟨(some 88), (some (82, true)), .fieldAddr 26 (.tmp 13) 3⟩, ⟨(some 89), (some (82, true)), .load 23 (.tmp 88)⟩, ⟨(some 90), (some (82, true)), .call ⟨.value (.func 31), #[.tmp 87, .tmp 89], #[23, 23]⟩⟩, ⟨(some 91), (some (82, true)), .call ⟨.value (.func 29), #[.tmp 90], #[23]⟩⟩, ⟨(some 92), (some (82, true)), .binOp .add 3 (.tmp 85) (.tmp 91) 3⟩, ⟨(some 93), (some (82, true)), .binOp .eql 3 (.tmp 84) (.tmp 92) 3⟩, ⟨(some 94), none, .pick (.tmp 82) (.tmp 93) (.const (.bool false))⟩, ⟨(some 95), none, .move (.tmp 94)⟩, ⟨(some 96), (some (95, true)), .move (.tmp 18)⟩, ⟨(some 97), (some (95, true)), .move (.tmp 16)⟩, ⟨(some 98), (some (95, true)), .call ⟨.value (.func 28), #[.tmp 96, .tmp 97], #[23, 23]⟩⟩, ⟨(some 99), (some (95, true)), .call ⟨.builtin .len, #[.tmp 98], #[23]⟩⟩, ⟨(some 100), (some (95, true)), .binOp .eql 3 (.tmp 99) (.const (.int .i64 0)) 3⟩, ⟨(some 101), none, .pick (.tmp 95) (.tmp 100) (.const (.bool false))⟩, ⟨(some 102), none, .move (.tmp 101)⟩, ⟨(some 103), (some (102, true)), .move (.tmp 14)⟩, ⟨(some 104), (some (102, true)), .move (.tmp 16)⟩, ⟨(some 105), (some (102, true)), .call ⟨.value (.func 31), #[.tmp 103, .tmp 104], #[23, 23]⟩⟩, ⟨(some 106), (some (102, true)), .move (.tmp 18)⟩, ⟨(some 107), (some (102, true)), .call ⟨.value (.func 31), #[.tmp 105, .tmp 106], #[23, 23]⟩⟩, ⟨(some 108), (some (102, true)), .call ⟨.builtin .len, #[.tmp 107], #[23]⟩⟩, ⟨(some 109), (some (102, true)), .binOp .eql 3 (.tmp 108) (.const (.int .i64 0)) 3⟩, ⟨(some 110), none, .pick (.tmp 102) (.tmp 109) (.const (.bool false))⟩, ⟨(some 12), none, .assign (.tmp 110)⟩])) (.ret))))
def G_law10_SpaceGrows : GCode := .seq (.region [⟨(some 12), none, .assign (.const (.bool false))⟩]) (.seq (.seq (.region [⟨(some 20), none, .call ⟨.value (.func 10), #[], #[]⟩⟩, ⟨(some 21), none, .unOp .not 4 (.tmp 20)⟩]) (.cond (.tmp 21) (.seq (.region [⟨(some 12), none, .assign (.const (.bool false))⟩]) (.ret)) (.skip))) (.seq (.seq (.region [⟨(some 22), none, .move (.tmp 0)⟩, ⟨(some 23), none, .call ⟨.builtin .len, #[.tmp 22], #[22]⟩⟩, ⟨(some 24), none, .binOp .gtr 3 (.tmp 23) (.const (.int .i64 20)) 3⟩, ⟨(some 25), none, .move (.tmp 24)⟩, ⟨(some 26), (some (25, false)), .move (.tmp 1)⟩, ⟨(some 27), (some (25, false)), .call ⟨.builtin .len, #[.tmp 26], #[22]⟩⟩, ⟨(some 28), (some (25, false)), .binOp .gtr 3 (.tmp 27) (.const (.int .i64 20)) 3⟩, ⟨(some 29), none, .pick (.tmp 25) (.const (.bool true)) (.tmp 28)⟩, ⟨(some 30), none, .move (.tmp 29)⟩, ⟨(some 31), (some (30, false)), .move (.tmp 2)⟩, ⟨(some 32), (some (30, false)), .call ⟨.builtin .len, #[.tmp 31], #[22]⟩⟩, ⟨(some 33), (some (30, false)), .binOp .gtr 3 (.tmp 32) (.const (.int .i64 20)) 3⟩, ⟨(some 34), none, .pick (.tmp 30) (.const (.bool true)) (.tmp 33)⟩, ⟨(some 35), none, .move (.tmp 34)⟩, ⟨(some 36), (some (35, false)), .move (.tmp 3)⟩, ⟨(some 37), (some (35, false)), .call ⟨.builtin .len, #[.tmp 36], #[22]⟩⟩, ⟨(some 38), (some (35, false)), .binOp .gtr 3 (.tmp 37) (.const (.int .i64 20)) 3⟩, ⟨(some 39), none, .pick (.tmp 35) (.const (.bool true)) (.tmp 38)⟩, ⟨(some 40), none, .move (.tmp 39)⟩, ⟨(some 41), (some (40, false)), .move (.tmp 4)⟩, ⟨(some 42), (some (40, false)), .call ⟨.builtin .len, #[.tmp 41], #[22]⟩⟩, ⟨(some 43), (some (40, false)), .binOp .gtr 3 (.tmp 42) (.const (.int .i64 20)) 3⟩, ⟨(some 44), none, .pick (.tmp 40) (.const (.bool true)) (.tmp 43)⟩, ⟨(some 45), none, .move (.tmp 44)⟩, ⟨(some 46), (some (45, false)), .move (.tmp 5)⟩, ⟨(some 47), (some (45, false)), .call ⟨.builtin .len, #[.tmp 46], #[22]⟩⟩, ⟨(some 48), (some (45, false)), .binOp .gtr 3 (.tmp 47) (.const (.int .i64 20)) 3⟩, ⟨(some 49), none, .pick (.tmp 45) (.const (.bool true)) (.tmp 48)⟩]) (.cond (.tmp 49) (.seq (.region [⟨(some 12), none, .assign (.const (.bool true))⟩]) (.ret)) (.skip))) (.seq (.seq .weak (.region [⟨(some 50), none, .move (.tmp 0)⟩, ⟨(some 51), none, .move (.tmp 1)⟩, ⟨(some 52), none, .move (.tmp 2)⟩, ⟨(some 53), none, .move (.tmp 3)⟩, ⟨(some 54), none, .call ⟨.value (.func 11), #[.tmp 50, .tmp 51, .tmp 52, .tmp 53], #[22, 22, 22, 22]⟩⟩, ⟨(some 13), none, .alloc 26⟩, ⟨none, none, .store 26 (.tmp 13) (.tmp 54)⟩])) (.seq (.seq .weak (.seq .weak (.region [⟨(some 55), none, .load 26 (.tmp 13)⟩, ⟨(some 56), none, .call ⟨.value (.func 19), #[.const (.int .i64 40), .tmp 55], #[3, 26]⟩⟩, ⟨(some 14), none, .assign (.tmp 56)⟩]))) (.seq (.seq .weak (.orders (.one ⟨(some 57), none, .move (.tmp 4)⟩ (.one ⟨(some 58), none, .call ⟨.value (.func 12), #[.tmp 57], #[22]⟩⟩ (.one ⟨(some 60), none, .fieldAddr 26 (.tmp 13) 0⟩ (.both (.one ⟨(some 59), none, .call ⟨.value (.func 13), #[.tmp 58, .const (.int .i64 8)], #[28, 3]⟩⟩ (.one ⟨(some 61), none, .load 23 (.tmp 60)⟩ (.one ⟨(some 62), none, .call ⟨.value (.func 28), #[.tmp 59, .tmp 61], #[23, 23]⟩⟩ (.one ⟨(some 15), none, .assign (.tmp 62)⟩ (.done))))) (.one ⟨(some 61), none, .load 23 (.tmp 60)⟩ (.one ⟨(some 59), none, .call ⟨.value (.func 13), #[.tmp 58, .const (.int .i64 8)], #[28, 3]⟩⟩ (.one ⟨(some 62), none, .call ⟨.value (.func 28), #[.tmp 59, .tmp 61], #[23, 23]⟩⟩ (.one ⟨(some 15), none, .assign (.tmp 62)⟩ (.done))))))))))) (.seq (.seq .weak (.region [⟨(some 63), none, .move (.tmp 5)⟩, ⟨(some 64), none, .call ⟨.value (.func 12), #[.tmp 63], #[22]⟩⟩, ⟨(some 65), none, .call ⟨.value (.func 13), #[.tmp 64, .const (.int .i64 8)], #[28, 3]⟩⟩, ⟨(some 66), none, .move (.tmp 14)⟩, ⟨(some 67), none, .call ⟨.value (.func 28), #[.tmp 65, .tmp 66], #[23, 23]⟩⟩, ⟨(some 16), none, .assign (.tmp 67)⟩])) (G_law10_SpaceGrows_9)))))))
noncomputable def l_law10_SpaceGrows : List (Nat × Con) := [(10, c_law10_begun), (11, c_law10_made), (19, c_space_Free), (12, c_made_Made), (13, c_made_Picks_Runs), (28, c_ref8_Both), (30, c_ref8_Add), (22, c_space_Turn), (29, c_ref8_Count), (16, c_space_May), (31, c_ref8_Less)]
noncomputable abbrev K_law10_SpaceGrows : Ctx := ctx (cl l_law10_SpaceGrows)
theorem geq_law10_SpaceGrows : gof K_law10_SpaceGrows Try.f6 = some G_law10_SpaceGrows.strip := by kernel_rfl
theorem sys_law10_SpaceGrows : Go.Eng.Sys Try.prog K_law10_SpaceGrows := sys_of' ⟨ok_law10_begun, ok_law10_made, ok_space_Free, ok_made_Made, ok_made_Picks_Runs, ok_ref8_Both, ok_ref8_Add, ok_space_Turn, ok_ref8_Count, ok_space_May, ok_ref8_Less, trivial⟩
theorem hm_law10_SpaceGrows : ConMono K_law10_SpaceGrows := conMono_of sys_law10_SpaceGrows.con
noncomputable def k_law10_SpaceGrows_law10_begun := PLift.up (call_scal (C := K_law10_SpaceGrows) (f := 10) (A := A_law10_begun) (p := p_law10_begun) (r := r_law10_begun) rfl)
noncomputable def k_law10_SpaceGrows_law10_made := PLift.up (call_gen (C := K_law10_SpaceGrows) (f := 11) (modes := m_law10_made) (F := F_law10_made) rfl)
noncomputable def k_law10_SpaceGrows_space_Free := PLift.up (call_fn (C := K_law10_SpaceGrows) (f := 19) (A := A_space_Free) (p := p_space_Free) (r := r_space_Free) rfl)
noncomputable def k_law10_SpaceGrows_made_Made := PLift.up (call_new (C := K_law10_SpaceGrows) (f := 12) (c := q_made_Made) (e := e_made_Made) (mk := mk_made_Made) rfl)
noncomputable def k_law10_SpaceGrows_made_Picks_Runs := PLift.up (call_gen (C := K_law10_SpaceGrows) (f := 13) (modes := m_made_Picks_Runs) (F := F_made_Picks_Runs) rfl)
noncomputable def k_law10_SpaceGrows_ref8_Both := PLift.up (call_fn (C := K_law10_SpaceGrows) (f := 28) (A := A_ref8_Both) (p := p_ref8_Both) (r := r_ref8_Both) rfl)
noncomputable def k_law10_SpaceGrows_ref8_Add := PLift.up (call_fn (C := K_law10_SpaceGrows) (f := 30) (A := A_ref8_Add) (p := p_ref8_Add) (r := r_ref8_Add) rfl)
noncomputable def k_law10_SpaceGrows_space_Turn := PLift.up (call_fn (C := K_law10_SpaceGrows) (f := 22) (A := A_space_Turn) (p := p_space_Turn) (r := r_space_Turn) rfl)
noncomputable def k_law10_SpaceGrows_ref8_Count := PLift.up (call_scal (C := K_law10_SpaceGrows) (f := 29) (A := A_ref8_Count) (p := p_ref8_Count) (r := r_ref8_Count) rfl)
noncomputable def k_law10_SpaceGrows_space_May := PLift.up (call_scal (C := K_law10_SpaceGrows) (f := 16) (A := A_space_May) (p := p_space_May) (r := r_space_May) rfl)
noncomputable def k_law10_SpaceGrows_ref8_Less := PLift.up (call_fn (C := K_law10_SpaceGrows) (f := 31) (A := A_ref8_Less) (p := p_ref8_Less) (r := r_ref8_Less) rfl)
set_option maxHeartbeats 4000000 in
theorem grows_9 {s : TSpace} (hS : Sp s) {x y f : List TRun} (hx : Wn 14 40 x) (hy : Wn 14 40 y) (hf : f = freeM 40 s) {σ : St} (hσ : Wk σ (mkS [(13, .imm (spC s)), (14, .t (sl f)), (15, .t (sl (whereL .both x s.Held))), (16, .t (sl (whereL .both y f)))] .empty)) :
    avp K_law10_SpaceGrows G_law10_SpaceGrows_9 (Ret K_law10_SpaceGrows [.tmp 12] fun v _ => v = .t (.bool true)) σ := by
  unfold G_law10_SpaceGrows_9
  simp only [avp_seq]
  refine ⟨_, hσ, ?_⟩
  have d40 : dataOk ((40 : Nat) : Int) = true := rfl
  have wf : Wn 14 40 f := hf ▸ hS.fwn d40
  have nf : Nf f := hf ▸ free_nf
  obtain ⟨a1, a2, a3⟩ := grow_all hS hx hy hf rfl
  have hT := hS.turn grow_nf (grow_wn hS hx hy wf)
  have lh := nf_len grow_nf (grow_wn hS hx hy wf)
  have eh : whereL .add (whereL .both x s.Held) (whereL .both y f) = growH s x y f := rfl
  have wo := where_wn (h := .both) hx hS.wh
  have wm := where_wn (h := .both) hy wf
  have lo := nf_len (where_nf (h := .both) (l := x) (m := s.Held)) wo
  obtain ⟨lm, om, m0, m1⟩ := card40 (where_nf (h := .both) (l := y) (m := f)) wm
  obtain ⟨lf, of, f0, f1⟩ := card40 nf wf
  obtain ⟨lg, og, g0, g1⟩ := card40 free_nf (hT.fwn d40)
  obtain ⟨lk, ok, k0, k1⟩ := card40 (where_nf (h := .less) (l := s.Two) (m := s.Kept)) (less_wn hS.wt)
  obtain ⟨old, hold⟩ : ∃ o, o = whereL .both x s.Held := ⟨_, rfl⟩
  obtain ⟨more, hmore⟩ : ∃ o, o = whereL .both y f := ⟨_, rfl⟩
  rw [← hold] at eh lo ⊢
  rw [← hmore] at eh lm om m0 m1 a1 a2 a3 ⊢
  have hok := hT.ok d40
  have hlT := hT.len
  obtain ⟨h, hh⟩ : ∃ h, h = growH s x y f := ⟨_, rfl⟩
  rw [← hh] at eh lh a1 a2 a3 hok hlT lg og g0 g1
  have lS := hS.len
  have p1 : old.length + more.length ≤ 1099511627 := by omega
  have p2 : h.length ≤ 1000 := by omega
  simp only [vP.down, vS.down, vE.down, Nat.reduceEqDiff, Nat.reduceAdd, Nat.reduceSub, Nat.reduceMul, Nat.reduceLeDiff, Nat.reduceLT, Int.reduceToNat, reduceIte, reduceCtorEq, Int.reduceEq, Int.reduceLT, Int.reduceLE, ↓avp_condG, ↓tf_arrow, ↓ft_arrow, p1, p2, lS, eh, spC, k_law10_SpaceGrows_ref8_Add.down, A_ref8_Add, p_ref8_Add, r_ref8_Add, k_law10_SpaceGrows_space_Turn.down, A_space_Turn, p_space_Turn, r_space_Turn]
  intro g3 hg3
  obtain ⟨t, ht⟩ : ∃ t, t = turnM s h := ⟨_, rfl⟩
  rw [← ht] at a1 a2 a3 hok hlT lg og g0 g1 ⊢
  refine weak_at [(13, .imm (spC s)), (14, .t (sl f)), (16, .t (sl more)), (17, .imm (spC t))] .empty fewer_empty (by
    simp only [vP.down, vS.down, vE.down, Nat.reduceEqDiff, Nat.reduceAdd, Nat.reduceSub, Nat.reduceMul, Nat.reduceLeDiff, Nat.reduceLT, Int.reduceToNat, reduceIte, reduceCtorEq, Int.reduceEq, Int.reduceLT, Int.reduceLE, ↓avp_condG, ↓tf_arrow, ↓ft_arrow, wP.down, spC]
    exact w2_imm (l := spC t) (ro := false) (Store.set_same _ _ _) rfl) ?_
  simp only [vP.down, vS.down, vE.down, Nat.reduceEqDiff, Nat.reduceAdd, Nat.reduceSub, Nat.reduceMul, Nat.reduceLeDiff, Nat.reduceLT, Int.reduceToNat, reduceIte, reduceCtorEq, Int.reduceEq, Int.reduceLT, Int.reduceLE, ↓avp_condG, ↓tf_arrow, ↓ft_arrow, hlT, spC, k_law10_SpaceGrows_space_Free.down, A_space_Free, p_space_Free, r_space_Free]
  have e40 : freeM ((40 : Nat) : Int) t = freeM 40 t := rfl
  obtain ⟨G, hG⟩ : ∃ G, G = freeM 40 t := ⟨_, rfl⟩
  rw [← hG] at a1 a2 a3
  have lg : G.length ≤ 40 := hG ▸ lg
  have og : okB G := hG ▸ og
  have g0 : 0 ≤ cntR G := hG ▸ g0
  have g1 : cntR G ≤ 40 := hG ▸ g1
  rw [← hG]
  refine weak_at [(13, .imm (spC s)), (14, .t (sl f)), (16, .t (sl more)), (17, .imm (spC t)), (18, .t (sl G))] .empty fewer_refl (by simp only [vP.down, vS.down, vE.down, Nat.reduceEqDiff, Nat.reduceAdd, Nat.reduceSub, Nat.reduceMul, Nat.reduceLeDiff, Nat.reduceLT, Int.reduceToNat, reduceIte, reduceCtorEq, Int.reduceEq, Int.reduceLT, Int.reduceLE, ↓avp_condG, ↓tf_arrow, ↓ft_arrow, wP.down, spC]) ?_
  have q1 : f.length ≤ 1048576 := by omega
  have q2 : more.length ≤ 1048576 := by omega
  have q3 : G.length ≤ 1048576 := by omega
  have q4 : (whereL .less s.Two s.Kept).length ≤ 1048576 := by omega
  have w1 : IntKind.i64.wrap (cntR f - cntR more) = cntR f - cntR more := IntWalk.i64_in _ (by omega)
  simp only [vP.down, vS.down, vE.down, Nat.reduceEqDiff, Nat.reduceAdd, Nat.reduceSub, Nat.reduceMul, Nat.reduceLeDiff, Nat.reduceLT, Int.reduceToNat, reduceIte, reduceCtorEq, Int.reduceEq, Int.reduceLT, Int.reduceLE, ↓avp_condG, ↓tf_arrow, ↓ft_arrow, q1, q2, of, om, w1, k_law10_SpaceGrows_ref8_Count.down, A_ref8_Count, p_ref8_Count, r_ref8_Count]
  obtain ⟨n, hn⟩ : ∃ n, n = cntR f - cntR more := ⟨_, rfl⟩
  rw [← hn] at a1 ⊢
  refine weak_at [(13, .imm (spC s)), (14, .t (sl f)), (16, .t (sl more)), (17, .imm (spC t)), (18, .t (sl G)), (19, .t (.int .i64 n))] .empty fewer_refl (by simp only [vP.down, vS.down, vE.down, Nat.reduceEqDiff, Nat.reduceAdd, Nat.reduceSub, Nat.reduceMul, Nat.reduceLeDiff, Nat.reduceLT, Int.reduceToNat, reduceIte, reduceCtorEq, Int.reduceEq, Int.reduceLT, Int.reduceLE, ↓avp_condG, ↓tf_arrow, ↓ft_arrow, wP.down, spC]) ?_
  have w2 : IntKind.i64.wrap (n + cntR (whereL .less s.Two s.Kept)) = cntR G := by rw [IntWalk.i64_in _ (by omega)]; omega
  obtain ⟨_, _, l3, l4⟩ := lS
  have p3 : s.Two.length + s.Kept.length ≤ 1099511627 := by omega
  have p4 : G.length + more.length ≤ 1099511627 := by omega
  have p5 : f.length + more.length ≤ 1099511627 := by omega
  have wl := where_len .less f more
  have p6 : (whereL .less f more).length + G.length ≤ 1099511627 := by omega
  have n0 : (([] : List TRun).length : Int) = 0 := rfl
  have hok' : okSp 40 t = true := hok
  simp only [vP.down, vS.down, vE.down, Nat.reduceEqDiff, Nat.reduceAdd, Nat.reduceSub, Nat.reduceMul, Nat.reduceLeDiff, Nat.reduceLT, Int.reduceToNat, reduceIte, reduceCtorEq, Int.reduceEq, Int.reduceLT, Int.reduceLE, ↓avp_condG, ↓tf_arrow, ↓ft_arrow, hlT, hok', spC, q3, q4, og, ok, w2, a2, a3, n0, p3, p4, p5, p6, pick_of, pick_ot, k_law10_SpaceGrows_space_May.down, A_space_May, p_space_May, r_space_May, k_law10_SpaceGrows_ref8_Count.down, A_ref8_Count, p_ref8_Count, r_ref8_Count, k_law10_SpaceGrows_ref8_Less.down, A_ref8_Less, p_ref8_Less, r_ref8_Less, k_law10_SpaceGrows_ref8_Both.down, A_ref8_Both, p_ref8_Both, r_ref8_Both]
  simp only [vP.down, vS.down, vE.down, Nat.reduceEqDiff, Nat.reduceAdd, Nat.reduceSub, Nat.reduceMul, Nat.reduceLeDiff, Nat.reduceLT, Int.reduceToNat, reduceIte, reduceCtorEq, Int.reduceEq, Int.reduceLT, Int.reduceLE, ↓avp_condG, ↓tf_arrow, ↓ft_arrow, vT.down]
noncomputable def A_law10_SpaceGrows : Arms ((List Byt) × (List Byt) × (List Byt) × (List Byt) × (List Byt) × (List Byt) × Unit) := Arms.cons (argT (List Byt)) (Arms.cons (argT (List Byt)) (Arms.cons (argT (List Byt)) (Arms.cons (argT (List Byt)) (Arms.cons (argT (List Byt)) (Arms.cons (argT (List Byt)) (Arms.nil))))))
def p_law10_SpaceGrows (x : (List Byt) × (List Byt) × (List Byt) × (List Byt) × (List Byt) × (List Byt) × Unit) : Prop := (goodList (fun x : Byt => goodAny x) x.1) ∧ (goodList (fun x : Byt => goodAny x) x.2.1) ∧ (goodList (fun x : Byt => goodAny x) x.2.2.1) ∧ (goodList (fun x : Byt => goodAny x) x.2.2.2.1) ∧ (goodList (fun x : Byt => goodAny x) x.2.2.2.2.1) ∧ (goodList (fun x : Byt => goodAny x) x.2.2.2.2.2.1) ∧ goodAny (x.2.2.2.2.2.2)
abbrev r_law10_SpaceGrows (x : (List Byt) × (List Byt) × (List Byt) × (List Byt) × (List Byt) × (List Byt) × Unit) : AV := rTrue x
theorem rd_law10_SpaceGrows : ReadsA Try.prog [22, 22, 22, 22, 22, 22] A_law10_SpaceGrows p_law10_SpaceGrows := (readsA_T (reads_list Try.underlying22 (reads_u8 Try.underlying5) (by kernel_rfl) (by decide)) (by kernel_rfl) (readsA_T (reads_list Try.underlying22 (reads_u8 Try.underlying5) (by kernel_rfl) (by decide)) (by kernel_rfl) (readsA_T (reads_list Try.underlying22 (reads_u8 Try.underlying5) (by kernel_rfl) (by decide)) (by kernel_rfl) (readsA_T (reads_list Try.underlying22 (reads_u8 Try.underlying5) (by kernel_rfl) (by decide)) (by kernel_rfl) (readsA_T (reads_list Try.underlying22 (reads_u8 Try.underlying5) (by kernel_rfl) (by decide)) (by kernel_rfl) (readsA_T (reads_list Try.underlying22 (reads_u8 Try.underlying5) (by kernel_rfl) (by decide)) (by kernel_rfl) readsA_nil))))))
set_option maxHeartbeats 4000000 in
theorem body_law10_SpaceGrows (x) (hx : p_law10_SpaceGrows x) : avp K_law10_SpaceGrows G_law10_SpaceGrows (Ret K_law10_SpaceGrows [.tmp 12] fun v _ => v = r_law10_SpaceGrows x) (entry (A_law10_SpaceGrows.enc x) .empty) := by
  obtain ⟨a, b, c, d, e, e2, ⟨⟩⟩ := x
  change avp _ _ (Ret _ _ fun v _ => v = .t (.bool true)) (entry [.t (sl a), .t (sl b), .t (sl c), .t (sl d), .t (sl e), .t (sl e2)] .empty)
  unfold G_law10_SpaceGrows
  by_cases c1 : (20 : Int) < (a.length : Int)
  · simp only [vP.down, vS.down, vE.down, Nat.reduceEqDiff, Nat.reduceAdd, Nat.reduceSub, Nat.reduceMul, Nat.reduceLeDiff, Nat.reduceLT, Int.reduceToNat, reduceIte, reduceCtorEq, Int.reduceEq, Int.reduceLT, Int.reduceLE, ↓avp_condG, ↓tf_arrow, ↓ft_arrow, k_law10_SpaceGrows_law10_begun.down, A_law10_begun, p_law10_begun, r_law10_begun, c1, gt_iff_lt, pick_of, pick_ot]
    simp only [vP.down, vS.down, vE.down, Nat.reduceEqDiff, Nat.reduceAdd, Nat.reduceSub, Nat.reduceMul, Nat.reduceLeDiff, Nat.reduceLT, Int.reduceToNat, reduceIte, reduceCtorEq, Int.reduceEq, Int.reduceLT, Int.reduceLE, ↓avp_condG, ↓tf_arrow, ↓ft_arrow, vT.down]
  by_cases c2 : (20 : Int) < (b.length : Int)
  · simp only [vP.down, vS.down, vE.down, Nat.reduceEqDiff, Nat.reduceAdd, Nat.reduceSub, Nat.reduceMul, Nat.reduceLeDiff, Nat.reduceLT, Int.reduceToNat, reduceIte, reduceCtorEq, Int.reduceEq, Int.reduceLT, Int.reduceLE, ↓avp_condG, ↓tf_arrow, ↓ft_arrow, k_law10_SpaceGrows_law10_begun.down, A_law10_begun, p_law10_begun, r_law10_begun, c1, c2, gt_iff_lt, pick_of, pick_ot]
    simp only [vP.down, vS.down, vE.down, Nat.reduceEqDiff, Nat.reduceAdd, Nat.reduceSub, Nat.reduceMul, Nat.reduceLeDiff, Nat.reduceLT, Int.reduceToNat, reduceIte, reduceCtorEq, Int.reduceEq, Int.reduceLT, Int.reduceLE, ↓avp_condG, ↓tf_arrow, ↓ft_arrow, vT.down]
  by_cases c3 : (20 : Int) < (c.length : Int)
  · simp only [vP.down, vS.down, vE.down, Nat.reduceEqDiff, Nat.reduceAdd, Nat.reduceSub, Nat.reduceMul, Nat.reduceLeDiff, Nat.reduceLT, Int.reduceToNat, reduceIte, reduceCtorEq, Int.reduceEq, Int.reduceLT, Int.reduceLE, ↓avp_condG, ↓tf_arrow, ↓ft_arrow, k_law10_SpaceGrows_law10_begun.down, A_law10_begun, p_law10_begun, r_law10_begun, c1, c2, c3, gt_iff_lt, pick_of, pick_ot]
    simp only [vP.down, vS.down, vE.down, Nat.reduceEqDiff, Nat.reduceAdd, Nat.reduceSub, Nat.reduceMul, Nat.reduceLeDiff, Nat.reduceLT, Int.reduceToNat, reduceIte, reduceCtorEq, Int.reduceEq, Int.reduceLT, Int.reduceLE, ↓avp_condG, ↓tf_arrow, ↓ft_arrow, vT.down]
  by_cases c4 : (20 : Int) < (d.length : Int)
  · simp only [vP.down, vS.down, vE.down, Nat.reduceEqDiff, Nat.reduceAdd, Nat.reduceSub, Nat.reduceMul, Nat.reduceLeDiff, Nat.reduceLT, Int.reduceToNat, reduceIte, reduceCtorEq, Int.reduceEq, Int.reduceLT, Int.reduceLE, ↓avp_condG, ↓tf_arrow, ↓ft_arrow, k_law10_SpaceGrows_law10_begun.down, A_law10_begun, p_law10_begun, r_law10_begun, c1, c2, c3, c4, gt_iff_lt, pick_of, pick_ot]
    simp only [vP.down, vS.down, vE.down, Nat.reduceEqDiff, Nat.reduceAdd, Nat.reduceSub, Nat.reduceMul, Nat.reduceLeDiff, Nat.reduceLT, Int.reduceToNat, reduceIte, reduceCtorEq, Int.reduceEq, Int.reduceLT, Int.reduceLE, ↓avp_condG, ↓tf_arrow, ↓ft_arrow, vT.down]
  by_cases c5 : (20 : Int) < (e.length : Int)
  · simp only [vP.down, vS.down, vE.down, Nat.reduceEqDiff, Nat.reduceAdd, Nat.reduceSub, Nat.reduceMul, Nat.reduceLeDiff, Nat.reduceLT, Int.reduceToNat, reduceIte, reduceCtorEq, Int.reduceEq, Int.reduceLT, Int.reduceLE, ↓avp_condG, ↓tf_arrow, ↓ft_arrow, k_law10_SpaceGrows_law10_begun.down, A_law10_begun, p_law10_begun, r_law10_begun, c1, c2, c3, c4, c5, gt_iff_lt, pick_of, pick_ot]
    simp only [vP.down, vS.down, vE.down, Nat.reduceEqDiff, Nat.reduceAdd, Nat.reduceSub, Nat.reduceMul, Nat.reduceLeDiff, Nat.reduceLT, Int.reduceToNat, reduceIte, reduceCtorEq, Int.reduceEq, Int.reduceLT, Int.reduceLE, ↓avp_condG, ↓tf_arrow, ↓ft_arrow, vT.down]
  by_cases c6 : (20 : Int) < (e2.length : Int)
  · simp only [vP.down, vS.down, vE.down, Nat.reduceEqDiff, Nat.reduceAdd, Nat.reduceSub, Nat.reduceMul, Nat.reduceLeDiff, Nat.reduceLT, Int.reduceToNat, reduceIte, reduceCtorEq, Int.reduceEq, Int.reduceLT, Int.reduceLE, ↓avp_condG, ↓tf_arrow, ↓ft_arrow, k_law10_SpaceGrows_law10_begun.down, A_law10_begun, p_law10_begun, r_law10_begun, c1, c2, c3, c4, c5, c6, gt_iff_lt, pick_of, pick_ot]
    simp only [vP.down, vS.down, vE.down, Nat.reduceEqDiff, Nat.reduceAdd, Nat.reduceSub, Nat.reduceMul, Nat.reduceLeDiff, Nat.reduceLT, Int.reduceToNat, reduceIte, reduceCtorEq, Int.reduceEq, Int.reduceLT, Int.reduceLE, ↓avp_condG, ↓tf_arrow, ↓ft_arrow, vT.down]
  simp only [vP.down, vS.down, vE.down, Nat.reduceEqDiff, Nat.reduceAdd, Nat.reduceSub, Nat.reduceMul, Nat.reduceLeDiff, Nat.reduceLT, Int.reduceToNat, reduceIte, reduceCtorEq, Int.reduceEq, Int.reduceLT, Int.reduceLE, ↓avp_condG, ↓tf_arrow, ↓ft_arrow, k_law10_SpaceGrows_law10_begun.down, A_law10_begun, p_law10_begun, r_law10_begun, c1, c2, c3, c4, c5, c6, gt_iff_lt, pick_of, pick_ot]
  refine weak_at [(0, .t (sl a)), (1, .t (sl b)), (2, .t (sl c)), (3, .t (sl d)), (4, .t (sl e)), (5, .t (sl e2))] .empty fewer_refl (by simp only [vP.down, vS.down, vE.down, Nat.reduceEqDiff, Nat.reduceAdd, Nat.reduceSub, Nat.reduceMul, Nat.reduceLeDiff, Nat.reduceLT, Int.reduceToNat, reduceIte, reduceCtorEq, Int.reduceEq, Int.reduceLT, Int.reduceLE, ↓avp_condG, ↓tf_arrow, ↓ft_arrow, wP.down]) ?_
  simp only [vP.down, vS.down, vE.down, Nat.reduceEqDiff, Nat.reduceAdd, Nat.reduceSub, Nat.reduceMul, Nat.reduceLeDiff, Nat.reduceLT, Int.reduceToNat, reduceIte, reduceCtorEq, Int.reduceEq, Int.reduceLT, Int.reduceLE, ↓avp_condG, ↓tf_arrow, ↓ft_arrow, k_law10_SpaceGrows_law10_made.down, m_law10_made]
  refine ⟨a, b, c, d, rfl, ⟨by omega, by omega, by omega, by omega⟩, fun v S X Y Z W hv hX hY hZ hW => ?_⟩
  simp only [vP.down, vS.down, vE.down, Nat.reduceEqDiff, Nat.reduceAdd, Nat.reduceSub, Nat.reduceMul, Nat.reduceLeDiff, Nat.reduceLT, Int.reduceToNat, reduceIte, reduceCtorEq, Int.reduceEq, Int.reduceLT, Int.reduceLE, ↓avp_condG, ↓tf_arrow, ↓ft_arrow, hv.cells, hv.one]
  intro g hg
  refine weak_at [(4, .t (sl e)), (5, .t (sl e2)), (13, .ptr g 0)] (Store.empty.set g (some (.box [.t (sl X), .t (sl (whereL .less Y X)), .t (sl (whereL .less (whereL .less Z X) (whereL .less Y X))), .t (sl W)] false))) (sp_freeze (Store.set_same _ _ _) (hv.fresh hg)) (by simp only [vP.down, vS.down, vE.down, Nat.reduceEqDiff, Nat.reduceAdd, Nat.reduceSub, Nat.reduceMul, Nat.reduceLeDiff, Nat.reduceLT, Int.reduceToNat, reduceIte, reduceCtorEq, Int.reduceEq, Int.reduceLT, Int.reduceLE, ↓avp_condG, ↓tf_arrow, ↓ft_arrow, wP.down]) ?_
  simp only [vP.down, vS.down, vE.down, Nat.reduceEqDiff, Nat.reduceAdd, Nat.reduceSub, Nat.reduceMul, Nat.reduceLeDiff, Nat.reduceLT, Int.reduceToNat, reduceIte, reduceCtorEq, Int.reduceEq, Int.reduceLT, Int.reduceLE, ↓avp_condG, ↓tf_arrow, ↓ft_arrow]
  refine weak_at [(4, .t (sl e)), (5, .t (sl e2)), (13, .imm (spC (madeM X Y Z W)))] .empty fewer_empty (by
    simp only [vP.down, vS.down, vE.down, Nat.reduceEqDiff, Nat.reduceAdd, Nat.reduceSub, Nat.reduceMul, Nat.reduceLeDiff, Nat.reduceLT, Int.reduceToNat, reduceIte, reduceCtorEq, Int.reduceEq, Int.reduceLT, Int.reduceLE, ↓avp_condG, ↓tf_arrow, ↓ft_arrow, wP.down]
    exact w2_imm (l := spC (madeM X Y Z W)) (ro := false) (Store.set_same _ _ _) rfl) ?_
  clear hv hg
  have hS := made_sp hX hY hZ hW
  have hl := made_len hX hY hZ hW
  obtain ⟨s, hs⟩ : ∃ s, s = madeM X Y Z W := ⟨_, rfl⟩
  rw [← hs] at hS hl ⊢
  simp only [vP.down, vS.down, vE.down, Nat.reduceEqDiff, Nat.reduceAdd, Nat.reduceSub, Nat.reduceMul, Nat.reduceLeDiff, Nat.reduceLT, Int.reduceToNat, reduceIte, reduceCtorEq, Int.reduceEq, Int.reduceLT, Int.reduceLE, ↓avp_condG, ↓tf_arrow, ↓ft_arrow, hl, spC, k_law10_SpaceGrows_space_Free.down, A_space_Free, p_space_Free, r_space_Free]
  obtain ⟨f, hf⟩ : ∃ f, f = freeM 40 s := ⟨_, rfl⟩
  rw [← hf]
  have lf : f.length ≤ 1000000 := hf ▸ free_len hl
  refine weak_at [(4, .t (sl e)), (5, .t (sl e2)), (13, .imm (spC s)), (14, .t (sl f))] .empty fewer_refl (by simp only [vP.down, vS.down, vE.down, Nat.reduceEqDiff, Nat.reduceAdd, Nat.reduceSub, Nat.reduceMul, Nat.reduceLeDiff, Nat.reduceLT, Int.reduceToNat, reduceIte, reduceCtorEq, Int.reduceEq, Int.reduceLT, Int.reduceLE, ↓avp_condG, ↓tf_arrow, ↓ft_arrow, wP.down, spC]) ?_
  simp only [vP.down, vS.down, vE.down, Nat.reduceEqDiff, Nat.reduceAdd, Nat.reduceSub, Nat.reduceMul, Nat.reduceLeDiff, Nat.reduceLT, Int.reduceToNat, reduceIte, reduceCtorEq, Int.reduceEq, Int.reduceLT, Int.reduceLE, ↓avp_condG, ↓tf_arrow, ↓ft_arrow, spC, k_law10_SpaceGrows_made_Made.down, q_made_Made, e_made_Made, mk_made_Made, k_law10_SpaceGrows_made_Picks_Runs.down, m_made_Picks_Runs]
  refine ⟨⟨e, rfl⟩, fun g1 hg1 => ?_⟩
  constructor
  all_goals
    refine runs_any (pk_new hg1 (by omega)) (by omega) (by omega) fun v1 S1 x hv1 hx H1 _ => ?_
    obtain ⟨u, ros, hb, _, hdc⟩ := hv1.borrow
    have lx := hx.len8
    have l1 := hl.1
    have p1 : x.length + s.Held.length ≤ 1099511627 := by omega
    simp only [vP.down, vS.down, vE.down, Nat.reduceEqDiff, Nat.reduceAdd, Nat.reduceSub, Nat.reduceMul, Nat.reduceLeDiff, Nat.reduceLT, Int.reduceToNat, reduceIte, reduceCtorEq, Int.reduceEq, Int.reduceLT, Int.reduceLE, ↓avp_condG, ↓tf_arrow, ↓ft_arrow, hb, hdc, spC, p1, k_law10_SpaceGrows_ref8_Both.down, A_ref8_Both, p_ref8_Both, r_ref8_Both]
    refine weak_at [(5, .t (sl e2)), (13, .imm (spC s)), (14, .t (sl f)), (15, .t (sl (whereL .both x s.Held)))] .empty fewer_empty (by simp only [vP.down, vS.down, vE.down, Nat.reduceEqDiff, Nat.reduceAdd, Nat.reduceSub, Nat.reduceMul, Nat.reduceLeDiff, Nat.reduceLT, Int.reduceToNat, reduceIte, reduceCtorEq, Int.reduceEq, Int.reduceLT, Int.reduceLE, ↓avp_condG, ↓tf_arrow, ↓ft_arrow, wP.down, spC]) ?_
    clear hv1 H1 hg1 hb hdc
    simp only [vP.down, vS.down, vE.down, Nat.reduceEqDiff, Nat.reduceAdd, Nat.reduceSub, Nat.reduceMul, Nat.reduceLeDiff, Nat.reduceLT, Int.reduceToNat, reduceIte, reduceCtorEq, Int.reduceEq, Int.reduceLT, Int.reduceLE, ↓avp_condG, ↓tf_arrow, ↓ft_arrow, k_law10_SpaceGrows_made_Made.down, q_made_Made, e_made_Made, mk_made_Made, k_law10_SpaceGrows_made_Picks_Runs.down, m_made_Picks_Runs]
    refine ⟨⟨e2, rfl⟩, fun g1 hg1 => ?_⟩
    refine runs_any (pk_new hg1 (by omega)) (by omega) (by omega) fun v1 S1 y hv1 hy H1 _ => ?_
    obtain ⟨u, ros, hb, _, hdc⟩ := hv1.borrow
    have ly := hy.len8
    have p2 : y.length + f.length ≤ 1099511627 := by omega
    simp only [vP.down, vS.down, vE.down, Nat.reduceEqDiff, Nat.reduceAdd, Nat.reduceSub, Nat.reduceMul, Nat.reduceLeDiff, Nat.reduceLT, Int.reduceToNat, reduceIte, reduceCtorEq, Int.reduceEq, Int.reduceLT, Int.reduceLE, ↓avp_condG, ↓tf_arrow, ↓ft_arrow, hb, hdc, spC, p2, k_law10_SpaceGrows_ref8_Both.down, A_ref8_Both, p_ref8_Both, r_ref8_Both]
    exact grows_9 hS hx.wn hy.wn hf (wk_to fewer_empty (by simp only [vP.down, vS.down, vE.down, Nat.reduceEqDiff, Nat.reduceAdd, Nat.reduceSub, Nat.reduceMul, Nat.reduceLeDiff, Nat.reduceLT, Int.reduceToNat, reduceIte, reduceCtorEq, Int.reduceEq, Int.reduceLT, Int.reduceLE, ↓avp_condG, ↓tf_arrow, ↓ft_arrow, wP.down, spC]))
noncomputable def c_law10_SpaceGrows : Con := fnScal A_law10_SpaceGrows p_law10_SpaceGrows r_law10_SpaceGrows
theorem ok_law10_SpaceGrows : COk Try.prog 6 c_law10_SpaceGrows := fn_sok sys_law10_SpaceGrows mixed Try.func6 (by kernel_rfl) geq_law10_SpaceGrows Try.ntmps6 (by rw [Try.results6]) (fun x => by simp [rTrue, AV.scal]) fun x hx => ⟨Nat.le_of_ble_eq_true rfl, body_law10_SpaceGrows x hx⟩
theorem says_law10_SpaceGrows : SaysTrue Rows.spaceGrowsSpec 6 := ⟨rfl, fun H ds h => by
  match ds, h with
  | [d0, d1, d2, d3, d4, d5], _ => exact ⟨rfl, rfl, rfl⟩⟩
set_option maxRecDepth 100000 in
theorem lifted_law10_SpaceGrows (os : Os) (started : os.Started) (H : Type) (enc : TypeId × Value → H) :
    ReturnsInHanded {} Try.checked os 6 .any (Rows.spaceGrowsSpec.pre6 enc Try.prog Try.f6 Rows.spaceGrowsRow.domain false) (Rows.spaceGrowsSpec.post enc Try.prog Try.f6 false true false false) := by
  refine returnsInHanded_of_change (C := Try.checked) own started (by kernel_rfl) Try.func6
    (ChangeSpec.witness6 (enc := enc) (C := Try.checked) false ⟨#[], #[.slice none 0 0, .slice none 0 0, .slice none 0 0, .slice none 0 0, .slice none 0 0, .slice none 0 0], []⟩ 8 (by kernel_rfl) (by kernel_rfl) (by kernel_rfl) (by kernel_rfl)) ?_
  intro W base args ds gs before hval hW _ _
  exact law_contract (ts := [22, 22, 22, 22, 22, 22]) (tb := 4) ok_law10_SpaceGrows (by rw [Try.params6]) (by kernel_rfl) Try.underlying4 laid (by kernel_rfl) rd_law10_SpaceGrows (fun _ h => h) says_law10_SpaceGrows H enc W base args ds gs before hval hW
theorem over_law10_SpaceGrows : Rows.spaceGrowsRow.holds Try.pinned (OpenSpec.ofChange Rows.spaceGrowsSpec) :=
  OpenClaim.holds_of_wide 6 Try.f6 rfl rfl rfl rfl rfl rfl rfl ⟨rfl, rfl, rfl, rfl, rfl⟩ rfl rfl rfl rfl rfl (by kernel_rfl) Try.func6 (by kernel_rfl)
    (of_decide_eq_true (by kernel_rfl)) (by unfold Func.isWrapper; first | (rw [if_pos (by decide +kernel)]; kernel_rfl) | (rw [if_neg (by decide +kernel)]; exact ⟨rfl, rfl⟩))
    (fun os started H enc _ => lifted_law10_SpaceGrows os started H enc)
theorem spaceGrows_holds : Rows.SpaceGrowsSaid := over_law10_SpaceGrows
end Go.Proofs.Ytgdaibdfjhchbaa

