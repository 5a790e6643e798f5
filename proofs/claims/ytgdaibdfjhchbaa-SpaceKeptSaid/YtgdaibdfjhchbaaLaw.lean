/-
  What the laws lean on: how long sets are; what is still.
-/
import Derived.Test.YtgdaibdfjhchbaaFnsE
set_option linter.unusedSimpArgs false
set_option linter.unusedVariables false
namespace Go.Proofs.Ytgdaibdfjhchbaa
open Go Go.Eng
set_option maxRecDepth 100000
theorem cnt_ge : ∀ {l : List TRun}, Nf l → (l.length : Int) ≤ cntR l
  | [], _ => Int.le_refl _
  | r :: t, h => by
    have h1 := cnt_ge h.tail
    have h2 := h.head.1
    have e : cntR (r :: t) = r.To - r.From + cntR t := by simp [cntR]
    rw [e, List.length_cons]
    omega
theorem nf_len {l : List TRun} {a : Int} {k : Nat} (h : Nf l) (hw : Wn a k l) : l.length ≤ k := by
  have h1 := cnt_ge h
  rw [cntR_card h hw] at h1
  have h2 := List.length_filter_le (hasR l) (seg a k)
  rw [seg_len] at h2
  omega
theorem Sp.len {s : TSpace} (h : Sp s) : lenS s := by
  have h1 := nf_len h.nh h.wh
  have h2 := nf_len h.no h.wo
  have h3 := nf_len h.nt h.wt
  have h4 := nf_len h.nk h.wk
  have e1 : s.Held.length ≤ 1000 := by omega
  have e2 : s.One.length ≤ 1000 := by omega
  have e3 : s.Two.length ≤ 1000 := by omega
  have e4 : s.Kept.length ≤ 1000 := by omega
  exact ⟨e1, e2, e3, e4⟩
theorem less_self {l : List TRun} : whereL .less l l = [] := where_nil.2 fun i => by
  show (hasR l i && !hasR l i) = false
  cases hasR l i <;> rfl
theorem less_nl {l : List TRun} : whereL .less [] l = [] := where_nil.2 fun i => rfl
theorem still_eq {s : TSpace} {h : List TRun} : turnM (turnM (turnM s h) h) h = ⟨h, [], [], s.Kept⟩ := by
  simp only [turnM, less_self, less_nl]
theorem still_turn {h k : List TRun} : turnM ⟨h, [], [], k⟩ h = ⟨h, [], [], k⟩ := by
  simp only [turnM, less_self, less_nl]
theorem still_free {h k : List TRun} (hS : Sp ⟨h, [], [], k⟩) : whereL .less (whereL .less [(⟨14, 54⟩ : TRun)] h) k = freeM 40 ⟨h, [], [], k⟩ := by
  refine nf_ext where_nf free_nf fun i => ?_
  have e := hS.free (n := 40) rfl i
  rw [show ((40 : Nat) : Int) = 40 from rfl] at e
  rw [e, where_has, where_has]
  have e2 : hasR [(⟨14, 54⟩ : TRun)] i = (decide (14 ≤ i) && decide (i < 14 + 40)) := all_has (n := 40)
  rw [e2]
  show ((decide (14 ≤ i) && decide (i < 14 + 40) && !hasR h i) && !hasR k i) = (decide (14 ≤ i) && decide (i < 14 + 40) && !(hasR h i || (false || (false || hasR k i))))
  cases hasR h i <;> cases hasR k i <;> simp
end Go.Proofs.Ytgdaibdfjhchbaa


namespace Go.Proofs.Ytgdaibdfjhchbaa
open Go Go.Eng
set_option maxRecDepth 100000
theorem card40 {l : List TRun} (h : Nf l) (hw : Wn 14 40 l) : l.length ≤ 40 ∧ okB l ∧ 0 ≤ cntR l ∧ cntR l ≤ 40 := by
  have e := cntR_card h hw
  have h2 := List.length_filter_le (hasR l) (seg 14 40)
  rw [seg_len] at h2
  exact ⟨nf_len h hw, okB_of h hw (by omega) (by omega), by omega, by omega⟩
/-- What a group holds: of what was held, and of what was free. -/
def growH (s : TSpace) (x y f : List TRun) : List TRun := whereL .add (whereL .both x s.Held) (whereL .both y f)
theorem grow_nf {s : TSpace} {x y f : List TRun} : Nf (growH s x y f) := where_nf
theorem grow_wn {s : TSpace} (h : Sp s) {x y f : List TRun} (hx : Wn 14 40 x) (hy : Wn 14 40 y) (hf : Wn 14 40 f) : Wn 14 40 (growH s x y f) := where_wn (where_wn hx h.wh) (where_wn hy hf)
theorem grow_all {s : TSpace} (h : Sp s) {x y f g : List TRun} (hx : Wn 14 40 x) (hy : Wn 14 40 y) (hf : f = freeM 40 s) (hg : g = freeM 40 (turnM s (growH s x y f))) :
    cntR g = cntR f - cntR (whereL .both y f) + cntR (whereL .less s.Two s.Kept) ∧ whereL .both g (whereL .both y f) = [] ∧ whereL .less (whereL .less f (whereL .both y f)) g = [] := by
  have d40 : dataOk ((40 : Nat) : Int) = true := rfl
  have wf : Wn 14 40 f := hf ▸ h.fwn d40
  have nf : Nf f := hf ▸ free_nf
  have ht := h.turn grow_nf (grow_wn h hx hy wf)
  have ef : ∀ i, hasR f i = (decide (14 ≤ i) && decide (i < 54) && !inS s i) := fun i => hf ▸ h.free d40 i
  have eg : ∀ i, hasR g i = (decide (14 ≤ i) && decide (i < 54) && !(((hasR x i && hasR s.Held i) || (hasR y i && hasR f i)) || (hasR s.Held i || (hasR s.One i || hasR s.Kept i)))) := fun i => by
    have := ht.free d40 i
    rw [turn_in] at this
    have e2 : hasR (growH s x y f) i = ((hasR x i && hasR s.Held i) || (hasR y i && hasR f i)) := by
      rw [growH, where_has, where_has, where_has]; rfl
    rw [e2] at this
    exact hg ▸ this
  have d1 := h.d1
  have d2 := h.d2
  have d3 := h.d3
  have wt := h.wt
  have hin : ∀ i, hasR s.Two i = true → (decide (14 ≤ i) && decide (i < 54)) = true := fun i hi => by
    have := wt i hi
    rw [decide_eq_true (by omega), decide_eq_true (by omega)]; rfl
  have sum : whereL .add (whereL .less f (whereL .both y f)) (whereL .less s.Two s.Kept) = g := nf_ext where_nf (hg ▸ free_nf) fun i => by
    have a2 := d2 i
    have a3 := d3 i
    have a4 := hin i
    rw [where_has, where_has, where_has, where_has, eg, ef]
    simp only [How.op, inS]
    revert a2 a3 a4
    generalize (decide (14 ≤ i) && decide (i < 54)) = I
    cases I <;> cases hasR s.Held i <;> cases hasR s.One i <;> cases hasR s.Two i <;> cases hasR s.Kept i <;> cases hasR x i <;> cases hasR y i <;> simp
  have dis : whereL .both (whereL .less f (whereL .both y f)) (whereL .less s.Two s.Kept) = [] := where_nil.2 fun i => by
    rw [where_has, where_has, where_has, ef]
    simp only [How.op, inS]
    generalize (decide (14 ≤ i) && decide (i < 54)) = I
    cases I <;> cases hasR s.Held i <;> cases hasR s.One i <;> cases hasR s.Two i <;> cases hasR s.Kept i <;> cases hasR y i <;> simp
  have fm : whereL .both f (whereL .both y f) = whereL .both y f := nf_ext where_nf where_nf fun i => by
    rw [where_has, where_has]
    simp only [How.op]
    cases hasR f i <;> cases hasR y i <;> rfl
  have wm := where_wn (h := .both) hy wf
  have wl : Wn 14 40 (whereL .less f (whereL .both y f)) := less_wn wf
  have wk : Wn 14 40 (whereL .less s.Two s.Kept) := less_wn h.wt
  have c1 := cnt_two (l := whereL .less f (whereL .both y f)) (m := whereL .less s.Two s.Kept) where_nf where_nf wl wk
  have c2 := cnt_less (l := f) (m := whereL .both y f) nf wf wm
  rw [sum, dis] at c1
  rw [fm] at c2
  have c0 : cntR ([] : List TRun) = 0 := rfl
  refine ⟨by omega, where_nil.2 fun i => ?_, where_nil.2 fun i => ?_⟩
  · rw [where_has, eg, ef]
    simp only [How.op, inS]
    generalize (decide (14 ≤ i) && decide (i < 54)) = I
    cases I <;> cases hasR s.Held i <;> cases hasR s.One i <;> cases hasR s.Two i <;> cases hasR s.Kept i <;> cases hasR y i <;> simp
  · rw [where_has, where_has, eg, ef]
    simp only [How.op, inS]
    have a2 := d2 i
    have a3 := d3 i
    have a4 := hin i
    revert a2 a3 a4
    generalize (decide (14 ≤ i) && decide (i < 54)) = I
    cases I <;> cases hasR s.Held i <;> cases hasR s.One i <;> cases hasR s.Two i <;> cases hasR s.Kept i <;> cases hasR x i <;> cases hasR y i <;> simp
end Go.Proofs.Ytgdaibdfjhchbaa


namespace Go.Proofs.Ytgdaibdfjhchbaa
open Go Go.Eng
set_option maxRecDepth 100000
def turnsL (s : TSpace) (L : List (List TRun)) : Nat → TSpace
  | 0 => s
  | i + 1 => turnM (turnsL s L i) (L.getD i default)
theorem turnsL_kept {s : TSpace} {L : List (List TRun)} : ∀ i, (turnsL s L i).Kept = s.Kept
  | 0 => rfl
  | i + 1 => turnsL_kept i
theorem turnsL_sp {s : TSpace} {L : List (List TRun)} (h : Sp s) (hL : ∀ l ∈ L, Nf l ∧ Wn 14 40 l) : ∀ i, i ≤ L.length → Sp (turnsL s L i)
  | 0, _ => h
  | i + 1, hi => by
    have e : L.getD i default ∈ L := by
      rw [List.getD_eq_getElem?_getD, List.getElem?_eq_getElem (by omega)]; exact List.getElem_mem _
    exact (turnsL_sp h hL i (by omega)).turn (hL _ e).1 (hL _ e).2
/-- What groups held: the one ahead of the last one, the last one, those that follow. -/
def hist (s : TSpace) (L : List (List TRun)) (k : Nat) : List TRun := if k = 0 then s.One else if k = 1 then s.Held else L.getD (k - 2) default
theorem turnsL_held {s : TSpace} {L : List (List TRun)} : ∀ i, (turnsL s L i).Held = hist s L (i + 1)
  | 0 => rfl
  | _ + 1 => rfl
theorem turnsL_one {s : TSpace} {L : List (List TRun)} {a : Int} : ∀ i, ((hasR (turnsL s L i).Held a) || hasR (turnsL s L i).One a) = (hasR (hist s L (i + 1)) a || hasR (hist s L i) a)
  | 0 => rfl
  | i + 1 => by
    rw [turnsL_held]
    have e : hasR (turnsL s L (i + 1)).One a = (hasR (turnsL s L i).Held a && !hasR (L.getD i default) a) := where_has
    have e2 : hist s L (i + 1 + 1) = L.getD i default := rfl
    rw [e, turnsL_held, e2]
    cases hasR (L.getD i default) a <;> cases hasR (hist s L (i + 1)) a <;> rfl
theorem turns_in {s : TSpace} {L : List (List TRun)} {a : Int} (i : Nat) : inS (turnsL s L (i + 1)) a = (((hasR s.Kept a || hasR (hist s L i) a) || hasR (hist s L (i + 1)) a) || hasR (hist s L (i + 2)) a) := by
  have e : inS (turnsL s L (i + 1)) a = _ := turn_in
  have e1 := turnsL_one (s := s) (L := L) (a := a) i
  have e2 : hist s L (i + 2) = L.getD i default := rfl
  rw [e, turnsL_kept, e2]
  revert e1
  cases hasR (L.getD i default) a <;> cases hasR (turnsL s L i).Held a <;> cases hasR (turnsL s L i).One a <;> cases hasR s.Kept a <;> cases hasR (hist s L (i + 1)) a <;> cases hasR (hist s L i) a <;> simp
def ownK (s : TSpace) (L : List (List TRun)) (i : Nat) (a : Int) : Nat → Bool
  | 0 => hasR s.Kept a
  | j + 1 => ownK s L i a j || hasR (hist s L (i + j)) a
theorem turns_free {s : TSpace} {L : List (List TRun)} (h : Sp s) (hL : ∀ l ∈ L, Nf l ∧ Wn 14 40 l) {i : Nat} (hi : i < L.length) {a : Int} (h1 : 14 ≤ a) (h2 : a < 54) : hasR (freeM 40 (turnsL s L (i + 1))) a = !ownK s L i a 3 := by
  have e := (turnsL_sp h hL (i + 1) hi).free (n := 40) rfl a
  have e' : hasR (freeM 40 (turnsL s L (i + 1))) a = (decide (14 ≤ a) && decide (a < 54) && !inS (turnsL s L (i + 1)) a) := e
  rw [e', decide_eq_true h1, decide_eq_true h2, turns_in]
  rfl
/-- Groups that hold nothing. -/
def noneL (u : TSpace) : Nat → TSpace
  | 0 => u
  | i + 1 => turnM (noneL u i) []
theorem noneL_sp {u : TSpace} (h : Sp u) : ∀ i, Sp (noneL u i)
  | 0 => h
  | i + 1 => (noneL_sp h i).turn .nil wn_nil
theorem noneL_kept {u : TSpace} : ∀ i, (noneL u i).Kept = u.Kept
  | 0 => rfl
  | i + 1 => noneL_kept i
theorem both_free {u : TSpace} (h : Sp u) {A : List TRun} (hA : ∀ i, hasR A i = true → inS u i = true) : whereL .both (freeM 40 u) A = [] := where_nil.2 fun i => by
  have e := h.free (n := 40) rfl i
  have e' : hasR (freeM 40 u) i = (decide (14 ≤ i) && decide (i < 54) && !inS u i) := e
  show (hasR (freeM 40 u) i && hasR A i) = false
  rw [e']
  cases hi : hasR A i with
  | false => rw [Bool.and_false]
  | true => rw [hA i hi, Bool.not_true, Bool.and_false]; rfl
theorem noneL_held {u : TSpace} {A : List TRun} (hA : ∀ i, hasR A i = true → hasR u.Held i = true) {j : Nat} (hj : j < 3) (i : Int) (hi : hasR A i = true) : inS (noneL u j) i = true := by
  have h1 := hA i hi
  rcases (by omega : j = 0 ∨ j = 1 ∨ j = 2) with rfl | rfl | rfl
  · show (hasR u.Held i || _) = true
    rw [h1]; rfl
  · show inS (turnM u []) i = true
    rw [turn_in, h1]; simp
  · show inS (turnM (turnM u []) []) i = true
    have e : hasR (turnM u []).One i = true := by
      show hasR (whereL .less u.Held []) i = true
      rw [where_has, h1]; rfl
    rw [turn_in, e]; simp
theorem none_both {u : TSpace} (h : Sp u) {A : List TRun} (hA : ∀ i, hasR A i = true → hasR u.Held i = true) {j : Nat} (hj : j < 3) : whereL .both (freeM 40 (noneL u j)) A = [] :=
  both_free (noneL_sp h j) (noneL_held hA hj)
theorem none_cnt {u : TSpace} (h : Sp u) (hk : u.Kept = []) : cntR (freeM 40 (noneL u 3)) = 40 := by
  have hS := noneL_sp h 3
  have d40 : dataOk ((40 : Nat) : Int) = true := rfl
  have e : freeM 40 (noneL u 3) = [⟨14, 54⟩] := nf_ext free_nf (.one (by decide)) fun i => by
    have e1 : hasR (freeM 40 (noneL u 3)) i = (decide (14 ≤ i) && decide (i < 54) && !inS (noneL u 3) i) := hS.free d40 i
    have e2 : inS (noneL u 3) i = false := by
      have e3 : inS (noneL u 3) i = _ := turn_in
      rw [e3]
      have a1 : hasR (noneL u 2).Held i = false := rfl
      have a2 : hasR (noneL u 2).One i = false := by
        show hasR (whereL .less (noneL u 1).Held []) i = false
        rw [where_has]; rfl
      have a3 : (noneL u 2).Kept = [] := (noneL_kept 2).trans hk
      rw [a1, a2, a3]; rfl
    have e4 : hasR [(⟨14, 54⟩ : TRun)] i = (decide (14 ≤ i) && decide (i < 14 + 40)) := all_has (n := 40)
    rw [e1, e2, e4, Bool.not_false, Bool.and_true]; rfl
  rw [e]; rfl
theorem fold_free {t : TSpace} (h : Sp t) : freeM 40 (foldM t) = freeM 40 t := nf_ext free_nf free_nf fun i => by
  have e1 : hasR (freeM 40 (foldM t)) i = (decide (14 ≤ i) && decide (i < 54) && !inS (foldM t) i) := h.fold.free (n := 40) rfl i
  have e2 : hasR (freeM 40 t) i = (decide (14 ≤ i) && decide (i < 54) && !inS t i) := h.free (n := 40) rfl i
  rw [e1, e2]
  have e3 : inS (foldM t) i = inS t i := by
    simp only [inS, foldM, where_has, How.op]
    cases hasR t.Held i <;> cases hasR t.One i <;> cases hasR t.Two i <;> cases hasR t.Kept i <;> rfl
  rw [e3]
theorem lv_borrow1 {α : Type} [Cell α] {S : Store} {v : AV} {l : List α} (hv : LV S v l) : ∃ y ros, S.borrow1 v = some (y, ros) ∧ Cell.dec [y] = some l ∧ ∀ g cs ro, S.f g = some (.box cs ro) → g ∉ ros := by
  rcases hv with ⟨rfl, rfl⟩ | ⟨k, rfl, ro, h⟩
  · exact ⟨.nilS, [], rfl, rfl, fun _ _ _ _ h => by cases h⟩
  · refine ⟨sl l, [k], ?_, Cell.dec_enc l, fun g cs ro' hg hm => ?_⟩
    · simp only [Store.borrow1, h, sl]
      simp
      rw [List.take_of_length_le (by simp)]
    · have : g = k := by simpa using hm
      rw [this, h] at hg; cases hg
end Go.Proofs.Ytgdaibdfjhchbaa


namespace Go.Proofs.Ytgdaibdfjhchbaa
open Go Go.Eng
set_option maxRecDepth 100000
abbrev spB (s : TSpace) : Store → Nat → Store := fun S g => S.set g (some (.box ((spC s).map .t) false))
def G_law10_SpaceKept_16 : GCode := .seq (.seq .weak (.region [⟨(some 109), none, .load 26 (.tmp 16)⟩, ⟨(some 110), none, .call ⟨.value (.func 15), #[.tmp 109], #[26]⟩⟩, ⟨(some 19), none, .alloc 26⟩, ⟨none, none, .store 26 (.tmp 19) (.tmp 110)⟩])) (.seq (.seq (.seq .weak (.region [⟨(some 111), none, .load 26 (.tmp 19)⟩, ⟨(some 112), none, .call ⟨.value (.func 16), #[.const (.int .i64 40), .tmp 111], #[3, 26]⟩⟩, ⟨(some 113), none, .unOp .not 4 (.tmp 112)⟩, ⟨(some 114), none, .move (.tmp 113)⟩, ⟨(some 115), (some (114, false)), .fieldAddr 26 (.tmp 19) 3⟩, ⟨(some 116), (some (114, false)), .load 23 (.tmp 115)⟩, ⟨(some 117), (some (114, false)), .call ⟨.builtin .len, #[.tmp 116], #[23]⟩⟩, ⟨(some 118), (some (114, false)), .binOp .gtr 3 (.tmp 117) (.const (.int .i64 0)) 3⟩, ⟨(some 119), none, .pick (.tmp 114) (.const (.bool true)) (.tmp 118)⟩, ⟨(some 120), none, .move (.tmp 119)⟩, ⟨(some 121), (some (120, false)), .load 26 (.tmp 19)⟩, ⟨(some 122), (some (120, false)), .call ⟨.value (.func 19), #[.const (.int .i64 40), .tmp 121], #[3, 26]⟩⟩, ⟨(some 123), (some (120, false)), .load 26 (.tmp 16)⟩, ⟨(some 124), (some (120, false)), .call ⟨.value (.func 19), #[.const (.int .i64 40), .tmp 123], #[3, 26]⟩⟩, ⟨(some 125), (some (120, false)), .call ⟨.value (.func 18), #[.tmp 122, .tmp 124], #[23, 23]⟩⟩, ⟨(some 126), (some (120, false)), .unOp .not 4 (.tmp 125)⟩, ⟨(some 127), none, .pick (.tmp 120) (.const (.bool true)) (.tmp 126)⟩])) (.cond (.tmp 127) (.seq (.region [⟨(some 14), none, .assign (.const (.bool false))⟩]) (.ret)) (.skip))) (.seq (.seq (.seq .weak (.region [⟨(some 20), none, .assign (.const (.int .i64 0))⟩])) (.block 2 (.loop (.seq .weak (.seq (.seq (.region [⟨(some 128), none, .move (.tmp 20)⟩, ⟨(some 129), none, .binOp .lss 3 (.tmp 128) (.const (.int .i64 3)) 3⟩]) (.cond (.tmp 129) (.skip) (.exit 2))) (.seq (.block 3 (.seq (.region [⟨(some 132), none, .load 26 (.tmp 19)⟩, ⟨(some 133), none, .call ⟨.value (.func 22), #[.tmp 132, .const (.slice none 0 0)], #[26, 23]⟩⟩, ⟨none, none, .store 26 (.tmp 19) (.tmp 133)⟩]) (.seq (.seq .weak (.region [⟨(some 134), none, .move (.tmp 20)⟩, ⟨(some 135), none, .binOp .lss 3 (.tmp 134) (.const (.int .i64 2)) 3⟩, ⟨(some 136), none, .move (.tmp 135)⟩, ⟨(some 137), (some (136, true)), .load 26 (.tmp 19)⟩, ⟨(some 138), (some (136, true)), .call ⟨.value (.func 19), #[.const (.int .i64 40), .tmp 137], #[3, 26]⟩⟩, ⟨(some 139), (some (136, true)), .fieldAddr 26 (.tmp 15) 0⟩, ⟨(some 140), (some (136, true)), .load 23 (.tmp 139)⟩, ⟨(some 141), (some (136, true)), .call ⟨.value (.func 28), #[.tmp 138, .tmp 140], #[23, 23]⟩⟩, ⟨(some 142), (some (136, true)), .call ⟨.builtin .len, #[.tmp 141], #[23]⟩⟩, ⟨(some 143), (some (136, true)), .binOp .gtr 3 (.tmp 142) (.const (.int .i64 0)) 3⟩, ⟨(some 144), none, .pick (.tmp 136) (.tmp 143) (.const (.bool false))⟩])) (.cond (.tmp 144) (.seq (.region [⟨(some 14), none, .assign (.const (.bool false))⟩]) (.ret)) (.skip))))) (.region [⟨(some 130), none, .move (.tmp 20)⟩, ⟨(some 131), none, .binOp .add 3 (.tmp 130) (.const (.int .i64 1)) 3⟩, ⟨(some 20), none, .assign (.tmp 131)⟩]))))))) (.seq (.seq .weak (.region [⟨(some 145), none, .load 26 (.tmp 19)⟩, ⟨(some 146), none, .call ⟨.value (.func 19), #[.const (.int .i64 40), .tmp 145], #[3, 26]⟩⟩, ⟨(some 147), none, .call ⟨.value (.func 29), #[.tmp 146], #[23]⟩⟩, ⟨(some 148), none, .binOp .eql 3 (.tmp 147) (.const (.int .i64 40)) 3⟩, ⟨(some 14), none, .assign (.tmp 148)⟩])) (.ret))))
def G_law10_SpaceKept_10 : GCode := .seq (.seq (.seq .weak (.region [⟨(some 18), none, .assign (.const (.int .i64 0))⟩])) (.block 0 (.loop (.seq .weak (.seq (.seq (.region [⟨(some 84), none, .move (.tmp 18)⟩, ⟨(some 85), none, .binOp .lss 3 (.tmp 84) (.const (.int .i64 3)) 3⟩]) (.cond (.tmp 85) (.skip) (.exit 0))) (.seq (.block 1 (.seq (.region [⟨(some 88), none, .load 26 (.tmp 16)⟩, ⟨(some 89), none, .move (.tmp 17)⟩, ⟨(some 90), none, .move (.tmp 18)⟩, ⟨(some 91), none, .indexAddr 42 (.tmp 89) (.tmp 90)⟩, ⟨(some 92), none, .load 23 (.tmp 91)⟩, ⟨(some 93), none, .call ⟨.value (.func 22), #[.tmp 88, .tmp 92], #[26, 23]⟩⟩, ⟨none, none, .store 26 (.tmp 16) (.tmp 93)⟩]) (.seq (.seq .weak (.region [⟨(some 94), none, .fieldAddr 26 (.tmp 16) 3⟩, ⟨(some 95), none, .load 23 (.tmp 94)⟩, ⟨(some 96), none, .fieldAddr 26 (.tmp 15) 0⟩, ⟨(some 97), none, .load 23 (.tmp 96)⟩, ⟨(some 98), none, .call ⟨.value (.func 18), #[.tmp 95, .tmp 97], #[23, 23]⟩⟩, ⟨(some 99), none, .unOp .not 4 (.tmp 98)⟩, ⟨(some 100), none, .move (.tmp 99)⟩, ⟨(some 101), (some (100, false)), .load 26 (.tmp 16)⟩, ⟨(some 102), (some (100, false)), .call ⟨.value (.func 19), #[.const (.int .i64 40), .tmp 101], #[3, 26]⟩⟩, ⟨(some 103), (some (100, false)), .fieldAddr 26 (.tmp 15) 0⟩, ⟨(some 104), (some (100, false)), .load 23 (.tmp 103)⟩, ⟨(some 105), (some (100, false)), .call ⟨.value (.func 28), #[.tmp 102, .tmp 104], #[23, 23]⟩⟩, ⟨(some 106), (some (100, false)), .call ⟨.builtin .len, #[.tmp 105], #[23]⟩⟩, ⟨(some 107), (some (100, false)), .binOp .gtr 3 (.tmp 106) (.const (.int .i64 0)) 3⟩, ⟨(some 108), none, .pick (.tmp 100) (.const (.bool true)) (.tmp 107)⟩])) (.cond (.tmp 108) (.seq (.region [⟨(some 14), none, .assign (.const (.bool false))⟩]) (.ret)) (.skip))))) (.region [⟨(some 86), none, .move (.tmp 18)⟩, ⟨(some 87), none, .binOp .add 3 (.tmp 86) (.const (.int .i64 1)) 3⟩, ⟨(some 18), none, .assign (.tmp 87)⟩]))))))) (G_law10_SpaceKept_16)
def G_law10_SpaceKept : GCode := .seq (.region [⟨(some 14), none, .assign (.const (.bool false))⟩]) (.seq (.seq (.region [⟨(some 21), none, .call ⟨.value (.func 10), #[], #[]⟩⟩, ⟨(some 22), none, .unOp .not 4 (.tmp 21)⟩]) (.cond (.tmp 22) (.seq (.region [⟨(some 14), none, .assign (.const (.bool false))⟩]) (.ret)) (.skip))) (.seq (.seq (.region [⟨(some 23), none, .move (.tmp 0)⟩, ⟨(some 24), none, .call ⟨.builtin .len, #[.tmp 23], #[22]⟩⟩, ⟨(some 25), none, .binOp .gtr 3 (.tmp 24) (.const (.int .i64 20)) 3⟩, ⟨(some 26), none, .move (.tmp 25)⟩, ⟨(some 27), (some (26, false)), .move (.tmp 1)⟩, ⟨(some 28), (some (26, false)), .call ⟨.builtin .len, #[.tmp 27], #[22]⟩⟩, ⟨(some 29), (some (26, false)), .binOp .gtr 3 (.tmp 28) (.const (.int .i64 20)) 3⟩, ⟨(some 30), none, .pick (.tmp 26) (.const (.bool true)) (.tmp 29)⟩, ⟨(some 31), none, .move (.tmp 30)⟩, ⟨(some 32), (some (31, false)), .move (.tmp 2)⟩, ⟨(some 33), (some (31, false)), .call ⟨.builtin .len, #[.tmp 32], #[22]⟩⟩, ⟨(some 34), (some (31, false)), .binOp .gtr 3 (.tmp 33) (.const (.int .i64 20)) 3⟩, ⟨(some 35), none, .pick (.tmp 31) (.const (.bool true)) (.tmp 34)⟩, ⟨(some 36), none, .move (.tmp 35)⟩, ⟨(some 37), (some (36, false)), .move (.tmp 3)⟩, ⟨(some 38), (some (36, false)), .call ⟨.builtin .len, #[.tmp 37], #[22]⟩⟩, ⟨(some 39), (some (36, false)), .binOp .gtr 3 (.tmp 38) (.const (.int .i64 20)) 3⟩, ⟨(some 40), none, .pick (.tmp 36) (.const (.bool true)) (.tmp 39)⟩, ⟨(some 41), none, .move (.tmp 40)⟩, ⟨(some 42), (some (41, false)), .move (.tmp 4)⟩, ⟨(some 43), (some (41, false)), .call ⟨.builtin .len, #[.tmp 42], #[22]⟩⟩, ⟨(some 44), (some (41, false)), .binOp .gtr 3 (.tmp 43) (.const (.int .i64 20)) 3⟩, ⟨(some 45), none, .pick (.tmp 41) (.const (.bool true)) (.tmp 44)⟩, ⟨(some 46), none, .move (.tmp 45)⟩, ⟨(some 47), (some (46, false)), .move (.tmp 5)⟩, ⟨(some 48), (some (46, false)), .call ⟨.builtin .len, #[.tmp 47], #[22]⟩⟩, ⟨(some 49), (some (46, false)), .binOp .gtr 3 (.tmp 48) (.const (.int .i64 20)) 3⟩, ⟨(some 50), none, .pick (.tmp 46) (.const (.bool true)) (.tmp 49)⟩, ⟨(some 51), none, .move (.tmp 50)⟩, ⟨(some 52), (some (51, false)), .move (.tmp 6)⟩, ⟨(some 53), (some (51, false)), .call ⟨.builtin .len, #[.tmp 52], #[22]⟩⟩, ⟨(some 54), (some (51, false)), .binOp .gtr 3 (.tmp 53) (.const (.int .i64 20)) 3⟩, ⟨(some 55), none, .pick (.tmp 51) (.const (.bool true)) (.tmp 54)⟩]) (.cond (.tmp 55) (.seq (.region [⟨(some 14), none, .assign (.const (.bool true))⟩]) (.ret)) (.skip))) (.seq (.seq .weak (.region [⟨(some 56), none, .move (.tmp 0)⟩, ⟨(some 57), none, .move (.tmp 1)⟩, ⟨(some 58), none, .move (.tmp 2)⟩, ⟨(some 59), none, .move (.tmp 3)⟩, ⟨(some 60), none, .call ⟨.value (.func 11), #[.tmp 56, .tmp 57, .tmp 58, .tmp 59], #[22, 22, 22, 22]⟩⟩, ⟨(some 15), none, .alloc 26⟩, ⟨none, none, .store 26 (.tmp 15) (.tmp 60)⟩])) (.seq (.seq .weak (.seq .weak (.region [⟨(some 61), none, .load 26 (.tmp 15)⟩, ⟨(some 62), none, .call ⟨.value (.func 14), #[.tmp 61], #[26]⟩⟩, ⟨(some 16), none, .alloc 26⟩, ⟨none, none, .store 26 (.tmp 16) (.tmp 62)⟩]))) (.seq (.seq (.seq .weak (.region [⟨(some 63), none, .load 26 (.tmp 16)⟩, ⟨(some 64), none, .call ⟨.value (.func 16), #[.const (.int .i64 40), .tmp 63], #[3, 26]⟩⟩, ⟨(some 65), none, .unOp .not 4 (.tmp 64)⟩, ⟨(some 66), none, .move (.tmp 65)⟩, ⟨(some 67), (some (66, false)), .fieldAddr 26 (.tmp 16) 3⟩, ⟨(some 68), (some (66, false)), .load 23 (.tmp 67)⟩, ⟨(some 69), (some (66, false)), .fieldAddr 26 (.tmp 15) 0⟩, ⟨(some 70), (some (66, false)), .load 23 (.tmp 69)⟩, ⟨(some 71), (some (66, false)), .call ⟨.value (.func 18), #[.tmp 68, .tmp 70], #[23, 23]⟩⟩, ⟨(some 72), (some (66, false)), .unOp .not 4 (.tmp 71)⟩, ⟨(some 73), none, .pick (.tmp 66) (.const (.bool true)) (.tmp 72)⟩])) (.cond (.tmp 73) (.seq (.region [⟨(some 14), none, .assign (.const (.bool false))⟩]) (.ret)) (.skip))) (.seq (.seq .weak (.region [⟨(some 74), none, .move (.tmp 4)⟩, ⟨(some 75), none, .call ⟨.value (.func 12), #[.tmp 74], #[22]⟩⟩, ⟨(some 76), none, .call ⟨.value (.func 13), #[.tmp 75, .const (.int .i64 8)], #[28, 3]⟩⟩, ⟨(some 77), none, .move (.tmp 5)⟩, ⟨(some 78), none, .call ⟨.value (.func 12), #[.tmp 77], #[22]⟩⟩, ⟨(some 79), none, .call ⟨.value (.func 13), #[.tmp 78, .const (.int .i64 8)], #[28, 3]⟩⟩, ⟨(some 80), none, .move (.tmp 6)⟩, ⟨(some 81), none, .call ⟨.value (.func 12), #[.tmp 80], #[22]⟩⟩, ⟨(some 82), none, .call ⟨.value (.func 13), #[.tmp 81, .const (.int .i64 8)], #[28, 3]⟩⟩, ⟨(some 83), none, .buildSlice 42 3 #[(0, .tmp 76), (1, .tmp 79), (2, .tmp 82)]⟩, ⟨(some 17), none, .assign (.tmp 83)⟩])) (G_law10_SpaceKept_10)))))))
noncomputable def l_law10_SpaceKept : List (Nat × Con) := [(10, c_law10_begun), (11, c_law10_made), (14, c_space_Keep), (16, c_space_May), (18, c_ref8_Same), (12, c_made_Made), (13, c_made_Picks_Runs), (22, c_space_Turn), (19, c_space_Free), (28, c_ref8_Both), (15, c_space_Fold), (29, c_ref8_Count)]
noncomputable abbrev K_law10_SpaceKept : Ctx := ctx (cl l_law10_SpaceKept)
theorem geq_law10_SpaceKept : gof K_law10_SpaceKept Try.f7 = some G_law10_SpaceKept.strip := by kernel_rfl
theorem sys_law10_SpaceKept : Go.Eng.Sys Try.prog K_law10_SpaceKept := sys_of' ⟨ok_law10_begun, ok_law10_made, ok_space_Keep, ok_space_May, ok_ref8_Same, ok_made_Made, ok_made_Picks_Runs, ok_space_Turn, ok_space_Free, ok_ref8_Both, ok_space_Fold, ok_ref8_Count, trivial⟩
theorem hm_law10_SpaceKept : ConMono K_law10_SpaceKept := conMono_of sys_law10_SpaceKept.con
noncomputable def k_law10_SpaceKept_law10_begun := PLift.up (call_scal (C := K_law10_SpaceKept) (f := 10) (A := A_law10_begun) (p := p_law10_begun) (r := r_law10_begun) rfl)
noncomputable def k_law10_SpaceKept_law10_made := PLift.up (call_gen (C := K_law10_SpaceKept) (f := 11) (modes := m_law10_made) (F := F_law10_made) rfl)
noncomputable def k_law10_SpaceKept_space_Keep := PLift.up (call_fn (C := K_law10_SpaceKept) (f := 14) (A := A_space_Keep) (p := p_space_Keep) (r := r_space_Keep) rfl)
noncomputable def k_law10_SpaceKept_space_May := PLift.up (call_scal (C := K_law10_SpaceKept) (f := 16) (A := A_space_May) (p := p_space_May) (r := r_space_May) rfl)
noncomputable def k_law10_SpaceKept_ref8_Same := PLift.up (call_scal (C := K_law10_SpaceKept) (f := 18) (A := A_ref8_Same) (p := p_ref8_Same) (r := r_ref8_Same) rfl)
noncomputable def k_law10_SpaceKept_made_Made := PLift.up (call_new (C := K_law10_SpaceKept) (f := 12) (c := q_made_Made) (e := e_made_Made) (mk := mk_made_Made) rfl)
noncomputable def k_law10_SpaceKept_made_Picks_Runs := PLift.up (call_gen (C := K_law10_SpaceKept) (f := 13) (modes := m_made_Picks_Runs) (F := F_made_Picks_Runs) rfl)
noncomputable def k_law10_SpaceKept_space_Turn := PLift.up (call_fn (C := K_law10_SpaceKept) (f := 22) (A := A_space_Turn) (p := p_space_Turn) (r := r_space_Turn) rfl)
noncomputable def k_law10_SpaceKept_space_Free := PLift.up (call_fn (C := K_law10_SpaceKept) (f := 19) (A := A_space_Free) (p := p_space_Free) (r := r_space_Free) rfl)
noncomputable def k_law10_SpaceKept_ref8_Both := PLift.up (call_fn (C := K_law10_SpaceKept) (f := 28) (A := A_ref8_Both) (p := p_ref8_Both) (r := r_ref8_Both) rfl)
noncomputable def k_law10_SpaceKept_space_Fold := PLift.up (call_fn (C := K_law10_SpaceKept) (f := 15) (A := A_space_Fold) (p := p_space_Fold) (r := r_space_Fold) rfl)
noncomputable def k_law10_SpaceKept_ref8_Count := PLift.up (call_scal (C := K_law10_SpaceKept) (f := 29) (A := A_ref8_Count) (p := p_ref8_Count) (r := r_ref8_Count) rfl)
set_option maxHeartbeats 4000000 in
theorem kept_16 {s t : TSpace} (hS : Sp s) (hT : Sp t) (hk : t.Kept = s.Held) {g : Nat} {σ : St} (hσ : Wk σ (mkS [(15, .imm (spC s)), (16, .ptr g 0)] (Store.empty.set g (some (.box ((spC t).map .t) false))))) :
    avp K_law10_SpaceKept G_law10_SpaceKept_16 (Ret K_law10_SpaceKept [.tmp 14] fun v _ => v = .t (.bool true)) σ := by
  unfold G_law10_SpaceKept_16
  simp only [avp_seq]
  refine ⟨_, hσ, ?_⟩
  have hU := hT.fold
  have hUl := hU.len
  have hTl := hT.len
  have hSl := hS.len
  have d40 : dataOk ((40 : Nat) : Int) = true := rfl
  have okU : okSp 40 (foldM t) = true := hU.ok d40
  have eF := fold_free hT
  have fl : (freeM 40 t).length < 4611686018427387904 := by have := free_len (n := 40) hTl; omega
  have n0 : (([] : List TRun).length : Int) = 0 := rfl
  have h0 : ([] : List TRun).length ≤ 1000 := by decide
  have kU : (foldM t).Kept = [] := rfl
  have hA : ∀ i, hasR s.Held i = true → hasR (foldM t).Held i = true := fun i hi => by
    show hasR (whereL .add t.Held t.Kept) i = true
    rw [where_has, hk, hi]
    show (_ || true) = true
    rw [Bool.or_true]
  simp only [vP.down, vS.down, vE.down, Nat.reduceEqDiff, Nat.reduceAdd, Nat.reduceSub, Nat.reduceMul, Nat.reduceLeDiff, Nat.reduceLT, Int.reduceToNat, reduceIte, reduceCtorEq, Int.reduceEq, Int.reduceLT, Int.reduceLE, ↓avp_condG, ↓tf_arrow, ↓ft_arrow, spC, hTl, Store.set_same, k_law10_SpaceKept_space_Fold.down, A_space_Fold, p_space_Fold, r_space_Fold]
  intro g2 hg2
  have n2 := Store.ne_new hg2
  obtain ⟨u, hu⟩ : ∃ u, u = foldM t := ⟨_, rfl⟩
  rw [← hu] at hU hUl okU eF kU hA ⊢
  refine weak_at [(15, .imm (spC s)), (16, .imm (spC t)), (19, .ptr g2 0)] (Store.empty.set g2 (some (.box ((spC u).map .t) false))) (only_box (Store.set_same _ _ _)) (by
    simp only [vP.down, vS.down, vE.down, Nat.reduceEqDiff, Nat.reduceAdd, Nat.reduceSub, Nat.reduceMul, Nat.reduceLeDiff, Nat.reduceLT, Int.reduceToNat, reduceIte, reduceCtorEq, Int.reduceEq, Int.reduceLT, Int.reduceLE, ↓avp_condG, ↓tf_arrow, ↓ft_arrow, wP.down, spC]
    exact w2_imm (l := spC t) (ro := false) ((Store.set_other _ _ n2.symm).trans (Store.set_same _ _ _)) (Store.set_other _ _ n2.symm)) ?_
  clear hg2 n2
  have kL : (u.Kept.length : Int) = 0 := by rw [kU]; rfl
  simp only [vP.down, vS.down, vE.down, Nat.reduceEqDiff, Nat.reduceAdd, Nat.reduceSub, Nat.reduceMul, Nat.reduceLeDiff, Nat.reduceLT, Int.reduceToNat, reduceIte, reduceCtorEq, Int.reduceEq, Int.reduceLT, Int.reduceLE, ↓avp_condG, ↓tf_arrow, ↓ft_arrow, spC, hUl, hTl, okU, kL, eF, fl, n0, Store.set_same, gt_iff_lt, pick_of, pick_ot, false_implies, k_law10_SpaceKept_space_May.down, A_space_May, p_space_May, r_space_May, k_law10_SpaceKept_space_Free.down, A_space_Free, p_space_Free, r_space_Free, k_law10_SpaceKept_ref8_Same.down, A_ref8_Same, p_ref8_Same, r_ref8_Same]
  refine weak_at [(15, .imm (spC s)), (19, .ptr g2 0)] (Store.empty.set g2 (some (.box ((spC u).map .t) false))) (only_box (Store.set_same _ _ _)) (by simp only [vP.down, vS.down, vE.down, Nat.reduceEqDiff, Nat.reduceAdd, Nat.reduceSub, Nat.reduceMul, Nat.reduceLeDiff, Nat.reduceLT, Int.reduceToNat, reduceIte, reduceCtorEq, Int.reduceEq, Int.reduceLT, Int.reduceLE, ↓avp_condG, ↓tf_arrow, ↓ft_arrow, wP.down, spC]) ?_
  simp only [vP.down, vS.down, vE.down, Nat.reduceEqDiff, Nat.reduceAdd, Nat.reduceSub, Nat.reduceMul, Nat.reduceLeDiff, Nat.reduceLT, Int.reduceToNat, reduceIte, reduceCtorEq, Int.reduceEq, Int.reduceLT, Int.reduceLE, ↓avp_condG, ↓tf_arrow, ↓ft_arrow]
  refine loop_weak hm_law10_SpaceKept (fun m σ => ∃ i : Nat, m = 3 - i ∧ i ≤ 3 ∧ σ = mkS [(15, .imm (spC s)), (19, .ptr g2 0), (20, .t (.int .i64 (i : Nat)))] (Store.empty.set g2 (some (.box ((spC (noneL u i)).map .t) false)))) ⟨0, rfl, by omega, rfl⟩ (wk_to fewer_refl (by simp only [vP.down, vS.down, vE.down, Nat.reduceEqDiff, Nat.reduceAdd, Nat.reduceSub, Nat.reduceMul, Nat.reduceLeDiff, Nat.reduceLT, Int.reduceToNat, reduceIte, reduceCtorEq, Int.reduceEq, Int.reduceLT, Int.reduceLE, ↓avp_condG, ↓tf_arrow, ↓ft_arrow, wP.down, Int.natCast_zero])) ?_
  rintro m _ ⟨i, rfl, hi, rfl⟩
  have hi1 : IntKind.i64.wrap ((i : Int) + 1) = ((i + 1 : Nat) : Int) := by rw [IntWalk.i64_in _ (by omega)]; rfl
  have hN := (noneL_sp hU i)
  have hNl := hN.len
  by_cases hlt : i < 3
  case neg =>
    obtain rfl : i = 3 := by omega
    have hge : ¬ ((3 : Int) < 3) := by omega
    simp only [vP.down, vS.down, vE.down, Nat.reduceEqDiff, Nat.reduceAdd, Nat.reduceSub, Nat.reduceMul, Nat.reduceLeDiff, Nat.reduceLT, Int.reduceToNat, reduceIte, reduceCtorEq, Int.reduceEq, Int.reduceLT, Int.reduceLE, ↓avp_condG, ↓tf_arrow, ↓ft_arrow, hge, show ((3 : Nat) : Int) = 3 from rfl]
    refine weak_at [(19, .ptr g2 0)] (Store.empty.set g2 (some (.box ((spC (noneL u 3)).map .t) false))) fewer_refl (by simp only [vP.down, vS.down, vE.down, Nat.reduceEqDiff, Nat.reduceAdd, Nat.reduceSub, Nat.reduceMul, Nat.reduceLeDiff, Nat.reduceLT, Int.reduceToNat, reduceIte, reduceCtorEq, Int.reduceEq, Int.reduceLT, Int.reduceLE, ↓avp_condG, ↓tf_arrow, ↓ft_arrow, wP.down]) ?_
    have ec := none_cnt hU kU
    have hd3 : Wn 14 40 (freeM 40 (noneL u 3)) := hN.fwn d40
    obtain ⟨c1, c2, _, _⟩ := card40 free_nf hd3
    have c1' : (freeM 40 (noneL u 3)).length ≤ 1048576 := by omega
    simp only [vP.down, vS.down, vE.down, Nat.reduceEqDiff, Nat.reduceAdd, Nat.reduceSub, Nat.reduceMul, Nat.reduceLeDiff, Nat.reduceLT, Int.reduceToNat, reduceIte, reduceCtorEq, Int.reduceEq, Int.reduceLT, Int.reduceLE, ↓avp_condG, ↓tf_arrow, ↓ft_arrow, spC, hNl, c1', c2, ec, Store.set_same, k_law10_SpaceKept_space_Free.down, A_space_Free, p_space_Free, r_space_Free, k_law10_SpaceKept_ref8_Count.down, A_ref8_Count, p_ref8_Count, r_ref8_Count]
    simp only [vP.down, vS.down, vE.down, Nat.reduceEqDiff, Nat.reduceAdd, Nat.reduceSub, Nat.reduceMul, Nat.reduceLeDiff, Nat.reduceLT, Int.reduceToNat, reduceIte, reduceCtorEq, Int.reduceEq, Int.reduceLT, Int.reduceLE, ↓avp_condG, ↓tf_arrow, ↓ft_arrow, vT.down]
  have hlt' : (i : Int) < 3 := by omega
  have hN2 := noneL_sp hU (i + 1)
  have hN2l := hN2.len
  have eN : turnM (noneL u i) [] = noneL u (i + 1) := rfl
  simp only [vP.down, vS.down, vE.down, Nat.reduceEqDiff, Nat.reduceAdd, Nat.reduceSub, Nat.reduceMul, Nat.reduceLeDiff, Nat.reduceLT, Int.reduceToNat, reduceIte, reduceCtorEq, Int.reduceEq, Int.reduceLT, Int.reduceLE, ↓avp_condG, ↓tf_arrow, ↓ft_arrow, spC, hlt', hNl, h0, eN, Store.set_same, set_set, k_law10_SpaceKept_space_Turn.down, A_space_Turn, p_space_Turn, r_space_Turn]
  refine weak_at [(15, .imm (spC s)), (19, .ptr g2 0), (20, .t (.int .i64 (i : Nat)))] (Store.empty.set g2 (some (.box ((spC (noneL u (i + 1))).map .t) false))) fewer_refl (by simp only [vP.down, vS.down, vE.down, Nat.reduceEqDiff, Nat.reduceAdd, Nat.reduceSub, Nat.reduceMul, Nat.reduceLeDiff, Nat.reduceLT, Int.reduceToNat, reduceIte, reduceCtorEq, Int.reduceEq, Int.reduceLT, Int.reduceLE, ↓avp_condG, ↓tf_arrow, ↓ft_arrow, wP.down, spC]) ?_
  have hfl : (freeM 40 (noneL u (i + 1))).length ≤ 1000000 := free_len hN2l
  have p1 : (freeM 40 (noneL u (i + 1))).length + s.Held.length ≤ 1099511627 := by have := hSl.1; omega
  by_cases h2 : i < 2
  · have h2' : (i : Int) < 2 := by omega
    have eb := none_both hU hA (j := i + 1) (by omega)
    simp only [vP.down, vS.down, vE.down, Nat.reduceEqDiff, Nat.reduceAdd, Nat.reduceSub, Nat.reduceMul, Nat.reduceLeDiff, Nat.reduceLT, Int.reduceToNat, reduceIte, reduceCtorEq, Int.reduceEq, Int.reduceLT, Int.reduceLE, ↓avp_condG, ↓tf_arrow, ↓ft_arrow, spC, h2', hN2l, p1, eb, n0, Store.set_same, gt_iff_lt, pick_of, pick_ot, false_implies, k_law10_SpaceKept_space_Free.down, A_space_Free, p_space_Free, r_space_Free, k_law10_SpaceKept_ref8_Both.down, A_ref8_Both, p_ref8_Both, r_ref8_Both]
    exact round_to (3 - (i + 1)) [(15, .imm (spC s)), (19, .ptr g2 0), (20, .t (.int .i64 (i + 1 : Nat)))] (Store.empty.set g2 (some (.box ((spC (noneL u (i + 1))).map .t) false))) (by omega) fewer_refl (by simp only [vP.down, vS.down, vE.down, Nat.reduceEqDiff, Nat.reduceAdd, Nat.reduceSub, Nat.reduceMul, Nat.reduceLeDiff, Nat.reduceLT, Int.reduceToNat, reduceIte, reduceCtorEq, Int.reduceEq, Int.reduceLT, Int.reduceLE, ↓avp_condG, ↓tf_arrow, ↓ft_arrow, wP.down, hi1, spC]) ⟨i + 1, rfl, by omega, rfl⟩
  · have h2' : ¬ (i : Int) < 2 := by omega
    simp only [vP.down, vS.down, vE.down, Nat.reduceEqDiff, Nat.reduceAdd, Nat.reduceSub, Nat.reduceMul, Nat.reduceLeDiff, Nat.reduceLT, Int.reduceToNat, reduceIte, reduceCtorEq, Int.reduceEq, Int.reduceLT, Int.reduceLE, ↓avp_condG, ↓tf_arrow, ↓ft_arrow, spC, h2', hN2l, p1, n0, Store.set_same, gt_iff_lt, pick_of, pick_ot, false_implies, k_law10_SpaceKept_space_Free.down, A_space_Free, p_space_Free, r_space_Free, k_law10_SpaceKept_ref8_Both.down, A_ref8_Both, p_ref8_Both, r_ref8_Both]
    exact round_to (3 - (i + 1)) [(15, .imm (spC s)), (19, .ptr g2 0), (20, .t (.int .i64 (i + 1 : Nat)))] (Store.empty.set g2 (some (.box ((spC (noneL u (i + 1))).map .t) false))) (by omega) fewer_refl (by simp only [vP.down, vS.down, vE.down, Nat.reduceEqDiff, Nat.reduceAdd, Nat.reduceSub, Nat.reduceMul, Nat.reduceLeDiff, Nat.reduceLT, Int.reduceToNat, reduceIte, reduceCtorEq, Int.reduceEq, Int.reduceLT, Int.reduceLE, ↓avp_condG, ↓tf_arrow, ↓ft_arrow, wP.down, hi1, spC]) ⟨i + 1, rfl, by omega, rfl⟩
set_option maxHeartbeats 4000000 in
theorem kept_10 {s : TSpace} (hS : Sp s) {L : List (List TRun)} (hL3 : L.length = 3) (hL : ∀ l ∈ L, Nf l ∧ Wn 14 40 l) {g : Nat} {σ : St} (hσ : Wk σ (mkS [(15, .imm (spC s)), (16, .ptr g 0), (17, .t (sl L))] (Store.empty.set g (some (.box ((spC (keepM s)).map .t) false))))) :
    avp K_law10_SpaceKept G_law10_SpaceKept_10 (Ret K_law10_SpaceKept [.tmp 14] fun v _ => v = .t (.bool true)) σ := by
  unfold G_law10_SpaceKept_10
  simp only [avp_seq]
  refine ⟨_, hσ, ?_⟩
  have hK := hS.keep
  have hSl := hS.len
  have n0 : (([] : List TRun).length : Int) = 0 := rfl
  simp only [vP.down, vS.down, vE.down, Nat.reduceEqDiff, Nat.reduceAdd, Nat.reduceSub, Nat.reduceMul, Nat.reduceLeDiff, Nat.reduceLT, Int.reduceToNat, reduceIte, reduceCtorEq, Int.reduceEq, Int.reduceLT, Int.reduceLE, ↓avp_condG, ↓tf_arrow, ↓ft_arrow]
  refine loop_weak hm_law10_SpaceKept (fun m σ => ∃ i : Nat, m = 3 - i ∧ i ≤ 3 ∧ σ = mkS [(15, .imm (spC s)), (16, .ptr g 0), (17, .t (sl L)), (18, .t (.int .i64 (i : Nat)))] (Store.empty.set g (some (.box ((spC (turnsL (keepM s) L i)).map .t) false)))) ⟨0, rfl, by omega, rfl⟩ (wk_to fewer_refl (by simp only [vP.down, vS.down, vE.down, Nat.reduceEqDiff, Nat.reduceAdd, Nat.reduceSub, Nat.reduceMul, Nat.reduceLeDiff, Nat.reduceLT, Int.reduceToNat, reduceIte, reduceCtorEq, Int.reduceEq, Int.reduceLT, Int.reduceLE, ↓avp_condG, ↓tf_arrow, ↓ft_arrow, wP.down, Int.natCast_zero])) ?_
  rintro m _ ⟨i, rfl, hi, rfl⟩
  have hi1 : IntKind.i64.wrap ((i : Int) + 1) = ((i + 1 : Nat) : Int) := by rw [IntWalk.i64_in _ (by omega)]; rfl
  have hN := turnsL_sp hK hL i (by omega)
  have hNl := hN.len
  by_cases hlt : i < 3
  case neg =>
    obtain rfl : i = 3 := by omega
    have hge : ¬ ((3 : Int) < 3) := by omega
    have ek : (turnsL (keepM s) L 3).Kept = s.Held := turnsL_kept 3
    simp only [vP.down, vS.down, vE.down, Nat.reduceEqDiff, Nat.reduceAdd, Nat.reduceSub, Nat.reduceMul, Nat.reduceLeDiff, Nat.reduceLT, Int.reduceToNat, reduceIte, reduceCtorEq, Int.reduceEq, Int.reduceLT, Int.reduceLE, ↓avp_condG, ↓tf_arrow, ↓ft_arrow, hge, show ((3 : Nat) : Int) = 3 from rfl]
    exact kept_16 hS hN ek (wk_to fewer_refl (by simp only [vP.down, vS.down, vE.down, Nat.reduceEqDiff, Nat.reduceAdd, Nat.reduceSub, Nat.reduceMul, Nat.reduceLeDiff, Nat.reduceLT, Int.reduceToNat, reduceIte, reduceCtorEq, Int.reduceEq, Int.reduceLT, Int.reduceLE, ↓avp_condG, ↓tf_arrow, ↓ft_arrow, wP.down]))
  have hlt' : (i : Int) < 3 := by omega
  have x0 := idx_at (C := K_law10_SpaceKept) (l := L) (i := i) ty_LLapi_Run ty_Lapi_Run rfl (by omega) .i64
  have hmem : L.getD i default ∈ L := by
    rw [List.getD_eq_getElem?_getD, List.getElem?_eq_getElem (by omega)]; exact List.getElem_mem _
  have hq := hL _ hmem
  have hql := nf_len hq.1 hq.2
  have eN : turnM (turnsL (keepM s) L i) (L.getD i default) = turnsL (keepM s) L (i + 1) := rfl
  have hN2 := turnsL_sp hK hL (i + 1) (by omega)
  have hN2l := hN2.len
  have ek : (turnsL (keepM s) L (i + 1)).Kept = s.Held := turnsL_kept (i + 1)
  have eb : whereL .both (freeM 40 (turnsL (keepM s) L (i + 1))) s.Held = [] := both_free hN2 fun a ha => by
    rw [inS, ek, ha]; simp
  obtain ⟨q, hq'⟩ : ∃ q, q = L.getD i default := ⟨_, rfl⟩
  obtain ⟨t, ht⟩ : ∃ t, t = turnsL (keepM s) L i := ⟨_, rfl⟩
  obtain ⟨t', ht'⟩ : ∃ t, t = turnsL (keepM s) L (i + 1) := ⟨_, rfl⟩
  rw [← hq'] at x0 hql eN
  rw [← ht] at hNl eN ⊢
  rw [← ht'] at eN hN2l ek eb
  have pq : q.length ≤ 1000 := by omega
  simp only [vP.down, vS.down, vE.down, Nat.reduceEqDiff, Nat.reduceAdd, Nat.reduceSub, Nat.reduceMul, Nat.reduceLeDiff, Nat.reduceLT, Int.reduceToNat, reduceIte, reduceCtorEq, Int.reduceEq, Int.reduceLT, Int.reduceLE, ↓avp_condG, ↓tf_arrow, ↓ft_arrow, spC, hlt', hNl, pq, x0, eN, Store.set_same, set_set, k_law10_SpaceKept_space_Turn.down, A_space_Turn, p_space_Turn, r_space_Turn]
  refine weak_at [(15, .imm (spC s)), (16, .ptr g 0), (17, .t (sl L)), (18, .t (.int .i64 (i : Nat)))] (Store.empty.set g (some (.box ((spC t').map .t) false))) fewer_refl (by simp only [vP.down, vS.down, vE.down, Nat.reduceEqDiff, Nat.reduceAdd, Nat.reduceSub, Nat.reduceMul, Nat.reduceLeDiff, Nat.reduceLT, Int.reduceToNat, reduceIte, reduceCtorEq, Int.reduceEq, Int.reduceLT, Int.reduceLE, ↓avp_condG, ↓tf_arrow, ↓ft_arrow, wP.down, spC]) ?_
  have hfl : (freeM 40 t').length ≤ 1000000 := free_len hN2l
  have p1 : (freeM 40 t').length + s.Held.length ≤ 1099511627 := by have := hSl.1; omega
  have p2 : s.Held.length < 4611686018427387904 := by have := hSl.1; omega
  have p3 : t'.Kept.length < 4611686018427387904 := by rw [ek]; exact p2
  have e5 : decide (t'.Kept = s.Held) = true := decide_eq_true ek
  simp only [vP.down, vS.down, vE.down, Nat.reduceEqDiff, Nat.reduceAdd, Nat.reduceSub, Nat.reduceMul, Nat.reduceLeDiff, Nat.reduceLT, Int.reduceToNat, reduceIte, reduceCtorEq, Int.reduceEq, Int.reduceLT, Int.reduceLE, ↓avp_condG, ↓tf_arrow, ↓ft_arrow, spC, hN2l, p1, p3, eb, e5, n0, Store.set_same, gt_iff_lt, pick_of, pick_ot, false_implies, k_law10_SpaceKept_space_Free.down, A_space_Free, p_space_Free, r_space_Free, k_law10_SpaceKept_ref8_Both.down, A_ref8_Both, p_ref8_Both, r_ref8_Both, k_law10_SpaceKept_ref8_Same.down, A_ref8_Same, p_ref8_Same, r_ref8_Same]
  exact round_to (3 - (i + 1)) [(15, .imm (spC s)), (16, .ptr g 0), (17, .t (sl L)), (18, .t (.int .i64 (i + 1 : Nat)))] (Store.empty.set g (some (.box ((spC t').map .t) false))) (by omega) fewer_refl (by simp only [vP.down, vS.down, vE.down, Nat.reduceEqDiff, Nat.reduceAdd, Nat.reduceSub, Nat.reduceMul, Nat.reduceLeDiff, Nat.reduceLT, Int.reduceToNat, reduceIte, reduceCtorEq, Int.reduceEq, Int.reduceLT, Int.reduceLE, ↓avp_condG, ↓tf_arrow, ↓ft_arrow, wP.down, hi1, spC]) ⟨i + 1, rfl, by omega, by rw [ht']; rfl⟩
noncomputable def A_law10_SpaceKept : Arms ((List Byt) × (List Byt) × (List Byt) × (List Byt) × (List Byt) × (List Byt) × (List Byt) × Unit) := Arms.cons (argT (List Byt)) (Arms.cons (argT (List Byt)) (Arms.cons (argT (List Byt)) (Arms.cons (argT (List Byt)) (Arms.cons (argT (List Byt)) (Arms.cons (argT (List Byt)) (Arms.cons (argT (List Byt)) (Arms.nil)))))))
def p_law10_SpaceKept (x : (List Byt) × (List Byt) × (List Byt) × (List Byt) × (List Byt) × (List Byt) × (List Byt) × Unit) : Prop := (goodList (fun x : Byt => goodAny x) x.1) ∧ (goodList (fun x : Byt => goodAny x) x.2.1) ∧ (goodList (fun x : Byt => goodAny x) x.2.2.1) ∧ (goodList (fun x : Byt => goodAny x) x.2.2.2.1) ∧ (goodList (fun x : Byt => goodAny x) x.2.2.2.2.1) ∧ (goodList (fun x : Byt => goodAny x) x.2.2.2.2.2.1) ∧ (goodList (fun x : Byt => goodAny x) x.2.2.2.2.2.2.1) ∧ goodAny (x.2.2.2.2.2.2.2)
abbrev r_law10_SpaceKept (x : (List Byt) × (List Byt) × (List Byt) × (List Byt) × (List Byt) × (List Byt) × (List Byt) × Unit) : AV := rTrue x
theorem rd_law10_SpaceKept : ReadsA Try.prog [22, 22, 22, 22, 22, 22, 22] A_law10_SpaceKept p_law10_SpaceKept := (readsA_T (reads_list Try.underlying22 (reads_u8 Try.underlying5) (by kernel_rfl) (by decide)) (by kernel_rfl) (readsA_T (reads_list Try.underlying22 (reads_u8 Try.underlying5) (by kernel_rfl) (by decide)) (by kernel_rfl) (readsA_T (reads_list Try.underlying22 (reads_u8 Try.underlying5) (by kernel_rfl) (by decide)) (by kernel_rfl) (readsA_T (reads_list Try.underlying22 (reads_u8 Try.underlying5) (by kernel_rfl) (by decide)) (by kernel_rfl) (readsA_T (reads_list Try.underlying22 (reads_u8 Try.underlying5) (by kernel_rfl) (by decide)) (by kernel_rfl) (readsA_T (reads_list Try.underlying22 (reads_u8 Try.underlying5) (by kernel_rfl) (by decide)) (by kernel_rfl) (readsA_T (reads_list Try.underlying22 (reads_u8 Try.underlying5) (by kernel_rfl) (by decide)) (by kernel_rfl) readsA_nil)))))))
set_option maxHeartbeats 4000000 in
theorem body_law10_SpaceKept (x) (hx : p_law10_SpaceKept x) : avp K_law10_SpaceKept G_law10_SpaceKept (Ret K_law10_SpaceKept [.tmp 14] fun v _ => v = r_law10_SpaceKept x) (entry (A_law10_SpaceKept.enc x) .empty) := by
  obtain ⟨a, b, c, d, e1, e2, e3, ⟨⟩⟩ := x
  change avp _ _ (Ret _ _ fun v _ => v = .t (.bool true)) (entry [.t (sl a), .t (sl b), .t (sl c), .t (sl d), .t (sl e1), .t (sl e2), .t (sl e3)] .empty)
  unfold G_law10_SpaceKept
  by_cases c1 : (20 : Int) < (a.length : Int)
  · simp only [vP.down, vS.down, vE.down, Nat.reduceEqDiff, Nat.reduceAdd, Nat.reduceSub, Nat.reduceMul, Nat.reduceLeDiff, Nat.reduceLT, Int.reduceToNat, reduceIte, reduceCtorEq, Int.reduceEq, Int.reduceLT, Int.reduceLE, ↓avp_condG, ↓tf_arrow, ↓ft_arrow, k_law10_SpaceKept_law10_begun.down, A_law10_begun, p_law10_begun, r_law10_begun, c1, gt_iff_lt, pick_of, pick_ot]
    simp only [vP.down, vS.down, vE.down, Nat.reduceEqDiff, Nat.reduceAdd, Nat.reduceSub, Nat.reduceMul, Nat.reduceLeDiff, Nat.reduceLT, Int.reduceToNat, reduceIte, reduceCtorEq, Int.reduceEq, Int.reduceLT, Int.reduceLE, ↓avp_condG, ↓tf_arrow, ↓ft_arrow, vT.down]
  by_cases c2 : (20 : Int) < (b.length : Int)
  · simp only [vP.down, vS.down, vE.down, Nat.reduceEqDiff, Nat.reduceAdd, Nat.reduceSub, Nat.reduceMul, Nat.reduceLeDiff, Nat.reduceLT, Int.reduceToNat, reduceIte, reduceCtorEq, Int.reduceEq, Int.reduceLT, Int.reduceLE, ↓avp_condG, ↓tf_arrow, ↓ft_arrow, k_law10_SpaceKept_law10_begun.down, A_law10_begun, p_law10_begun, r_law10_begun, c1, c2, gt_iff_lt, pick_of, pick_ot]
    simp only [vP.down, vS.down, vE.down, Nat.reduceEqDiff, Nat.reduceAdd, Nat.reduceSub, Nat.reduceMul, Nat.reduceLeDiff, Nat.reduceLT, Int.reduceToNat, reduceIte, reduceCtorEq, Int.reduceEq, Int.reduceLT, Int.reduceLE, ↓avp_condG, ↓tf_arrow, ↓ft_arrow, vT.down]
  by_cases c3 : (20 : Int) < (c.length : Int)
  · simp only [vP.down, vS.down, vE.down, Nat.reduceEqDiff, Nat.reduceAdd, Nat.reduceSub, Nat.reduceMul, Nat.reduceLeDiff, Nat.reduceLT, Int.reduceToNat, reduceIte, reduceCtorEq, Int.reduceEq, Int.reduceLT, Int.reduceLE, ↓avp_condG, ↓tf_arrow, ↓ft_arrow, k_law10_SpaceKept_law10_begun.down, A_law10_begun, p_law10_begun, r_law10_begun, c1, c2, c3, gt_iff_lt, pick_of, pick_ot]
    simp only [vP.down, vS.down, vE.down, Nat.reduceEqDiff, Nat.reduceAdd, Nat.reduceSub, Nat.reduceMul, Nat.reduceLeDiff, Nat.reduceLT, Int.reduceToNat, reduceIte, reduceCtorEq, Int.reduceEq, Int.reduceLT, Int.reduceLE, ↓avp_condG, ↓tf_arrow, ↓ft_arrow, vT.down]
  by_cases c4 : (20 : Int) < (d.length : Int)
  · simp only [vP.down, vS.down, vE.down, Nat.reduceEqDiff, Nat.reduceAdd, Nat.reduceSub, Nat.reduceMul, Nat.reduceLeDiff, Nat.reduceLT, Int.reduceToNat, reduceIte, reduceCtorEq, Int.reduceEq, Int.reduceLT, Int.reduceLE, ↓avp_condG, ↓tf_arrow, ↓ft_arrow, k_law10_SpaceKept_law10_begun.down, A_law10_begun, p_law10_begun, r_law10_begun, c1, c2, c3, c4, gt_iff_lt, pick_of, pick_ot]
    simp only [vP.down, vS.down, vE.down, Nat.reduceEqDiff, Nat.reduceAdd, Nat.reduceSub, Nat.reduceMul, Nat.reduceLeDiff, Nat.reduceLT, Int.reduceToNat, reduceIte, reduceCtorEq, Int.reduceEq, Int.reduceLT, Int.reduceLE, ↓avp_condG, ↓tf_arrow, ↓ft_arrow, vT.down]
  by_cases c5 : (20 : Int) < (e1.length : Int)
  · simp only [vP.down, vS.down, vE.down, Nat.reduceEqDiff, Nat.reduceAdd, Nat.reduceSub, Nat.reduceMul, Nat.reduceLeDiff, Nat.reduceLT, Int.reduceToNat, reduceIte, reduceCtorEq, Int.reduceEq, Int.reduceLT, Int.reduceLE, ↓avp_condG, ↓tf_arrow, ↓ft_arrow, k_law10_SpaceKept_law10_begun.down, A_law10_begun, p_law10_begun, r_law10_begun, c1, c2, c3, c4, c5, gt_iff_lt, pick_of, pick_ot]
    simp only [vP.down, vS.down, vE.down, Nat.reduceEqDiff, Nat.reduceAdd, Nat.reduceSub, Nat.reduceMul, Nat.reduceLeDiff, Nat.reduceLT, Int.reduceToNat, reduceIte, reduceCtorEq, Int.reduceEq, Int.reduceLT, Int.reduceLE, ↓avp_condG, ↓tf_arrow, ↓ft_arrow, vT.down]
  by_cases c6 : (20 : Int) < (e2.length : Int)
  · simp only [vP.down, vS.down, vE.down, Nat.reduceEqDiff, Nat.reduceAdd, Nat.reduceSub, Nat.reduceMul, Nat.reduceLeDiff, Nat.reduceLT, Int.reduceToNat, reduceIte, reduceCtorEq, Int.reduceEq, Int.reduceLT, Int.reduceLE, ↓avp_condG, ↓tf_arrow, ↓ft_arrow, k_law10_SpaceKept_law10_begun.down, A_law10_begun, p_law10_begun, r_law10_begun, c1, c2, c3, c4, c5, c6, gt_iff_lt, pick_of, pick_ot]
    simp only [vP.down, vS.down, vE.down, Nat.reduceEqDiff, Nat.reduceAdd, Nat.reduceSub, Nat.reduceMul, Nat.reduceLeDiff, Nat.reduceLT, Int.reduceToNat, reduceIte, reduceCtorEq, Int.reduceEq, Int.reduceLT, Int.reduceLE, ↓avp_condG, ↓tf_arrow, ↓ft_arrow, vT.down]
  by_cases c7 : (20 : Int) < (e3.length : Int)
  · simp only [vP.down, vS.down, vE.down, Nat.reduceEqDiff, Nat.reduceAdd, Nat.reduceSub, Nat.reduceMul, Nat.reduceLeDiff, Nat.reduceLT, Int.reduceToNat, reduceIte, reduceCtorEq, Int.reduceEq, Int.reduceLT, Int.reduceLE, ↓avp_condG, ↓tf_arrow, ↓ft_arrow, k_law10_SpaceKept_law10_begun.down, A_law10_begun, p_law10_begun, r_law10_begun, c1, c2, c3, c4, c5, c6, c7, gt_iff_lt, pick_of, pick_ot]
    simp only [vP.down, vS.down, vE.down, Nat.reduceEqDiff, Nat.reduceAdd, Nat.reduceSub, Nat.reduceMul, Nat.reduceLeDiff, Nat.reduceLT, Int.reduceToNat, reduceIte, reduceCtorEq, Int.reduceEq, Int.reduceLT, Int.reduceLE, ↓avp_condG, ↓tf_arrow, ↓ft_arrow, vT.down]
  simp only [vP.down, vS.down, vE.down, Nat.reduceEqDiff, Nat.reduceAdd, Nat.reduceSub, Nat.reduceMul, Nat.reduceLeDiff, Nat.reduceLT, Int.reduceToNat, reduceIte, reduceCtorEq, Int.reduceEq, Int.reduceLT, Int.reduceLE, ↓avp_condG, ↓tf_arrow, ↓ft_arrow, k_law10_SpaceKept_law10_begun.down, A_law10_begun, p_law10_begun, r_law10_begun, c1, c2, c3, c4, c5, c6, c7, gt_iff_lt, pick_of, pick_ot]
  refine weak_at [(0, .t (sl a)), (1, .t (sl b)), (2, .t (sl c)), (3, .t (sl d)), (4, .t (sl e1)), (5, .t (sl e2)), (6, .t (sl e3))] .empty fewer_refl (by simp only [vP.down, vS.down, vE.down, Nat.reduceEqDiff, Nat.reduceAdd, Nat.reduceSub, Nat.reduceMul, Nat.reduceLeDiff, Nat.reduceLT, Int.reduceToNat, reduceIte, reduceCtorEq, Int.reduceEq, Int.reduceLT, Int.reduceLE, ↓avp_condG, ↓tf_arrow, ↓ft_arrow, wP.down]) ?_
  simp only [vP.down, vS.down, vE.down, Nat.reduceEqDiff, Nat.reduceAdd, Nat.reduceSub, Nat.reduceMul, Nat.reduceLeDiff, Nat.reduceLT, Int.reduceToNat, reduceIte, reduceCtorEq, Int.reduceEq, Int.reduceLT, Int.reduceLE, ↓avp_condG, ↓tf_arrow, ↓ft_arrow, k_law10_SpaceKept_law10_made.down, m_law10_made]
  refine ⟨a, b, c, d, rfl, ⟨by omega, by omega, by omega, by omega⟩, fun v S X Y Z W hv hX hY hZ hW => ?_⟩
  simp only [vP.down, vS.down, vE.down, Nat.reduceEqDiff, Nat.reduceAdd, Nat.reduceSub, Nat.reduceMul, Nat.reduceLeDiff, Nat.reduceLT, Int.reduceToNat, reduceIte, reduceCtorEq, Int.reduceEq, Int.reduceLT, Int.reduceLE, ↓avp_condG, ↓tf_arrow, ↓ft_arrow, hv.cells, hv.one]
  intro g hg
  refine weak_at [(4, .t (sl e1)), (5, .t (sl e2)), (6, .t (sl e3)), (15, .ptr g 0)] (Store.empty.set g (some (.box [.t (sl X), .t (sl (whereL .less Y X)), .t (sl (whereL .less (whereL .less Z X) (whereL .less Y X))), .t (sl W)] false))) (sp_freeze (Store.set_same _ _ _) (hv.fresh hg)) (by simp only [vP.down, vS.down, vE.down, Nat.reduceEqDiff, Nat.reduceAdd, Nat.reduceSub, Nat.reduceMul, Nat.reduceLeDiff, Nat.reduceLT, Int.reduceToNat, reduceIte, reduceCtorEq, Int.reduceEq, Int.reduceLT, Int.reduceLE, ↓avp_condG, ↓tf_arrow, ↓ft_arrow, wP.down]) ?_
  simp only [vP.down, vS.down, vE.down, Nat.reduceEqDiff, Nat.reduceAdd, Nat.reduceSub, Nat.reduceMul, Nat.reduceLeDiff, Nat.reduceLT, Int.reduceToNat, reduceIte, reduceCtorEq, Int.reduceEq, Int.reduceLT, Int.reduceLE, ↓avp_condG, ↓tf_arrow, ↓ft_arrow]
  refine weak_at [(4, .t (sl e1)), (5, .t (sl e2)), (6, .t (sl e3)), (15, .imm (spC (madeM X Y Z W)))] .empty fewer_empty (by
    simp only [vP.down, vS.down, vE.down, Nat.reduceEqDiff, Nat.reduceAdd, Nat.reduceSub, Nat.reduceMul, Nat.reduceLeDiff, Nat.reduceLT, Int.reduceToNat, reduceIte, reduceCtorEq, Int.reduceEq, Int.reduceLT, Int.reduceLE, ↓avp_condG, ↓tf_arrow, ↓ft_arrow, wP.down]
    exact w2_imm (l := spC (madeM X Y Z W)) (ro := false) (Store.set_same _ _ _) rfl) ?_
  clear hv hg
  have hS := made_sp hX hY hZ hW
  have hl := made_len hX hY hZ hW
  obtain ⟨s, hs⟩ : ∃ s, s = madeM X Y Z W := ⟨_, rfl⟩
  rw [← hs] at hS hl ⊢
  simp only [vP.down, vS.down, vE.down, Nat.reduceEqDiff, Nat.reduceAdd, Nat.reduceSub, Nat.reduceMul, Nat.reduceLeDiff, Nat.reduceLT, Int.reduceToNat, reduceIte, reduceCtorEq, Int.reduceEq, Int.reduceLT, Int.reduceLE, ↓avp_condG, ↓tf_arrow, ↓ft_arrow, spC, hl, k_law10_SpaceKept_space_Keep.down, A_space_Keep, p_space_Keep, r_space_Keep]
  intro g hg
  have hK := hS.keep
  have hKl := hK.len
  have okK : okSp 40 (keepM s) = true := hK.ok (n := 40) rfl
  have ek : (keepM s).Kept = s.Held := rfl
  obtain ⟨t, ht⟩ : ∃ t, t = keepM s := ⟨_, rfl⟩
  rw [← ht] at hKl okK ek ⊢
  refine weak_at [(4, .t (sl e1)), (5, .t (sl e2)), (6, .t (sl e3)), (15, .imm (spC s)), (16, .ptr g 0)] (Store.empty.set g (some (.box ((spC t).map .t) false))) fewer_refl (by simp only [vP.down, vS.down, vE.down, Nat.reduceEqDiff, Nat.reduceAdd, Nat.reduceSub, Nat.reduceMul, Nat.reduceLeDiff, Nat.reduceLT, Int.reduceToNat, reduceIte, reduceCtorEq, Int.reduceEq, Int.reduceLT, Int.reduceLE, ↓avp_condG, ↓tf_arrow, ↓ft_arrow, wP.down, spC]) ?_
  have p2 : s.Held.length < 4611686018427387904 := by have := hl.1; omega
  have p3 : t.Kept.length < 4611686018427387904 := by rw [ek]; exact p2
  have e5 : decide (t.Kept = s.Held) = true := decide_eq_true ek
  simp only [vP.down, vS.down, vE.down, Nat.reduceEqDiff, Nat.reduceAdd, Nat.reduceSub, Nat.reduceMul, Nat.reduceLeDiff, Nat.reduceLT, Int.reduceToNat, reduceIte, reduceCtorEq, Int.reduceEq, Int.reduceLT, Int.reduceLE, ↓avp_condG, ↓tf_arrow, ↓ft_arrow, spC, hKl, okK, p3, e5, Store.set_same, pick_of, pick_ot, false_implies, k_law10_SpaceKept_space_May.down, A_space_May, p_space_May, r_space_May, k_law10_SpaceKept_ref8_Same.down, A_ref8_Same, p_ref8_Same, r_ref8_Same]
  refine weak_at [(4, .t (sl e1)), (5, .t (sl e2)), (6, .t (sl e3)), (15, .imm (spC s)), (16, .ptr g 0)] (Store.empty.set g (some (.box ((spC t).map .t) false))) fewer_refl (by simp only [vP.down, vS.down, vE.down, Nat.reduceEqDiff, Nat.reduceAdd, Nat.reduceSub, Nat.reduceMul, Nat.reduceLeDiff, Nat.reduceLT, Int.reduceToNat, reduceIte, reduceCtorEq, Int.reduceEq, Int.reduceLT, Int.reduceLE, ↓avp_condG, ↓tf_arrow, ↓ft_arrow, wP.down, spC]) ?_
  obtain ⟨X, hX⟩ : ∃ X, X = (spC t).map AV.t := ⟨_, rfl⟩
  rw [← hX]
  simp only [vP.down, vS.down, vE.down, Nat.reduceEqDiff, Nat.reduceAdd, Nat.reduceSub, Nat.reduceMul, Nat.reduceLeDiff, Nat.reduceLT, Int.reduceToNat, reduceIte, reduceCtorEq, Int.reduceEq, Int.reduceLT, Int.reduceLE, ↓avp_condG, ↓tf_arrow, ↓ft_arrow, k_law10_SpaceKept_made_Made.down, q_made_Made, e_made_Made, mk_made_Made, k_law10_SpaceKept_made_Picks_Runs.down, m_made_Picks_Runs]
  refine ⟨⟨e1, rfl⟩, fun g1 hg1 => ?_⟩
  refine runs_any (pk_new hg1 (by omega)) (by omega) (by omega) fun v1 S1 m1 hv1 hm1 H1 _ => ?_
  have f1 : S1.f g = some (.box X false) := H1.keep ((Store.set_other _ _ (Store.ne_new hg1).symm).trans (Store.set_same _ _ _)) (Store.ne_new hg1).symm
  refine ⟨⟨e2, rfl⟩, fun g2 hg2 => ?_⟩
  refine runs_any (pk_new hg2 (by omega)) (by omega) (by omega) fun v2 S2 m2 hv2 hm2 H2 _ => ?_
  have f2 : S2.f g = some (.box X false) := H2.keep ((Store.set_other _ _ (ne_of f1 hg2)).trans f1) (ne_of f1 hg2)
  have hv1 := lv_over hv1 hg2 H2
  refine ⟨⟨e3, rfl⟩, fun g3 hg3 => ?_⟩
  refine runs_any (pk_new hg3 (by omega)) (by omega) (by omega) fun v3 S3 m3 hv3 hm3 H3 _ => ?_
  have f3 : S3.f g = some (.box X false) := H3.keep ((Store.set_other _ _ (ne_of f2 hg3)).trans f2) (ne_of f2 hg3)
  have hv1 := lv_over hv1 hg3 H3
  have hv2 := lv_over hv2 hg3 H3
  obtain ⟨y1, r1, b1, d1, n1⟩ := lv_borrow1 hv1
  obtain ⟨y2, r2, b2, d2, n2⟩ := lv_borrow1 hv2
  obtain ⟨y3, r3, b3, d3, n3⟩ := lv_borrow1 hv3
  simp only [vP.down, vS.down, vE.down, Nat.reduceEqDiff, Nat.reduceAdd, Nat.reduceSub, Nat.reduceMul, Nat.reduceLeDiff, Nat.reduceLT, Int.reduceToNat, reduceIte, reduceCtorEq, Int.reduceEq, Int.reduceLT, Int.reduceLE, ↓avp_condG, ↓tf_arrow, ↓ft_arrow, hv1.cells, hv2.cells, hv3.cells, b1, b2, b3]
  intro g4 hg4
  have hR : g ∉ r1 ++ (r2 ++ r3) := fun h => by
    rcases List.mem_append.1 h with h | h
    · exact n1 _ _ _ f3 h
    · rcases List.mem_append.1 h with h | h
      · exact n2 _ _ _ f3 h
      · exact n3 _ _ _ f3 h
  have f4 : (S3.marks (r1 ++ (r2 ++ r3))).f g = some (.box X false) := by rw [Store.marks_f, if_neg hR]; exact f3
  have n4 := ne_of f4 hg4
  have hdec : Cell.dec [TV.seq 1 [[y1], [y2], [y3]]] = some [m1, m2, m3] := by
    show (if (1 : Nat) = Cell.width (List TRun) then decAll [[y1], [y2], [y3]] else none) = _
    have hw1 : (1 : Nat) = Cell.width (List TRun) := rfl
    rw [if_pos hw1]
    simp only [decAll, d1, d2, d3, Option.bind_some, Option.map_some]
  subst hX
  subst ht
  refine kept_10 hS (L := [m1, m2, m3]) rfl (fun l hm => ?_) (wk_to (only_box ((Store.set_other _ _ n4).trans f4)) (by
    simp only [vP.down, vS.down, vE.down, Nat.reduceEqDiff, Nat.reduceAdd, Nat.reduceSub, Nat.reduceMul, Nat.reduceLeDiff, Nat.reduceLT, Int.reduceToNat, reduceIte, reduceCtorEq, Int.reduceEq, Int.reduceLT, Int.reduceLE, ↓avp_condG, ↓tf_arrow, ↓ft_arrow, wP.down, spC]
    exact w2_rows (Store.set_same _ _ _) rfl hdec (Store.set_other _ _ n4.symm)))
  simp only [List.mem_cons, List.not_mem_nil, or_false] at hm
  rcases hm with rfl | rfl | rfl
  · exact ⟨hm1.nf, hm1.wn⟩
  · exact ⟨hm2.nf, hm2.wn⟩
  · exact ⟨hm3.nf, hm3.wn⟩
noncomputable def c_law10_SpaceKept : Con := fnScal A_law10_SpaceKept p_law10_SpaceKept r_law10_SpaceKept
theorem ok_law10_SpaceKept : COk Try.prog 7 c_law10_SpaceKept := fn_sok sys_law10_SpaceKept mixed Try.func7 (by kernel_rfl) geq_law10_SpaceKept Try.ntmps7 (by rw [Try.results7]) (fun x => by simp [rTrue, AV.scal]) fun x hx => ⟨Nat.le_of_ble_eq_true rfl, body_law10_SpaceKept x hx⟩
theorem says_law10_SpaceKept : SaysTrue Rows.spaceKeptSpec 7 := ⟨rfl, fun H ds h => by
  match ds, h with
  | [d0, d1, d2, d3, d4, d5, d6], _ => exact ⟨rfl, rfl, rfl⟩⟩
set_option maxRecDepth 100000 in
theorem lifted_law10_SpaceKept (os : Os) (started : os.Started) (H : Type) (enc : TypeId × Value → H) :
    ReturnsInHanded {} Try.checked os 7 .any (Rows.spaceKeptSpec.pre6 enc Try.prog Try.f7 Rows.spaceKeptRow.domain false) (Rows.spaceKeptSpec.post enc Try.prog Try.f7 false true false false) := by
  refine returnsInHanded_of_change (C := Try.checked) own started (by kernel_rfl) Try.func7
    (ChangeSpec.witness6 (enc := enc) (C := Try.checked) false ⟨#[], #[.slice none 0 0, .slice none 0 0, .slice none 0 0, .slice none 0 0, .slice none 0 0, .slice none 0 0, .slice none 0 0], []⟩ 8 (by kernel_rfl) (by kernel_rfl) (by kernel_rfl) (by kernel_rfl)) ?_
  intro W base args ds gs before hval hW _ _
  exact law_contract (ts := [22, 22, 22, 22, 22, 22, 22]) (tb := 4) ok_law10_SpaceKept (by rw [Try.params7]) (by kernel_rfl) Try.underlying4 laid (by kernel_rfl) rd_law10_SpaceKept (fun _ h => h) says_law10_SpaceKept H enc W base args ds gs before hval hW
theorem over_law10_SpaceKept : Rows.spaceKeptRow.holds Try.pinned (OpenSpec.ofChange Rows.spaceKeptSpec) :=
  OpenClaim.holds_of_wide 7 Try.f7 rfl rfl rfl rfl rfl rfl rfl ⟨rfl, rfl, rfl, rfl, rfl⟩ rfl rfl rfl rfl rfl (by kernel_rfl) Try.func7 (by kernel_rfl)
    (of_decide_eq_true (by kernel_rfl)) (by unfold Func.isWrapper; first | (rw [if_pos (by decide +kernel)]; kernel_rfl) | (rw [if_neg (by decide +kernel)]; exact ⟨rfl, rfl⟩))
    (fun os started H enc _ => lifted_law10_SpaceKept os started H enc)
theorem spaceKept_holds : Rows.SpaceKeptSaid := over_law10_SpaceKept
end Go.Proofs.Ytgdaibdfjhchbaa

