/-
  What the laws lean on: how long sets are; what is still.
-/
import Derived.Test.YtgdaibdfjhchbaaFnsE
set_option linter.unusedSimpArgs false
set_option linter.unusedVariables false
namespace Go.Proofs.Ytgdaibdfjhchbaa
open Go Go.Eng
set_option maxRecDepth 100000
theorem cnt_ge : ∀ {l : List TRun}, Nf l → (l.length : Int) ≤ cntR l
  | [], _ => Int.le_refl _
  | r :: t, h => by
    have h1 := cnt_ge h.tail
    have h2 := h.head.1
    have e : cntR (r :: t) = r.To - r.From + cntR t := by simp [cntR]
    rw [e, List.length_cons]
    omega
theorem nf_len {l : List TRun} {a : Int} {k : Nat} (h : Nf l) (hw : Wn a k l) : l.length ≤ k := by
  have h1 := cnt_ge h
  rw [cntR_card h hw] at h1
  have h2 := List.length_filter_le (hasR l) (seg a k)
  rw [seg_len] at h2
  omega
theorem Sp.len {s : TSpace} (h : Sp s) : lenS s := by
  have h1 := nf_len h.nh h.wh
  have h2 := nf_len h.no h.wo
  have h3 := nf_len h.nt h.wt
  have h4 := nf_len h.nk h.wk
  have e1 : s.Held.length ≤ 1000 := by omega
  have e2 : s.One.length ≤ 1000 := by omega
  have e3 : s.Two.length ≤ 1000 := by omega
  have e4 : s.Kept.length ≤ 1000 := by omega
  exact ⟨e1, e2, e3, e4⟩
theorem less_self {l : List TRun} : whereL .less l l = [] := where_nil.2 fun i => by
  show (hasR l i && !hasR l i) = false
  cases hasR l i <;> rfl
theorem less_nl {l : List TRun} : whereL .less [] l = [] := where_nil.2 fun i => rfl
theorem still_eq {s : TSpace} {h : List TRun} : turnM (turnM (turnM s h) h) h = ⟨h, [], [], s.Kept⟩ := by
  simp only [turnM, less_self, less_nl]
theorem still_turn {h k : List TRun} : turnM ⟨h, [], [], k⟩ h = ⟨h, [], [], k⟩ := by
  simp only [turnM, less_self, less_nl]
theorem still_free {h k : List TRun} (hS : Sp ⟨h, [], [], k⟩) : whereL .less (whereL .less [(⟨14, 54⟩ : TRun)] h) k = freeM 40 ⟨h, [], [], k⟩ := by
  refine nf_ext where_nf free_nf fun i => ?_
  have e := hS.free (n := 40) rfl i
  rw [show ((40 : Nat) : Int) = 40 from rfl] at e
  rw [e, where_has, where_has]
  have e2 : hasR [(⟨14, 54⟩ : TRun)] i = (decide (14 ≤ i) && decide (i < 14 + 40)) := all_has (n := 40)
  rw [e2]
  show ((decide (14 ≤ i) && decide (i < 14 + 40) && !hasR h i) && !hasR k i) = (decide (14 ≤ i) && decide (i < 14 + 40) && !(hasR h i || (false || (false || hasR k i))))
  cases hasR h i <;> cases hasR k i <;> simp
end Go.Proofs.Ytgdaibdfjhchbaa


namespace Go.Proofs.Ytgdaibdfjhchbaa
open Go Go.Eng
set_option maxRecDepth 100000
theorem card40 {l : List TRun} (h : Nf l) (hw : Wn 14 40 l) : l.length ≤ 40 ∧ okB l ∧ 0 ≤ cntR l ∧ cntR l ≤ 40 := by
  have e := cntR_card h hw
  have h2 := List.length_filter_le (hasR l) (seg 14 40)
  rw [seg_len] at h2
  exact ⟨nf_len h hw, okB_of h hw (by omega) (by omega), by omega, by omega⟩
/-- What a group holds: of what was held, and of what was free. -/
def growH (s : TSpace) (x y f : List TRun) : List TRun := whereL .add (whereL .both x s.Held) (whereL .both y f)
theorem grow_nf {s : TSpace} {x y f : List TRun} : Nf (growH s x y f) := where_nf
theorem grow_wn {s : TSpace} (h : Sp s) {x y f : List TRun} (hx : Wn 14 40 x) (hy : Wn 14 40 y) (hf : Wn 14 40 f) : Wn 14 40 (growH s x y f) := where_wn (where_wn hx h.wh) (where_wn hy hf)
theorem grow_all {s : TSpace} (h : Sp s) {x y f g : List TRun} (hx : Wn 14 40 x) (hy : Wn 14 40 y) (hf : f = freeM 40 s) (hg : g = freeM 40 (turnM s (growH s x y f))) :
    cntR g = cntR f - cntR (whereL .both y f) + cntR (whereL .less s.Two s.Kept) ∧ whereL .both g (whereL .both y f) = [] ∧ whereL .less (whereL .less f (whereL .both y f)) g = [] := by
  have d40 : dataOk ((40 : Nat) : Int) = true := rfl
  have wf : Wn 14 40 f := hf ▸ h.fwn d40
  have nf : Nf f := hf ▸ free_nf
  have ht := h.turn grow_nf (grow_wn h hx hy wf)
  have ef : ∀ i, hasR f i = (decide (14 ≤ i) && decide (i < 54) && !inS s i) := fun i => hf ▸ h.free d40 i
  have eg : ∀ i, hasR g i = (decide (14 ≤ i) && decide (i < 54) && !(((hasR x i && hasR s.Held i) || (hasR y i && hasR f i)) || (hasR s.Held i || (hasR s.One i || hasR s.Kept i)))) := fun i => by
    have := ht.free d40 i
    rw [turn_in] at this
    have e2 : hasR (growH s x y f) i = ((hasR x i && hasR s.Held i) || (hasR y i && hasR f i)) := by
      rw [growH, where_has, where_has, where_has]; rfl
    rw [e2] at this
    exact hg ▸ this
  have d1 := h.d1
  have d2 := h.d2
  have d3 := h.d3
  have wt := h.wt
  have hin : ∀ i, hasR s.Two i = true → (decide (14 ≤ i) && decide (i < 54)) = true := fun i hi => by
    have := wt i hi
    rw [decide_eq_true (by omega), decide_eq_true (by omega)]; rfl
  have sum : whereL .add (whereL .less f (whereL .both y f)) (whereL .less s.Two s.Kept) = g := nf_ext where_nf (hg ▸ free_nf) fun i => by
    have a2 := d2 i
    have a3 := d3 i
    have a4 := hin i
    rw [where_has, where_has, where_has, where_has, eg, ef]
    simp only [How.op, inS]
    revert a2 a3 a4
    generalize (decide (14 ≤ i) && decide (i < 54)) = I
    cases I <;> cases hasR s.Held i <;> cases hasR s.One i <;> cases hasR s.Two i <;> cases hasR s.Kept i <;> cases hasR x i <;> cases hasR y i <;> simp
  have dis : whereL .both (whereL .less f (whereL .both y f)) (whereL .less s.Two s.Kept) = [] := where_nil.2 fun i => by
    rw [where_has, where_has, where_has, ef]
    simp only [How.op, inS]
    generalize (decide (14 ≤ i) && decide (i < 54)) = I
    cases I <;> cases hasR s.Held i <;> cases hasR s.One i <;> cases hasR s.Two i <;> cases hasR s.Kept i <;> cases hasR y i <;> simp
  have fm : whereL .both f (whereL .both y f) = whereL .both y f := nf_ext where_nf where_nf fun i => by
    rw [where_has, where_has]
    simp only [How.op]
    cases hasR f i <;> cases hasR y i <;> rfl
  have wm := where_wn (h := .both) hy wf
  have wl : Wn 14 40 (whereL .less f (whereL .both y f)) := less_wn wf
  have wk : Wn 14 40 (whereL .less s.Two s.Kept) := less_wn h.wt
  have c1 := cnt_two (l := whereL .less f (whereL .both y f)) (m := whereL .less s.Two s.Kept) where_nf where_nf wl wk
  have c2 := cnt_less (l := f) (m := whereL .both y f) nf wf wm
  rw [sum, dis] at c1
  rw [fm] at c2
  have c0 : cntR ([] : List TRun) = 0 := rfl
  refine ⟨by omega, where_nil.2 fun i => ?_, where_nil.2 fun i => ?_⟩
  · rw [where_has, eg, ef]
    simp only [How.op, inS]
    generalize (decide (14 ≤ i) && decide (i < 54)) = I
    cases I <;> cases hasR s.Held i <;> cases hasR s.One i <;> cases hasR s.Two i <;> cases hasR s.Kept i <;> cases hasR y i <;> simp
  · rw [where_has, where_has, eg, ef]
    simp only [How.op, inS]
    have a2 := d2 i
    have a3 := d3 i
    have a4 := hin i
    revert a2 a3 a4
    generalize (decide (14 ≤ i) && decide (i < 54)) = I
    cases I <;> cases hasR s.Held i <;> cases hasR s.One i <;> cases hasR s.Two i <;> cases hasR s.Kept i <;> cases hasR x i <;> cases hasR y i <;> simp
end Go.Proofs.Ytgdaibdfjhchbaa


namespace Go.Proofs.Ytgdaibdfjhchbaa
open Go Go.Eng
set_option maxRecDepth 100000
def turnsL (s : TSpace) (L : List (List TRun)) : Nat → TSpace
  | 0 => s
  | i + 1 => turnM (turnsL s L i) (L.getD i default)
theorem turnsL_kept {s : TSpace} {L : List (List TRun)} : ∀ i, (turnsL s L i).Kept = s.Kept
  | 0 => rfl
  | i + 1 => turnsL_kept i
theorem turnsL_sp {s : TSpace} {L : List (List TRun)} (h : Sp s) (hL : ∀ l ∈ L, Nf l ∧ Wn 14 40 l) : ∀ i, i ≤ L.length → Sp (turnsL s L i)
  | 0, _ => h
  | i + 1, hi => by
    have e : L.getD i default ∈ L := by
      rw [List.getD_eq_getElem?_getD, List.getElem?_eq_getElem (by omega)]; exact List.getElem_mem _
    exact (turnsL_sp h hL i (by omega)).turn (hL _ e).1 (hL _ e).2
/-- What groups held: the one ahead of the last one, the last one, those that follow. -/
def hist (s : TSpace) (L : List (List TRun)) (k : Nat) : List TRun := if k = 0 then s.One else if k = 1 then s.Held else L.getD (k - 2) default
theorem turnsL_held {s : TSpace} {L : List (List TRun)} : ∀ i, (turnsL s L i).Held = hist s L (i + 1)
  | 0 => rfl
  | _ + 1 => rfl
theorem turnsL_one {s : TSpace} {L : List (List TRun)} {a : Int} : ∀ i, ((hasR (turnsL s L i).Held a) || hasR (turnsL s L i).One a) = (hasR (hist s L (i + 1)) a || hasR (hist s L i) a)
  | 0 => rfl
  | i + 1 => by
    rw [turnsL_held]
    have e : hasR (turnsL s L (i + 1)).One a = (hasR (turnsL s L i).Held a && !hasR (L.getD i default) a) := where_has
    have e2 : hist s L (i + 1 + 1) = L.getD i default := rfl
    rw [e, turnsL_held, e2]
    cases hasR (L.getD i default) a <;> cases hasR (hist s L (i + 1)) a <;> rfl
theorem turns_in {s : TSpace} {L : List (List TRun)} {a : Int} (i : Nat) : inS (turnsL s L (i + 1)) a = (((hasR s.Kept a || hasR (hist s L i) a) || hasR (hist s L (i + 1)) a) || hasR (hist s L (i + 2)) a) := by
  have e : inS (turnsL s L (i + 1)) a = _ := turn_in
  have e1 := turnsL_one (s := s) (L := L) (a := a) i
  have e2 : hist s L (i + 2) = L.getD i default := rfl
  rw [e, turnsL_kept, e2]
  revert e1
  cases hasR (L.getD i default) a <;> cases hasR (turnsL s L i).Held a <;> cases hasR (turnsL s L i).One a <;> cases hasR s.Kept a <;> cases hasR (hist s L (i + 1)) a <;> cases hasR (hist s L i) a <;> simp
def ownK (s : TSpace) (L : List (List TRun)) (i : Nat) (a : Int) : Nat → Bool
  | 0 => hasR s.Kept a
  | j + 1 => ownK s L i a j || hasR (hist s L (i + j)) a
theorem turns_free {s : TSpace} {L : List (List TRun)} (h : Sp s) (hL : ∀ l ∈ L, Nf l ∧ Wn 14 40 l) {i : Nat} (hi : i < L.length) {a : Int} (h1 : 14 ≤ a) (h2 : a < 54) : hasR (freeM 40 (turnsL s L (i + 1))) a = !ownK s L i a 3 := by
  have e := (turnsL_sp h hL (i + 1) hi).free (n := 40) rfl a
  have e' : hasR (freeM 40 (turnsL s L (i + 1))) a = (decide (14 ≤ a) && decide (a < 54) && !inS (turnsL s L (i + 1)) a) := e
  rw [e', decide_eq_true h1, decide_eq_true h2, turns_in]
  rfl
/-- Groups that hold nothing. -/
def noneL (u : TSpace) : Nat → TSpace
  | 0 => u
  | i + 1 => turnM (noneL u i) []
theorem noneL_sp {u : TSpace} (h : Sp u) : ∀ i, Sp (noneL u i)
  | 0 => h
  | i + 1 => (noneL_sp h i).turn .nil wn_nil
theorem noneL_kept {u : TSpace} : ∀ i, (noneL u i).Kept = u.Kept
  | 0 => rfl
  | i + 1 => noneL_kept i
theorem both_free {u : TSpace} (h : Sp u) {A : List TRun} (hA : ∀ i, hasR A i = true → inS u i = true) : whereL .both (freeM 40 u) A = [] := where_nil.2 fun i => by
  have e := h.free (n := 40) rfl i
  have e' : hasR (freeM 40 u) i = (decide (14 ≤ i) && decide (i < 54) && !inS u i) := e
  show (hasR (freeM 40 u) i && hasR A i) = false
  rw [e']
  cases hi : hasR A i with
  | false => rw [Bool.and_false]
  | true => rw [hA i hi, Bool.not_true, Bool.and_false]; rfl
theorem noneL_held {u : TSpace} {A : List TRun} (hA : ∀ i, hasR A i = true → hasR u.Held i = true) {j : Nat} (hj : j < 3) (i : Int) (hi : hasR A i = true) : inS (noneL u j) i = true := by
  have h1 := hA i hi
  rcases (by omega : j = 0 ∨ j = 1 ∨ j = 2) with rfl | rfl | rfl
  · show (hasR u.Held i || _) = true
    rw [h1]; rfl
  · show inS (turnM u []) i = true
    rw [turn_in, h1]; simp
  · show inS (turnM (turnM u []) []) i = true
    have e : hasR (turnM u []).One i = true := by
      show hasR (whereL .less u.Held []) i = true
      rw [where_has, h1]; rfl
    rw [turn_in, e]; simp
theorem none_both {u : TSpace} (h : Sp u) {A : List TRun} (hA : ∀ i, hasR A i = true → hasR u.Held i = true) {j : Nat} (hj : j < 3) : whereL .both (freeM 40 (noneL u j)) A = [] :=
  both_free (noneL_sp h j) (noneL_held hA hj)
theorem none_cnt {u : TSpace} (h : Sp u) (hk : u.Kept = []) : cntR (freeM 40 (noneL u 3)) = 40 := by
  have hS := noneL_sp h 3
  have d40 : dataOk ((40 : Nat) : Int) = true := rfl
  have e : freeM 40 (noneL u 3) = [⟨14, 54⟩] := nf_ext free_nf (.one (by decide)) fun i => by
    have e1 : hasR (freeM 40 (noneL u 3)) i = (decide (14 ≤ i) && decide (i < 54) && !inS (noneL u 3) i) := hS.free d40 i
    have e2 : inS (noneL u 3) i = false := by
      have e3 : inS (noneL u 3) i = _ := turn_in
      rw [e3]
      have a1 : hasR (noneL u 2).Held i = false := rfl
      have a2 : hasR (noneL u 2).One i = false := by
        show hasR (whereL .less (noneL u 1).Held []) i = false
        rw [where_has]; rfl
      have a3 : (noneL u 2).Kept = [] := (noneL_kept 2).trans hk
      rw [a1, a2, a3]; rfl
    have e4 : hasR [(⟨14, 54⟩ : TRun)] i = (decide (14 ≤ i) && decide (i < 14 + 40)) := all_has (n := 40)
    rw [e1, e2, e4, Bool.not_false, Bool.and_true]; rfl
  rw [e]; rfl
theorem fold_free {t : TSpace} (h : Sp t) : freeM 40 (foldM t) = freeM 40 t := nf_ext free_nf free_nf fun i => by
  have e1 : hasR (freeM 40 (foldM t)) i = (decide (14 ≤ i) && decide (i < 54) && !inS (foldM t) i) := h.fold.free (n := 40) rfl i
  have e2 : hasR (freeM 40 t) i = (decide (14 ≤ i) && decide (i < 54) && !inS t i) := h.free (n := 40) rfl i
  rw [e1, e2]
  have e3 : inS (foldM t) i = inS t i := by
    simp only [inS, foldM, where_has, How.op]
    cases hasR t.Held i <;> cases hasR t.One i <;> cases hasR t.Two i <;> cases hasR t.Kept i <;> rfl
  rw [e3]
theorem lv_borrow1 {α : Type} [Cell α] {S : Store} {v : AV} {l : List α} (hv : LV S v l) : ∃ y ros, S.borrow1 v = some (y, ros) ∧ Cell.dec [y] = some l ∧ ∀ g cs ro, S.f g = some (.box cs ro) → g ∉ ros := by
  rcases hv with ⟨rfl, rfl⟩ | ⟨k, rfl, ro, h⟩
  · exact ⟨.nilS, [], rfl, rfl, fun _ _ _ _ h => by cases h⟩
  · refine ⟨sl l, [k], ?_, Cell.dec_enc l, fun g cs ro' hg hm => ?_⟩
    · simp only [Store.borrow1, h, sl]
      simp
      rw [List.take_of_length_le (by simp)]
    · have : g = k := by simpa using hm
      rw [this, h] at hg; cases hg
end Go.Proofs.Ytgdaibdfjhchbaa


namespace Go.Proofs.Ytgdaibdfjhchbaa
open Go Go.Eng
set_option maxRecDepth 100000
def G_law10_SpaceTurns_13 : GCode := .seq (.seq .weak (.region [⟨(some 108), none, .load 26 (.tmp 17)⟩, ⟨(some 109), none, .call ⟨.value (.func 19), #[.const (.int .i64 40), .tmp 108], #[3, 26]⟩⟩, ⟨(some 19), none, .assign (.tmp 109)⟩])) (.seq (.seq .weak (.region [⟨(some 20), none, .assign (.const (.int .i64 14))⟩])) (.block 2 (.loop (.seq .weak (.seq (.seq (.region [⟨(some 110), none, .move (.tmp 20)⟩, ⟨(some 111), none, .binOp .lss 3 (.tmp 110) (.const (.int .i64 54)) 3⟩]) (.cond (.tmp 111) (.skip) (.exit 2))) (.seq (.block 3 (.seq (.seq .weak (.region [⟨(some 114), none, .fieldAddr 26 (.tmp 15) 3⟩, ⟨(some 115), none, .load 23 (.tmp 114)⟩, ⟨(some 116), none, .move (.tmp 20)⟩, ⟨(some 117), none, .call ⟨.value (.func 27), #[.tmp 115, .tmp 116], #[23, 3]⟩⟩, ⟨(some 21), none, .assign (.tmp 117)⟩])) (.seq (.seq (.seq .weak (.region [⟨(some 118), none, .move (.tmp 18)⟩, ⟨(some 119), none, .binOp .sub 3 (.tmp 118) (.const (.int .i64 2)) 3⟩, ⟨(some 22), none, .assign (.tmp 119)⟩])) (.block 4 (.loop (.seq .weak (.seq (.seq (.region [⟨(some 120), none, .move (.tmp 22)⟩, ⟨(some 121), none, .move (.tmp 18)⟩, ⟨(some 122), none, .binOp .leq 3 (.tmp 120) (.tmp 121) 3⟩]) (.cond (.tmp 122) (.skip) (.exit 4))) (.seq (.block 5 (.block 6 (.seq (.seq .weak (.region [⟨(some 133), none, .move (.tmp 22)⟩, ⟨(some 134), none, .binOp .geq 3 (.tmp 133) (.const (.int .i64 0)) 3⟩, ⟨(some 132), none, .assign (.tmp 134)⟩])) (.cond (.tmp 132) (.seq .weak (.region [⟨(some 135), none, .move (.tmp 21)⟩, ⟨(some 136), none, .move (.tmp 135)⟩, ⟨(some 137), (some (136, false)), .move (.tmp 16)⟩, ⟨(some 138), (some (136, false)), .move (.tmp 22)⟩, ⟨(some 139), (some (136, false)), .indexAddr 42 (.tmp 137) (.tmp 138)⟩, ⟨(some 140), (some (136, false)), .load 23 (.tmp 139)⟩, ⟨(some 141), (some (136, false)), .move (.tmp 20)⟩, ⟨(some 142), (some (136, false)), .call ⟨.value (.func 27), #[.tmp 140, .tmp 141], #[23, 3]⟩⟩, ⟨(some 143), none, .pick (.tmp 136) (.const (.bool true)) (.tmp 142)⟩, ⟨(some 21), none, .assign (.tmp 143)⟩])) (.seq (.region [⟨(some 145), none, .move (.tmp 22)⟩, ⟨(some 146), none, .binOp .eql 3 (.tmp 145) (.const (.int .i64 (-1))) 3⟩, ⟨(some 144), none, .assign (.tmp 146)⟩]) (.cond (.tmp 144) (.seq .weak (.region [⟨(some 147), none, .move (.tmp 21)⟩, ⟨(some 148), none, .move (.tmp 147)⟩, ⟨(some 149), (some (148, false)), .fieldAddr 26 (.tmp 15) 0⟩, ⟨(some 150), (some (148, false)), .load 23 (.tmp 149)⟩, ⟨(some 151), (some (148, false)), .move (.tmp 20)⟩, ⟨(some 152), (some (148, false)), .call ⟨.value (.func 27), #[.tmp 150, .tmp 151], #[23, 3]⟩⟩, ⟨(some 153), none, .pick (.tmp 148) (.const (.bool true)) (.tmp 152)⟩, ⟨(some 21), none, .assign (.tmp 153)⟩])) (.seq .weak (.region [⟨(some 125), none, .move (.tmp 21)⟩, ⟨(some 126), none, .move (.tmp 125)⟩, ⟨(some 127), (some (126, false)), .fieldAddr 26 (.tmp 15) 1⟩, ⟨(some 128), (some (126, false)), .load 23 (.tmp 127)⟩, ⟨(some 129), (some (126, false)), .move (.tmp 20)⟩, ⟨(some 130), (some (126, false)), .call ⟨.value (.func 27), #[.tmp 128, .tmp 129], #[23, 3]⟩⟩, ⟨(some 131), none, .pick (.tmp 126) (.const (.bool true)) (.tmp 130)⟩, ⟨(some 21), none, .assign (.tmp 131)⟩])))))))) (.region [⟨(some 123), none, .move (.tmp 22)⟩, ⟨(some 124), none, .binOp .add 3 (.tmp 123) (.const (.int .i64 1)) 3⟩, ⟨(some 22), none, .assign (.tmp 124)⟩]))))))) (.seq (.seq .weak (.region [⟨(some 154), none, .move (.tmp 19)⟩, ⟨(some 155), none, .move (.tmp 20)⟩, ⟨(some 156), none, .call ⟨.value (.func 27), #[.tmp 154, .tmp 155], #[23, 3]⟩⟩, ⟨(some 157), none, .move (.tmp 21)⟩, ⟨(some 158), none, .binOp .eql 4 (.tmp 156) (.tmp 157) 4⟩])) (.cond (.tmp 158) (.seq (.region [⟨(some 14), none, .assign (.const (.bool false))⟩]) (.ret)) (.skip)))))) (.region [⟨(some 112), none, .move (.tmp 20)⟩, ⟨(some 113), none, .binOp .add 3 (.tmp 112) (.const (.int .i64 1)) 3⟩, ⟨(some 20), none, .assign (.tmp 113)⟩])))))))
def G_law10_SpaceTurns_29 : GCode := .seq (.seq .weak (.region [⟨(some 159), none, .load 26 (.tmp 15)⟩, ⟨(some 160), none, .call ⟨.value (.func 15), #[.tmp 159], #[26]⟩⟩, ⟨(some 23), none, .alloc 26⟩, ⟨none, none, .store 26 (.tmp 23) (.tmp 160)⟩])) (.seq (.seq (.seq .weak (.region [⟨(some 24), none, .assign (.const (.int .i64 0))⟩])) (.block 7 (.loop (.seq .weak (.seq (.seq (.region [⟨(some 161), none, .move (.tmp 24)⟩, ⟨(some 162), none, .binOp .lss 3 (.tmp 161) (.const (.int .i64 3)) 3⟩]) (.cond (.tmp 162) (.skip) (.exit 7))) (.seq (.block 8 (.seq (.region [⟨(some 165), none, .load 26 (.tmp 23)⟩, ⟨(some 166), none, .call ⟨.value (.func 19), #[.const (.int .i64 40), .tmp 165], #[3, 26]⟩⟩, ⟨(some 25), none, .assign (.tmp 166)⟩]) (.seq (.seq (.seq .weak (.region [⟨(some 167), none, .move (.tmp 25)⟩, ⟨(some 168), none, .fieldAddr 26 (.tmp 15) 3⟩, ⟨(some 169), none, .load 23 (.tmp 168)⟩, ⟨(some 170), none, .call ⟨.value (.func 28), #[.tmp 167, .tmp 169], #[23, 23]⟩⟩, ⟨(some 171), none, .call ⟨.builtin .len, #[.tmp 170], #[23]⟩⟩, ⟨(some 172), none, .binOp .gtr 3 (.tmp 171) (.const (.int .i64 0)) 3⟩, ⟨(some 173), none, .move (.tmp 172)⟩, ⟨(some 174), (some (173, false)), .fieldAddr 26 (.tmp 23) 3⟩, ⟨(some 175), (some (173, false)), .load 23 (.tmp 174)⟩, ⟨(some 176), (some (173, false)), .call ⟨.builtin .len, #[.tmp 175], #[23]⟩⟩, ⟨(some 177), (some (173, false)), .binOp .gtr 3 (.tmp 176) (.const (.int .i64 0)) 3⟩, ⟨(some 178), none, .pick (.tmp 173) (.const (.bool true)) (.tmp 177)⟩])) (.cond (.tmp 178) (.seq (.region [⟨(some 14), none, .assign (.const (.bool false))⟩]) (.ret)) (.skip))) (.region [⟨(some 179), none, .load 26 (.tmp 23)⟩, ⟨(some 180), none, .call ⟨.value (.func 22), #[.tmp 179, .const (.slice none 0 0)], #[26, 23]⟩⟩, ⟨none, none, .store 26 (.tmp 23) (.tmp 180)⟩])))) (.region [⟨(some 163), none, .move (.tmp 24)⟩, ⟨(some 164), none, .binOp .add 3 (.tmp 163) (.const (.int .i64 1)) 3⟩, ⟨(some 24), none, .assign (.tmp 164)⟩]))))))) (.seq (.seq .weak (.region [⟨(some 181), none, .load 26 (.tmp 23)⟩, ⟨(some 182), none, .call ⟨.value (.func 19), #[.const (.int .i64 40), .tmp 181], #[3, 26]⟩⟩, ⟨(some 183), none, .call ⟨.value (.func 29), #[.tmp 182], #[23]⟩⟩, ⟨(some 184), none, .binOp .eql 3 (.tmp 183) (.const (.int .i64 40)) 3⟩, ⟨(some 14), none, .assign (.tmp 184)⟩])) (.ret)))
def G_law10_SpaceTurns_8 : GCode := .seq (.seq (.seq .weak (.region [⟨(some 18), none, .assign (.const (.int .i64 0))⟩])) (.block 0 (.loop (.seq .weak (.seq (.seq (.region [⟨(some 77), none, .move (.tmp 18)⟩, ⟨(some 78), none, .binOp .lss 3 (.tmp 77) (.const (.int .i64 3)) 3⟩]) (.cond (.tmp 78) (.skip) (.exit 0))) (.seq (.block 1 (.seq (.region [⟨(some 81), none, .load 26 (.tmp 17)⟩, ⟨(some 82), none, .move (.tmp 16)⟩, ⟨(some 83), none, .move (.tmp 18)⟩, ⟨(some 84), none, .indexAddr 42 (.tmp 82) (.tmp 83)⟩, ⟨(some 85), none, .load 23 (.tmp 84)⟩, ⟨(some 86), none, .call ⟨.value (.func 22), #[.tmp 81, .tmp 85], #[26, 23]⟩⟩, ⟨none, none, .store 26 (.tmp 17) (.tmp 86)⟩]) (.seq (.seq (.seq .weak (.region [⟨(some 87), none, .load 26 (.tmp 17)⟩, ⟨(some 88), none, .call ⟨.value (.func 16), #[.const (.int .i64 40), .tmp 87], #[3, 26]⟩⟩, ⟨(some 89), none, .unOp .not 4 (.tmp 88)⟩, ⟨(some 90), none, .move (.tmp 89)⟩, ⟨(some 91), (some (90, false)), .fieldAddr 26 (.tmp 17) 3⟩, ⟨(some 92), (some (90, false)), .load 23 (.tmp 91)⟩, ⟨(some 93), (some (90, false)), .fieldAddr 26 (.tmp 15) 3⟩, ⟨(some 94), (some (90, false)), .load 23 (.tmp 93)⟩, ⟨(some 95), (some (90, false)), .call ⟨.value (.func 18), #[.tmp 92, .tmp 94], #[23, 23]⟩⟩, ⟨(some 96), (some (90, false)), .unOp .not 4 (.tmp 95)⟩, ⟨(some 97), none, .pick (.tmp 90) (.const (.bool true)) (.tmp 96)⟩, ⟨(some 98), none, .move (.tmp 97)⟩, ⟨(some 99), (some (98, false)), .fieldAddr 26 (.tmp 17) 0⟩, ⟨(some 100), (some (98, false)), .load 23 (.tmp 99)⟩, ⟨(some 101), (some (98, false)), .move (.tmp 16)⟩, ⟨(some 102), (some (98, false)), .move (.tmp 18)⟩, ⟨(some 103), (some (98, false)), .indexAddr 42 (.tmp 101) (.tmp 102)⟩, ⟨(some 104), (some (98, false)), .load 23 (.tmp 103)⟩, ⟨(some 105), (some (98, false)), .call ⟨.value (.func 18), #[.tmp 100, .tmp 104], #[23, 23]⟩⟩, ⟨(some 106), (some (98, false)), .unOp .not 4 (.tmp 105)⟩, ⟨(some 107), none, .pick (.tmp 98) (.const (.bool true)) (.tmp 106)⟩])) (.cond (.tmp 107) (.seq (.region [⟨(some 14), none, .assign (.const (.bool false))⟩]) (.ret)) (.skip))) (G_law10_SpaceTurns_13)))) (.seq .weak (.region [⟨(some 79), none, .move (.tmp 18)⟩, ⟨(some 80), none, .binOp .add 3 (.tmp 79) (.const (.int .i64 1)) 3⟩, ⟨(some 18), none, .assign (.tmp 80)⟩])))))))) (G_law10_SpaceTurns_29)
def G_law10_SpaceTurns : GCode := .seq (.region [⟨(some 14), none, .assign (.const (.bool false))⟩]) (.seq (.seq (.region [⟨(some 26), none, .call ⟨.value (.func 10), #[], #[]⟩⟩, ⟨(some 27), none, .unOp .not 4 (.tmp 26)⟩]) (.cond (.tmp 27) (.seq (.region [⟨(some 14), none, .assign (.const (.bool false))⟩]) (.ret)) (.skip))) (.seq (.seq (.region [⟨(some 28), none, .move (.tmp 0)⟩, ⟨(some 29), none, .call ⟨.builtin .len, #[.tmp 28], #[22]⟩⟩, ⟨(some 30), none, .binOp .gtr 3 (.tmp 29) (.const (.int .i64 20)) 3⟩, ⟨(some 31), none, .move (.tmp 30)⟩, ⟨(some 32), (some (31, false)), .move (.tmp 1)⟩, ⟨(some 33), (some (31, false)), .call ⟨.builtin .len, #[.tmp 32], #[22]⟩⟩, ⟨(some 34), (some (31, false)), .binOp .gtr 3 (.tmp 33) (.const (.int .i64 20)) 3⟩, ⟨(some 35), none, .pick (.tmp 31) (.const (.bool true)) (.tmp 34)⟩, ⟨(some 36), none, .move (.tmp 35)⟩, ⟨(some 37), (some (36, false)), .move (.tmp 2)⟩, ⟨(some 38), (some (36, false)), .call ⟨.builtin .len, #[.tmp 37], #[22]⟩⟩, ⟨(some 39), (some (36, false)), .binOp .gtr 3 (.tmp 38) (.const (.int .i64 20)) 3⟩, ⟨(some 40), none, .pick (.tmp 36) (.const (.bool true)) (.tmp 39)⟩, ⟨(some 41), none, .move (.tmp 40)⟩, ⟨(some 42), (some (41, false)), .move (.tmp 3)⟩, ⟨(some 43), (some (41, false)), .call ⟨.builtin .len, #[.tmp 42], #[22]⟩⟩, ⟨(some 44), (some (41, false)), .binOp .gtr 3 (.tmp 43) (.const (.int .i64 20)) 3⟩, ⟨(some 45), none, .pick (.tmp 41) (.const (.bool true)) (.tmp 44)⟩, ⟨(some 46), none, .move (.tmp 45)⟩, ⟨(some 47), (some (46, false)), .move (.tmp 4)⟩, ⟨(some 48), (some (46, false)), .call ⟨.builtin .len, #[.tmp 47], #[22]⟩⟩, ⟨(some 49), (some (46, false)), .binOp .gtr 3 (.tmp 48) (.const (.int .i64 20)) 3⟩, ⟨(some 50), none, .pick (.tmp 46) (.const (.bool true)) (.tmp 49)⟩, ⟨(some 51), none, .move (.tmp 50)⟩, ⟨(some 52), (some (51, false)), .move (.tmp 5)⟩, ⟨(some 53), (some (51, false)), .call ⟨.builtin .len, #[.tmp 52], #[22]⟩⟩, ⟨(some 54), (some (51, false)), .binOp .gtr 3 (.tmp 53) (.const (.int .i64 20)) 3⟩, ⟨(some 55), none, .pick (.tmp 51) (.const (.bool true)) (.tmp 54)⟩, ⟨(some 56), none, .move (.tmp 55)⟩, ⟨(some 57), (some (56, false)), .move (.tmp 6)⟩, ⟨(some 58), (some (56, false)), .call ⟨.builtin .len, #[.tmp 57], #[22]⟩⟩, ⟨(some 59), (some (56, false)), .binOp .gtr 3 (.tmp 58) (.const (.int .i64 20)) 3⟩, ⟨(some 60), none, .pick (.tmp 56) (.const (.bool true)) (.tmp 59)⟩]) (.cond (.tmp 60) (.seq (.region [⟨(some 14), none, .assign (.const (.bool true))⟩]) (.ret)) (.skip))) (.seq (.seq .weak (.region [⟨(some 61), none, .move (.tmp 0)⟩, ⟨(some 62), none, .move (.tmp 1)⟩, ⟨(some 63), none, .move (.tmp 2)⟩, ⟨(some 64), none, .move (.tmp 3)⟩, ⟨(some 65), none, .call ⟨.value (.func 11), #[.tmp 61, .tmp 62, .tmp 63, .tmp 64], #[22, 22, 22, 22]⟩⟩, ⟨(some 15), none, .alloc 26⟩, ⟨none, none, .store 26 (.tmp 15) (.tmp 65)⟩])) (.seq (.seq .weak (.seq .weak (.region [⟨(some 66), none, .move (.tmp 4)⟩, ⟨(some 67), none, .call ⟨.value (.func 12), #[.tmp 66], #[22]⟩⟩, ⟨(some 68), none, .call ⟨.value (.func 13), #[.tmp 67, .const (.int .i64 8)], #[28, 3]⟩⟩, ⟨(some 69), none, .move (.tmp 5)⟩, ⟨(some 70), none, .call ⟨.value (.func 12), #[.tmp 69], #[22]⟩⟩, ⟨(some 71), none, .call ⟨.value (.func 13), #[.tmp 70, .const (.int .i64 8)], #[28, 3]⟩⟩, ⟨(some 72), none, .move (.tmp 6)⟩, ⟨(some 73), none, .call ⟨.value (.func 12), #[.tmp 72], #[22]⟩⟩, ⟨(some 74), none, .call ⟨.value (.func 13), #[.tmp 73, .const (.int .i64 8)], #[28, 3]⟩⟩, ⟨(some 75), none, .buildSlice 42 3 #[(0, .tmp 68), (1, .tmp 71), (2, .tmp 74)]⟩, ⟨(some 16), none, .assign (.tmp 75)⟩]))) (.seq (.seq .weak (.region [⟨(some 76), none, .load 26 (.tmp 15)⟩, ⟨(some 17), none, .alloc 26⟩, ⟨none, none, .store 26 (.tmp 17) (.tmp 76)⟩])) (G_law10_SpaceTurns_8))))))
noncomputable def l_law10_SpaceTurns : List (Nat × Con) := [(10, c_law10_begun), (11, c_law10_made), (12, c_made_Made), (13, c_made_Picks_Runs), (22, c_space_Turn), (16, c_space_May), (18, c_ref8_Same), (19, c_space_Free), (27, c_ref8_Has), (15, c_space_Fold), (28, c_ref8_Both), (29, c_ref8_Count)]
noncomputable abbrev K_law10_SpaceTurns : Ctx := ctx (cl l_law10_SpaceTurns)
theorem geq_law10_SpaceTurns : gof K_law10_SpaceTurns Try.f5 = some G_law10_SpaceTurns.strip := by kernel_rfl
theorem sys_law10_SpaceTurns : Go.Eng.Sys Try.prog K_law10_SpaceTurns := sys_of' ⟨ok_law10_begun, ok_law10_made, ok_made_Made, ok_made_Picks_Runs, ok_space_Turn, ok_space_May, ok_ref8_Same, ok_space_Free, ok_ref8_Has, ok_space_Fold, ok_ref8_Both, ok_ref8_Count, trivial⟩
theorem hm_law10_SpaceTurns : ConMono K_law10_SpaceTurns := conMono_of sys_law10_SpaceTurns.con
noncomputable def k_law10_SpaceTurns_law10_begun := PLift.up (call_scal (C := K_law10_SpaceTurns) (f := 10) (A := A_law10_begun) (p := p_law10_begun) (r := r_law10_begun) rfl)
noncomputable def k_law10_SpaceTurns_law10_made := PLift.up (call_gen (C := K_law10_SpaceTurns) (f := 11) (modes := m_law10_made) (F := F_law10_made) rfl)
noncomputable def k_law10_SpaceTurns_made_Made := PLift.up (call_new (C := K_law10_SpaceTurns) (f := 12) (c := q_made_Made) (e := e_made_Made) (mk := mk_made_Made) rfl)
noncomputable def k_law10_SpaceTurns_made_Picks_Runs := PLift.up (call_gen (C := K_law10_SpaceTurns) (f := 13) (modes := m_made_Picks_Runs) (F := F_made_Picks_Runs) rfl)
noncomputable def k_law10_SpaceTurns_space_Turn := PLift.up (call_fn (C := K_law10_SpaceTurns) (f := 22) (A := A_space_Turn) (p := p_space_Turn) (r := r_space_Turn) rfl)
noncomputable def k_law10_SpaceTurns_space_May := PLift.up (call_scal (C := K_law10_SpaceTurns) (f := 16) (A := A_space_May) (p := p_space_May) (r := r_space_May) rfl)
noncomputable def k_law10_SpaceTurns_ref8_Same := PLift.up (call_scal (C := K_law10_SpaceTurns) (f := 18) (A := A_ref8_Same) (p := p_ref8_Same) (r := r_ref8_Same) rfl)
noncomputable def k_law10_SpaceTurns_space_Free := PLift.up (call_fn (C := K_law10_SpaceTurns) (f := 19) (A := A_space_Free) (p := p_space_Free) (r := r_space_Free) rfl)
noncomputable def k_law10_SpaceTurns_ref8_Has := PLift.up (call_scal (C := K_law10_SpaceTurns) (f := 27) (A := A_ref8_Has) (p := p_ref8_Has) (r := r_ref8_Has) rfl)
noncomputable def k_law10_SpaceTurns_space_Fold := PLift.up (call_fn (C := K_law10_SpaceTurns) (f := 15) (A := A_space_Fold) (p := p_space_Fold) (r := r_space_Fold) rfl)
noncomputable def k_law10_SpaceTurns_ref8_Both := PLift.up (call_fn (C := K_law10_SpaceTurns) (f := 28) (A := A_ref8_Both) (p := p_ref8_Both) (r := r_ref8_Both) rfl)
noncomputable def k_law10_SpaceTurns_ref8_Count := PLift.up (call_scal (C := K_law10_SpaceTurns) (f := 29) (A := A_ref8_Count) (p := p_ref8_Count) (r := r_ref8_Count) rfl)
set_option maxHeartbeats 4000000 in
theorem turns_29 {s : TSpace} (hS : Sp s) {σ : St} (hσ : Wk σ (mkS [(15, .imm (spC s))] .empty)) :
    avp K_law10_SpaceTurns G_law10_SpaceTurns_29 (Ret K_law10_SpaceTurns [.tmp 14] fun v _ => v = .t (.bool true)) σ := by
  unfold G_law10_SpaceTurns_29
  simp only [avp_seq]
  refine ⟨_, hσ, ?_⟩
  have hU := hS.fold
  have hSl := hS.len
  have n0 : (([] : List TRun).length : Int) = 0 := rfl
  have h0 : ([] : List TRun).length ≤ 1000 := by decide
  have kU : (foldM s).Kept = [] := rfl
  have hA : ∀ i, hasR s.Kept i = true → hasR (foldM s).Held i = true := fun i hi => by
    show hasR (whereL .add s.Held s.Kept) i = true
    rw [where_has, hi]
    show (_ || true) = true
    rw [Bool.or_true]
  simp only [vP.down, vS.down, vE.down, Nat.reduceEqDiff, Nat.reduceAdd, Nat.reduceSub, Nat.reduceMul, Nat.reduceLeDiff, Nat.reduceLT, Int.reduceToNat, reduceIte, reduceCtorEq, Int.reduceEq, Int.reduceLT, Int.reduceLE, ↓avp_condG, ↓tf_arrow, ↓ft_arrow, spC, hSl, k_law10_SpaceTurns_space_Fold.down, A_space_Fold, p_space_Fold, r_space_Fold]
  intro g hg
  obtain ⟨u, hu⟩ : ∃ u, u = foldM s := ⟨_, rfl⟩
  rw [← hu] at hU kU hA ⊢
  refine weak_at [(15, .imm (spC s)), (23, .ptr g 0)] (Store.empty.set g (some (.box ((spC u).map .t) false))) fewer_refl (by simp only [vP.down, vS.down, vE.down, Nat.reduceEqDiff, Nat.reduceAdd, Nat.reduceSub, Nat.reduceMul, Nat.reduceLeDiff, Nat.reduceLT, Int.reduceToNat, reduceIte, reduceCtorEq, Int.reduceEq, Int.reduceLT, Int.reduceLE, ↓avp_condG, ↓tf_arrow, ↓ft_arrow, wP.down, spC]) ?_
  simp only [vP.down, vS.down, vE.down, Nat.reduceEqDiff, Nat.reduceAdd, Nat.reduceSub, Nat.reduceMul, Nat.reduceLeDiff, Nat.reduceLT, Int.reduceToNat, reduceIte, reduceCtorEq, Int.reduceEq, Int.reduceLT, Int.reduceLE, ↓avp_condG, ↓tf_arrow, ↓ft_arrow]
  refine loop_weak hm_law10_SpaceTurns (fun m σ => ∃ i : Nat, m = 3 - i ∧ i ≤ 3 ∧ σ = mkS [(15, .imm (spC s)), (23, .ptr g 0), (24, .t (.int .i64 (i : Nat)))] (Store.empty.set g (some (.box ((spC (noneL u i)).map .t) false)))) ⟨0, rfl, by omega, rfl⟩ (wk_to fewer_refl (by simp only [vP.down, vS.down, vE.down, Nat.reduceEqDiff, Nat.reduceAdd, Nat.reduceSub, Nat.reduceMul, Nat.reduceLeDiff, Nat.reduceLT, Int.reduceToNat, reduceIte, reduceCtorEq, Int.reduceEq, Int.reduceLT, Int.reduceLE, ↓avp_condG, ↓tf_arrow, ↓ft_arrow, wP.down, Int.natCast_zero])) ?_
  rintro m _ ⟨i, rfl, hi, rfl⟩
  have hi1 : IntKind.i64.wrap ((i : Int) + 1) = ((i + 1 : Nat) : Int) := by rw [IntWalk.i64_in _ (by omega)]; rfl
  have hN := (noneL_sp hU i)
  have hNl := hN.len
  by_cases hlt : i < 3
  case neg =>
    obtain rfl : i = 3 := by omega
    have hge : ¬ ((3 : Int) < 3) := by omega
    simp only [vP.down, vS.down, vE.down, Nat.reduceEqDiff, Nat.reduceAdd, Nat.reduceSub, Nat.reduceMul, Nat.reduceLeDiff, Nat.reduceLT, Int.reduceToNat, reduceIte, reduceCtorEq, Int.reduceEq, Int.reduceLT, Int.reduceLE, ↓avp_condG, ↓tf_arrow, ↓ft_arrow, hge, show ((3 : Nat) : Int) = 3 from rfl]
    refine weak_at [(23, .ptr g 0)] (Store.empty.set g (some (.box ((spC (noneL u 3)).map .t) false))) fewer_refl (by simp only [vP.down, vS.down, vE.down, Nat.reduceEqDiff, Nat.reduceAdd, Nat.reduceSub, Nat.reduceMul, Nat.reduceLeDiff, Nat.reduceLT, Int.reduceToNat, reduceIte, reduceCtorEq, Int.reduceEq, Int.reduceLT, Int.reduceLE, ↓avp_condG, ↓tf_arrow, ↓ft_arrow, wP.down]) ?_
    have ec := none_cnt hU kU
    have hd3 : Wn 14 40 (freeM 40 (noneL u 3)) := hN.fwn (n := 40) rfl
    obtain ⟨c1, c2, _, _⟩ := card40 free_nf hd3
    have c1' : (freeM 40 (noneL u 3)).length ≤ 1048576 := by omega
    simp only [vP.down, vS.down, vE.down, Nat.reduceEqDiff, Nat.reduceAdd, Nat.reduceSub, Nat.reduceMul, Nat.reduceLeDiff, Nat.reduceLT, Int.reduceToNat, reduceIte, reduceCtorEq, Int.reduceEq, Int.reduceLT, Int.reduceLE, ↓avp_condG, ↓tf_arrow, ↓ft_arrow, spC, hNl, c1', c2, ec, Store.set_same, k_law10_SpaceTurns_space_Free.down, A_space_Free, p_space_Free, r_space_Free, k_law10_SpaceTurns_ref8_Count.down, A_ref8_Count, p_ref8_Count, r_ref8_Count]
    simp only [vP.down, vS.down, vE.down, Nat.reduceEqDiff, Nat.reduceAdd, Nat.reduceSub, Nat.reduceMul, Nat.reduceLeDiff, Nat.reduceLT, Int.reduceToNat, reduceIte, reduceCtorEq, Int.reduceEq, Int.reduceLT, Int.reduceLE, ↓avp_condG, ↓tf_arrow, ↓ft_arrow, vT.down]
  have hlt' : (i : Int) < 3 := by omega
  have eN : turnM (noneL u i) [] = noneL u (i + 1) := rfl
  have eb := none_both hU hA (j := i) hlt
  have ek : ((noneL u i).Kept.length : Int) = 0 := by rw [noneL_kept, kU]; rfl
  obtain ⟨f, hf⟩ : ∃ f, f = freeM 40 (noneL u i) := ⟨_, rfl⟩
  have hfl : f.length ≤ 1000000 := hf ▸ free_len hNl
  rw [← hf] at eb
  simp only [vP.down, vS.down, vE.down, Nat.reduceEqDiff, Nat.reduceAdd, Nat.reduceSub, Nat.reduceMul, Nat.reduceLeDiff, Nat.reduceLT, Int.reduceToNat, reduceIte, reduceCtorEq, Int.reduceEq, Int.reduceLT, Int.reduceLE, ↓avp_condG, ↓tf_arrow, ↓ft_arrow, spC, hlt', hNl, ← hf, Store.set_same, k_law10_SpaceTurns_space_Free.down, A_space_Free, p_space_Free, r_space_Free]
  refine weak_at [(15, .imm (spC s)), (23, .ptr g 0), (24, .t (.int .i64 (i : Nat))), (25, .t (sl f))] (Store.empty.set g (some (.box ((spC (noneL u i)).map .t) false))) fewer_refl (by simp only [vP.down, vS.down, vE.down, Nat.reduceEqDiff, Nat.reduceAdd, Nat.reduceSub, Nat.reduceMul, Nat.reduceLeDiff, Nat.reduceLT, Int.reduceToNat, reduceIte, reduceCtorEq, Int.reduceEq, Int.reduceLT, Int.reduceLE, ↓avp_condG, ↓tf_arrow, ↓ft_arrow, wP.down, spC]) ?_
  have p1 : f.length + s.Kept.length ≤ 1099511627 := by have := hSl.2.2.2; omega
  simp only [vP.down, vS.down, vE.down, Nat.reduceEqDiff, Nat.reduceAdd, Nat.reduceSub, Nat.reduceMul, Nat.reduceLeDiff, Nat.reduceLT, Int.reduceToNat, reduceIte, reduceCtorEq, Int.reduceEq, Int.reduceLT, Int.reduceLE, ↓avp_condG, ↓tf_arrow, ↓ft_arrow, spC, p1, eb, ek, n0, hNl, h0, eN, Store.set_same, set_set, gt_iff_lt, pick_of, pick_ot, false_implies, k_law10_SpaceTurns_ref8_Both.down, A_ref8_Both, p_ref8_Both, r_ref8_Both, k_law10_SpaceTurns_space_Turn.down, A_space_Turn, p_space_Turn, r_space_Turn]
  exact round_to (3 - (i + 1)) [(15, .imm (spC s)), (23, .ptr g 0), (24, .t (.int .i64 (i + 1 : Nat)))] (Store.empty.set g (some (.box ((spC (noneL u (i + 1))).map .t) false))) (by omega) fewer_refl (by simp only [vP.down, vS.down, vE.down, Nat.reduceEqDiff, Nat.reduceAdd, Nat.reduceSub, Nat.reduceMul, Nat.reduceLeDiff, Nat.reduceLT, Int.reduceToNat, reduceIte, reduceCtorEq, Int.reduceEq, Int.reduceLT, Int.reduceLE, ↓avp_condG, ↓tf_arrow, ↓ft_arrow, wP.down, hi1, spC]) ⟨i + 1, rfl, by omega, rfl⟩
set_option maxHeartbeats 4000000 in
theorem turns_13 {s : TSpace} (hS : Sp s) {L : List (List TRun)} (hL3 : L.length = 3) (hL : ∀ l ∈ L, Nf l ∧ Wn 14 40 l) {i : Nat} (hlt : i < 3) {t : TSpace} (ht : t = turnsL s L (i + 1)) {g : Nat} {Q : Exit → St → Prop} {σ : St}
    (hσ : Wk σ (mkS [(15, .imm (spC s)), (16, .t (sl L)), (17, .ptr g 0), (18, .t (.int .i64 (i : Nat)))] (Store.empty.set g (some (.box ((spC t).map .t) false))))) (hQ : ∀ σf, Wk σf (mkS [(15, .imm (spC s)), (16, .t (sl L)), (17, .ptr g 0), (18, .t (.int .i64 (i : Nat)))] (Store.empty.set g (some (.box ((spC t).map .t) false)))) → Q .normal σf) :
    avp K_law10_SpaceTurns G_law10_SpaceTurns_13 Q σ := by
  unfold G_law10_SpaceTurns_13
  simp only [avp_seq]
  refine ⟨_, hσ, ?_⟩
  have hT : Sp t := ht ▸ turnsL_sp hS hL (i + 1) (by omega)
  have hTl := hT.len
  have hfree := fun (a : Int) (h1 : 14 ≤ a) (h2 : a < 54) => turns_free hS hL (i := i) (by omega) h1 h2
  rw [← ht] at hfree
  obtain ⟨f, hf⟩ : ∃ f, f = freeM 40 t := ⟨_, rfl⟩
  have hfl : f.length ≤ 1000000 := hf ▸ free_len hTl
  rw [← hf] at hfree
  simp only [vP.down, vS.down, vE.down, Nat.reduceEqDiff, Nat.reduceAdd, Nat.reduceSub, Nat.reduceMul, Nat.reduceLeDiff, Nat.reduceLT, Int.reduceToNat, reduceIte, reduceCtorEq, Int.reduceEq, Int.reduceLT, Int.reduceLE, ↓avp_condG, ↓tf_arrow, ↓ft_arrow, spC, hTl, ← hf, Store.set_same, k_law10_SpaceTurns_space_Free.down, A_space_Free, p_space_Free, r_space_Free]
  refine weak_at [(15, .imm (spC s)), (16, .t (sl L)), (17, .ptr g 0), (18, .t (.int .i64 (i : Nat))), (19, .t (sl f))] (Store.empty.set g (some (.box ((spC t).map .t) false))) fewer_refl (by simp only [vP.down, vS.down, vE.down, Nat.reduceEqDiff, Nat.reduceAdd, Nat.reduceSub, Nat.reduceMul, Nat.reduceLeDiff, Nat.reduceLT, Int.reduceToNat, reduceIte, reduceCtorEq, Int.reduceEq, Int.reduceLT, Int.reduceLE, ↓avp_condG, ↓tf_arrow, ↓ft_arrow, wP.down, spC]) ?_
  obtain ⟨l1, l2, l3, l4⟩ := hS.len
  have q1 : s.Held.length < 4611686018427387904 := by omega
  have q2 : s.One.length < 4611686018427387904 := by omega
  have q4 : s.Kept.length < 4611686018427387904 := by omega
  have q5 : f.length < 4611686018427387904 := by omega
  simp only [vP.down, vS.down, vE.down, Nat.reduceEqDiff, Nat.reduceAdd, Nat.reduceSub, Nat.reduceMul, Nat.reduceLeDiff, Nat.reduceLT, Int.reduceToNat, reduceIte, reduceCtorEq, Int.reduceEq, Int.reduceLT, Int.reduceLE, ↓avp_condG, ↓tf_arrow, ↓ft_arrow]
  refine loop_weak hm_law10_SpaceTurns (fun m σ => ∃ a : Nat, m = 54 - a ∧ 14 ≤ a ∧ a ≤ 54 ∧ σ = mkS [(15, .imm (spC s)), (16, .t (sl L)), (17, .ptr g 0), (18, .t (.int .i64 (i : Nat))), (19, .t (sl f)), (20, .t (.int .i64 (a : Nat)))] (Store.empty.set g (some (.box ((spC t).map .t) false)))) ⟨14, rfl, by omega, by omega, rfl⟩ (wk_to fewer_refl (by simp only [vP.down, vS.down, vE.down, Nat.reduceEqDiff, Nat.reduceAdd, Nat.reduceSub, Nat.reduceMul, Nat.reduceLeDiff, Nat.reduceLT, Int.reduceToNat, reduceIte, reduceCtorEq, Int.reduceEq, Int.reduceLT, Int.reduceLE, ↓avp_condG, ↓tf_arrow, ↓ft_arrow, wP.down, show ((14 : Nat) : Int) = 14 from rfl])) ?_
  rintro m _ ⟨a, rfl, ha14, ha54, rfl⟩
  have ha1 : IntKind.i64.wrap ((a : Int) + 1) = ((a + 1 : Nat) : Int) := by rw [IntWalk.i64_in _ (by omega)]; rfl
  by_cases hla : a < 54
  case neg =>
    obtain rfl : a = 54 := by omega
    have hge : ¬ ((54 : Int) < 54) := by omega
    simp only [vP.down, vS.down, vE.down, Nat.reduceEqDiff, Nat.reduceAdd, Nat.reduceSub, Nat.reduceMul, Nat.reduceLeDiff, Nat.reduceLT, Int.reduceToNat, reduceIte, reduceCtorEq, Int.reduceEq, Int.reduceLT, Int.reduceLE, ↓avp_condG, ↓tf_arrow, ↓ft_arrow, hge, show ((54 : Nat) : Int) = 54 from rfl]
    exact hQ _ (wk_to fewer_refl (by simp only [vP.down, vS.down, vE.down, Nat.reduceEqDiff, Nat.reduceAdd, Nat.reduceSub, Nat.reduceMul, Nat.reduceLeDiff, Nat.reduceLT, Int.reduceToNat, reduceIte, reduceCtorEq, Int.reduceEq, Int.reduceLT, Int.reduceLE, ↓avp_condG, ↓tf_arrow, ↓ft_arrow, wP.down]))
  have hla' : (a : Int) < 54 := by omega
  simp only [vP.down, vS.down, vE.down, Nat.reduceEqDiff, Nat.reduceAdd, Nat.reduceSub, Nat.reduceMul, Nat.reduceLeDiff, Nat.reduceLT, Int.reduceToNat, reduceIte, reduceCtorEq, Int.reduceEq, Int.reduceLT, Int.reduceLE, ↓avp_condG, ↓tf_arrow, ↓ft_arrow, hla']
  refine weak_at [(15, .imm (spC s)), (16, .t (sl L)), (17, .ptr g 0), (18, .t (.int .i64 (i : Nat))), (19, .t (sl f)), (20, .t (.int .i64 (a : Nat)))] (Store.empty.set g (some (.box ((spC t).map .t) false))) fewer_refl (by simp only [vP.down, vS.down, vE.down, Nat.reduceEqDiff, Nat.reduceAdd, Nat.reduceSub, Nat.reduceMul, Nat.reduceLeDiff, Nat.reduceLT, Int.reduceToNat, reduceIte, reduceCtorEq, Int.reduceEq, Int.reduceLT, Int.reduceLE, ↓avp_condG, ↓tf_arrow, ↓ft_arrow, wP.down]) ?_
  simp only [vP.down, vS.down, vE.down, Nat.reduceEqDiff, Nat.reduceAdd, Nat.reduceSub, Nat.reduceMul, Nat.reduceLeDiff, Nat.reduceLT, Int.reduceToNat, reduceIte, reduceCtorEq, Int.reduceEq, Int.reduceLT, Int.reduceLE, ↓avp_condG, ↓tf_arrow, ↓ft_arrow, spC, q4, k_law10_SpaceTurns_ref8_Has.down, A_ref8_Has, p_ref8_Has, r_ref8_Has]
  refine weak_at [(15, .imm (spC s)), (16, .t (sl L)), (17, .ptr g 0), (18, .t (.int .i64 (i : Nat))), (19, .t (sl f)), (20, .t (.int .i64 (a : Nat))), (21, .t (.bool (ownK s L i a 0)))] (Store.empty.set g (some (.box ((spC t).map .t) false))) fewer_refl (by simp only [vP.down, vS.down, vE.down, Nat.reduceEqDiff, Nat.reduceAdd, Nat.reduceSub, Nat.reduceMul, Nat.reduceLeDiff, Nat.reduceLT, Int.reduceToNat, reduceIte, reduceCtorEq, Int.reduceEq, Int.reduceLT, Int.reduceLE, ↓avp_condG, ↓tf_arrow, ↓ft_arrow, wP.down, spC, ownK]) ?_
  have w0 : IntKind.i64.wrap ((i : Int) - 2) = (i : Int) - 2 + ((0 : Nat) : Int) := by rw [IntWalk.i64_in _ (by omega)]; simp
  simp only [vP.down, vS.down, vE.down, Nat.reduceEqDiff, Nat.reduceAdd, Nat.reduceSub, Nat.reduceMul, Nat.reduceLeDiff, Nat.reduceLT, Int.reduceToNat, reduceIte, reduceCtorEq, Int.reduceEq, Int.reduceLT, Int.reduceLE, ↓avp_condG, ↓tf_arrow, ↓ft_arrow, w0]
  refine loop_weak hm_law10_SpaceTurns (fun m σ => ∃ j : Nat, m = 3 - j ∧ j ≤ 3 ∧ σ = mkS [(15, .imm (spC s)), (16, .t (sl L)), (17, .ptr g 0), (18, .t (.int .i64 (i : Nat))), (19, .t (sl f)), (20, .t (.int .i64 (a : Nat))), (21, .t (.bool (ownK s L i a j))), (22, .t (.int .i64 ((i : Int) - 2 + (j : Nat))))] (Store.empty.set g (some (.box ((spC t).map .t) false)))) ⟨0, rfl, by omega, rfl⟩ (wk_to fewer_refl (by simp only [vP.down, vS.down, vE.down, Nat.reduceEqDiff, Nat.reduceAdd, Nat.reduceSub, Nat.reduceMul, Nat.reduceLeDiff, Nat.reduceLT, Int.reduceToNat, reduceIte, reduceCtorEq, Int.reduceEq, Int.reduceLT, Int.reduceLE, ↓avp_condG, ↓tf_arrow, ↓ft_arrow, wP.down])) ?_
  rintro m _ ⟨j, rfl, hj3, rfl⟩
  have hown : ownK s L i a (j + 1) = (ownK s L i a j || hasR (hist s L (i + j)) a) := rfl
  by_cases hlj : j < 3
  case neg =>
    obtain rfl : j = 3 := by omega
    have hge : ¬ ((i : Int) - 2 + 3 ≤ (i : Int)) := by omega
    simp only [vP.down, vS.down, vE.down, Nat.reduceEqDiff, Nat.reduceAdd, Nat.reduceSub, Nat.reduceMul, Nat.reduceLeDiff, Nat.reduceLT, Int.reduceToNat, reduceIte, reduceCtorEq, Int.reduceEq, Int.reduceLT, Int.reduceLE, ↓avp_condG, ↓tf_arrow, ↓ft_arrow, show ((3 : Nat) : Int) = 3 from rfl, hge]
    refine weak_at [(15, .imm (spC s)), (16, .t (sl L)), (17, .ptr g 0), (18, .t (.int .i64 (i : Nat))), (19, .t (sl f)), (20, .t (.int .i64 (a : Nat))), (21, .t (.bool (ownK s L i a 3)))] (Store.empty.set g (some (.box ((spC t).map .t) false))) fewer_refl (by simp only [vP.down, vS.down, vE.down, Nat.reduceEqDiff, Nat.reduceAdd, Nat.reduceSub, Nat.reduceMul, Nat.reduceLeDiff, Nat.reduceLT, Int.reduceToNat, reduceIte, reduceCtorEq, Int.reduceEq, Int.reduceLT, Int.reduceLE, ↓avp_condG, ↓tf_arrow, ↓ft_arrow, wP.down]) ?_
    have e := hfree (a : Int) (by omega) (by omega)
    obtain ⟨o, ho⟩ : ∃ o, o = ownK s L i a 3 := ⟨_, rfl⟩
    rw [← ho] at e ⊢
    cases o with
    | false =>
      simp only [vP.down, vS.down, vE.down, Nat.reduceEqDiff, Nat.reduceAdd, Nat.reduceSub, Nat.reduceMul, Nat.reduceLeDiff, Nat.reduceLT, Int.reduceToNat, reduceIte, reduceCtorEq, Int.reduceEq, Int.reduceLT, Int.reduceLE, ↓avp_condG, ↓tf_arrow, ↓ft_arrow, e, q5, Bool.not_false, k_law10_SpaceTurns_ref8_Has.down, A_ref8_Has, p_ref8_Has, r_ref8_Has]
      exact round_to (54 - (a + 1)) [(15, .imm (spC s)), (16, .t (sl L)), (17, .ptr g 0), (18, .t (.int .i64 (i : Nat))), (19, .t (sl f)), (20, .t (.int .i64 (a + 1 : Nat)))] (Store.empty.set g (some (.box ((spC t).map .t) false))) (by omega) fewer_refl (by simp only [vP.down, vS.down, vE.down, Nat.reduceEqDiff, Nat.reduceAdd, Nat.reduceSub, Nat.reduceMul, Nat.reduceLeDiff, Nat.reduceLT, Int.reduceToNat, reduceIte, reduceCtorEq, Int.reduceEq, Int.reduceLT, Int.reduceLE, ↓avp_condG, ↓tf_arrow, ↓ft_arrow, wP.down, ha1, spC]) ⟨a + 1, rfl, by omega, by omega, rfl⟩
    | true =>
      simp only [vP.down, vS.down, vE.down, Nat.reduceEqDiff, Nat.reduceAdd, Nat.reduceSub, Nat.reduceMul, Nat.reduceLeDiff, Nat.reduceLT, Int.reduceToNat, reduceIte, reduceCtorEq, Int.reduceEq, Int.reduceLT, Int.reduceLE, ↓avp_condG, ↓tf_arrow, ↓ft_arrow, e, q5, Bool.not_true, k_law10_SpaceTurns_ref8_Has.down, A_ref8_Has, p_ref8_Has, r_ref8_Has]
      exact round_to (54 - (a + 1)) [(15, .imm (spC s)), (16, .t (sl L)), (17, .ptr g 0), (18, .t (.int .i64 (i : Nat))), (19, .t (sl f)), (20, .t (.int .i64 (a + 1 : Nat)))] (Store.empty.set g (some (.box ((spC t).map .t) false))) (by omega) fewer_refl (by simp only [vP.down, vS.down, vE.down, Nat.reduceEqDiff, Nat.reduceAdd, Nat.reduceSub, Nat.reduceMul, Nat.reduceLeDiff, Nat.reduceLT, Int.reduceToNat, reduceIte, reduceCtorEq, Int.reduceEq, Int.reduceLT, Int.reduceLE, ↓avp_condG, ↓tf_arrow, ↓ft_arrow, wP.down, ha1, spC]) ⟨a + 1, rfl, by omega, by omega, rfl⟩
  have hle : (i : Int) - 2 + (j : Int) ≤ (i : Int) := by omega
  have hw1 : IntKind.i64.wrap ((i : Int) - 2 + (j : Int) + 1) = (i : Int) - 2 + ((j + 1 : Nat) : Int) := by rw [IntWalk.i64_in _ (by omega)]; omega
  by_cases h2 : 2 ≤ i + j
  · have c0 : 0 ≤ (i : Int) - 2 + (j : Int) := by omega
    have ek : (i : Int) - 2 + (j : Int) = ((i + j - 2 : Nat) : Int) := by omega
    have x0 := idx_at (C := K_law10_SpaceTurns) (l := L) (i := i + j - 2) ty_LLapi_Run ty_Lapi_Run rfl (by omega) .i64
    have hmem : L.getD (i + j - 2) default ∈ L := by
      rw [List.getD_eq_getElem?_getD, List.getElem?_eq_getElem (by omega)]; exact List.getElem_mem _
    have hql := nf_len (hL _ hmem).1 (hL _ hmem).2
    have q6 : (L.getD (i + j - 2) default).length < 4611686018427387904 := by omega
    rw [show hist s L (i + j) = L.getD (i + j - 2) default from by rw [hist, if_neg (by omega), if_neg (by omega)]] at hown
    obtain ⟨H, hH⟩ : ∃ H, H = L.getD (i + j - 2) default := ⟨_, rfl⟩
    rw [← hH] at x0 q6 hown
    have x0' : idxB K_law10_SpaceTurns 42 (.t (sl L)) (.t (.int .i64 ((i : Int) - 2 + (j : Int)))) = .val True (.imm (Cell.enc H)) := by rw [ek]; exact x0
    simp only [vP.down, vS.down, vE.down, Nat.reduceEqDiff, Nat.reduceAdd, Nat.reduceSub, Nat.reduceMul, Nat.reduceLeDiff, Nat.reduceLT, Int.reduceToNat, reduceIte, reduceCtorEq, Int.reduceEq, Int.reduceLT, Int.reduceLE, ↓avp_condG, ↓tf_arrow, ↓ft_arrow, hle]
    refine weak_at [(15, .imm (spC s)), (16, .t (sl L)), (17, .ptr g 0), (18, .t (.int .i64 (i : Nat))), (19, .t (sl f)), (20, .t (.int .i64 (a : Nat))), (21, .t (.bool (ownK s L i a j))), (22, .t (.int .i64 ((i : Int) - 2 + (j : Nat))))] (Store.empty.set g (some (.box ((spC t).map .t) false))) fewer_refl (by simp only [vP.down, vS.down, vE.down, Nat.reduceEqDiff, Nat.reduceAdd, Nat.reduceSub, Nat.reduceMul, Nat.reduceLeDiff, Nat.reduceLT, Int.reduceToNat, reduceIte, reduceCtorEq, Int.reduceEq, Int.reduceLT, Int.reduceLE, ↓avp_condG, ↓tf_arrow, ↓ft_arrow, wP.down]) ?_
    simp only [vP.down, vS.down, vE.down, Nat.reduceEqDiff, Nat.reduceAdd, Nat.reduceSub, Nat.reduceMul, Nat.reduceLeDiff, Nat.reduceLT, Int.reduceToNat, reduceIte, reduceCtorEq, Int.reduceEq, Int.reduceLT, Int.reduceLE, ↓avp_condG, ↓tf_arrow, ↓ft_arrow, c0, ge_iff_le]
    refine weak_at [(15, .imm (spC s)), (16, .t (sl L)), (17, .ptr g 0), (18, .t (.int .i64 (i : Nat))), (19, .t (sl f)), (20, .t (.int .i64 (a : Nat))), (21, .t (.bool (ownK s L i a j))), (22, .t (.int .i64 ((i : Int) - 2 + (j : Nat))))] (Store.empty.set g (some (.box ((spC t).map .t) false))) fewer_refl (by simp only [vP.down, vS.down, vE.down, Nat.reduceEqDiff, Nat.reduceAdd, Nat.reduceSub, Nat.reduceMul, Nat.reduceLeDiff, Nat.reduceLT, Int.reduceToNat, reduceIte, reduceCtorEq, Int.reduceEq, Int.reduceLT, Int.reduceLE, ↓avp_condG, ↓tf_arrow, ↓ft_arrow, wP.down]) ?_
    simp only [vP.down, vS.down, vE.down, Nat.reduceEqDiff, Nat.reduceAdd, Nat.reduceSub, Nat.reduceMul, Nat.reduceLeDiff, Nat.reduceLT, Int.reduceToNat, reduceIte, reduceCtorEq, Int.reduceEq, Int.reduceLT, Int.reduceLE, ↓avp_condG, ↓tf_arrow, ↓ft_arrow, x0', q6, pick_of, pick_ot, k_law10_SpaceTurns_ref8_Has.down, A_ref8_Has, p_ref8_Has, r_ref8_Has]
    exact round_to (3 - (j + 1)) [(15, .imm (spC s)), (16, .t (sl L)), (17, .ptr g 0), (18, .t (.int .i64 (i : Nat))), (19, .t (sl f)), (20, .t (.int .i64 (a : Nat))), (21, .t (.bool (ownK s L i a (j + 1)))), (22, .t (.int .i64 ((i : Int) - 2 + ((j + 1 : Nat) : Int))))] (Store.empty.set g (some (.box ((spC t).map .t) false))) (by omega) fewer_refl (by simp only [vP.down, vS.down, vE.down, Nat.reduceEqDiff, Nat.reduceAdd, Nat.reduceSub, Nat.reduceMul, Nat.reduceLeDiff, Nat.reduceLT, Int.reduceToNat, reduceIte, reduceCtorEq, Int.reduceEq, Int.reduceLT, Int.reduceLE, ↓avp_condG, ↓tf_arrow, ↓ft_arrow, wP.down, hw1, spC, hown]) ⟨j + 1, rfl, by omega, rfl⟩
  by_cases h1 : i + j = 1
  · have c0 : ¬ 0 ≤ (i : Int) - 2 + (j : Int) := by omega
    have c1 : (i : Int) - 2 + (j : Int) = -1 := by omega
    rw [show hist s L (i + j) = s.Held from by rw [hist, if_neg (by omega), if_pos h1]] at hown
    simp only [vP.down, vS.down, vE.down, Nat.reduceEqDiff, Nat.reduceAdd, Nat.reduceSub, Nat.reduceMul, Nat.reduceLeDiff, Nat.reduceLT, Int.reduceToNat, reduceIte, reduceCtorEq, Int.reduceEq, Int.reduceLT, Int.reduceLE, ↓avp_condG, ↓tf_arrow, ↓ft_arrow, hle]
    refine weak_at [(15, .imm (spC s)), (16, .t (sl L)), (17, .ptr g 0), (18, .t (.int .i64 (i : Nat))), (19, .t (sl f)), (20, .t (.int .i64 (a : Nat))), (21, .t (.bool (ownK s L i a j))), (22, .t (.int .i64 ((i : Int) - 2 + (j : Nat))))] (Store.empty.set g (some (.box ((spC t).map .t) false))) fewer_refl (by simp only [vP.down, vS.down, vE.down, Nat.reduceEqDiff, Nat.reduceAdd, Nat.reduceSub, Nat.reduceMul, Nat.reduceLeDiff, Nat.reduceLT, Int.reduceToNat, reduceIte, reduceCtorEq, Int.reduceEq, Int.reduceLT, Int.reduceLE, ↓avp_condG, ↓tf_arrow, ↓ft_arrow, wP.down]) ?_
    have d1 : ((i : Int) - 2 + (j : Int) = -1) = True := eq_true c1
    simp only [vP.down, vS.down, vE.down, Nat.reduceEqDiff, Nat.reduceAdd, Nat.reduceSub, Nat.reduceMul, Nat.reduceLeDiff, Nat.reduceLT, Int.reduceToNat, reduceIte, reduceCtorEq, Int.reduceEq, Int.reduceLT, Int.reduceLE, ↓avp_condG, ↓tf_arrow, ↓ft_arrow, c0, d1, ge_iff_le, not_true_eq_false, true_implies, false_implies]
    refine weak_at [(15, .imm (spC s)), (16, .t (sl L)), (17, .ptr g 0), (18, .t (.int .i64 (i : Nat))), (19, .t (sl f)), (20, .t (.int .i64 (a : Nat))), (21, .t (.bool (ownK s L i a j))), (22, .t (.int .i64 ((i : Int) - 2 + (j : Nat))))] (Store.empty.set g (some (.box ((spC t).map .t) false))) fewer_refl (by simp only [vP.down, vS.down, vE.down, Nat.reduceEqDiff, Nat.reduceAdd, Nat.reduceSub, Nat.reduceMul, Nat.reduceLeDiff, Nat.reduceLT, Int.reduceToNat, reduceIte, reduceCtorEq, Int.reduceEq, Int.reduceLT, Int.reduceLE, ↓avp_condG, ↓tf_arrow, ↓ft_arrow, wP.down]) ?_
    simp only [vP.down, vS.down, vE.down, Nat.reduceEqDiff, Nat.reduceAdd, Nat.reduceSub, Nat.reduceMul, Nat.reduceLeDiff, Nat.reduceLT, Int.reduceToNat, reduceIte, reduceCtorEq, Int.reduceEq, Int.reduceLT, Int.reduceLE, ↓avp_condG, ↓tf_arrow, ↓ft_arrow, spC, q1, pick_of, pick_ot, k_law10_SpaceTurns_ref8_Has.down, A_ref8_Has, p_ref8_Has, r_ref8_Has]
    exact round_to (3 - (j + 1)) [(15, .imm (spC s)), (16, .t (sl L)), (17, .ptr g 0), (18, .t (.int .i64 (i : Nat))), (19, .t (sl f)), (20, .t (.int .i64 (a : Nat))), (21, .t (.bool (ownK s L i a (j + 1)))), (22, .t (.int .i64 ((i : Int) - 2 + ((j + 1 : Nat) : Int))))] (Store.empty.set g (some (.box ((spC t).map .t) false))) (by omega) fewer_refl (by simp only [vP.down, vS.down, vE.down, Nat.reduceEqDiff, Nat.reduceAdd, Nat.reduceSub, Nat.reduceMul, Nat.reduceLeDiff, Nat.reduceLT, Int.reduceToNat, reduceIte, reduceCtorEq, Int.reduceEq, Int.reduceLT, Int.reduceLE, ↓avp_condG, ↓tf_arrow, ↓ft_arrow, wP.down, hw1, spC, hown]) ⟨j + 1, rfl, by omega, rfl⟩
  have c0 : ¬ 0 ≤ (i : Int) - 2 + (j : Int) := by omega
  have d1 : ((i : Int) - 2 + (j : Int) = -1) = False := eq_false (by omega)
  rw [show hist s L (i + j) = s.One from by rw [hist, if_pos (by omega)]] at hown
  simp only [vP.down, vS.down, vE.down, Nat.reduceEqDiff, Nat.reduceAdd, Nat.reduceSub, Nat.reduceMul, Nat.reduceLeDiff, Nat.reduceLT, Int.reduceToNat, reduceIte, reduceCtorEq, Int.reduceEq, Int.reduceLT, Int.reduceLE, ↓avp_condG, ↓tf_arrow, ↓ft_arrow, hle]
  refine weak_at [(15, .imm (spC s)), (16, .t (sl L)), (17, .ptr g 0), (18, .t (.int .i64 (i : Nat))), (19, .t (sl f)), (20, .t (.int .i64 (a : Nat))), (21, .t (.bool (ownK s L i a j))), (22, .t (.int .i64 ((i : Int) - 2 + (j : Nat))))] (Store.empty.set g (some (.box ((spC t).map .t) false))) fewer_refl (by simp only [vP.down, vS.down, vE.down, Nat.reduceEqDiff, Nat.reduceAdd, Nat.reduceSub, Nat.reduceMul, Nat.reduceLeDiff, Nat.reduceLT, Int.reduceToNat, reduceIte, reduceCtorEq, Int.reduceEq, Int.reduceLT, Int.reduceLE, ↓avp_condG, ↓tf_arrow, ↓ft_arrow, wP.down]) ?_
  simp only [vP.down, vS.down, vE.down, Nat.reduceEqDiff, Nat.reduceAdd, Nat.reduceSub, Nat.reduceMul, Nat.reduceLeDiff, Nat.reduceLT, Int.reduceToNat, reduceIte, reduceCtorEq, Int.reduceEq, Int.reduceLT, Int.reduceLE, ↓avp_condG, ↓tf_arrow, ↓ft_arrow, c0, d1, ge_iff_le, not_false_eq_true, true_implies, false_implies]
  refine weak_at [(15, .imm (spC s)), (16, .t (sl L)), (17, .ptr g 0), (18, .t (.int .i64 (i : Nat))), (19, .t (sl f)), (20, .t (.int .i64 (a : Nat))), (21, .t (.bool (ownK s L i a j))), (22, .t (.int .i64 ((i : Int) - 2 + (j : Nat))))] (Store.empty.set g (some (.box ((spC t).map .t) false))) fewer_refl (by simp only [vP.down, vS.down, vE.down, Nat.reduceEqDiff, Nat.reduceAdd, Nat.reduceSub, Nat.reduceMul, Nat.reduceLeDiff, Nat.reduceLT, Int.reduceToNat, reduceIte, reduceCtorEq, Int.reduceEq, Int.reduceLT, Int.reduceLE, ↓avp_condG, ↓tf_arrow, ↓ft_arrow, wP.down]) ?_
  simp only [vP.down, vS.down, vE.down, Nat.reduceEqDiff, Nat.reduceAdd, Nat.reduceSub, Nat.reduceMul, Nat.reduceLeDiff, Nat.reduceLT, Int.reduceToNat, reduceIte, reduceCtorEq, Int.reduceEq, Int.reduceLT, Int.reduceLE, ↓avp_condG, ↓tf_arrow, ↓ft_arrow, spC, q2, pick_of, pick_ot, k_law10_SpaceTurns_ref8_Has.down, A_ref8_Has, p_ref8_Has, r_ref8_Has]
  exact round_to (3 - (j + 1)) [(15, .imm (spC s)), (16, .t (sl L)), (17, .ptr g 0), (18, .t (.int .i64 (i : Nat))), (19, .t (sl f)), (20, .t (.int .i64 (a : Nat))), (21, .t (.bool (ownK s L i a (j + 1)))), (22, .t (.int .i64 ((i : Int) - 2 + ((j + 1 : Nat) : Int))))] (Store.empty.set g (some (.box ((spC t).map .t) false))) (by omega) fewer_refl (by simp only [vP.down, vS.down, vE.down, Nat.reduceEqDiff, Nat.reduceAdd, Nat.reduceSub, Nat.reduceMul, Nat.reduceLeDiff, Nat.reduceLT, Int.reduceToNat, reduceIte, reduceCtorEq, Int.reduceEq, Int.reduceLT, Int.reduceLE, ↓avp_condG, ↓tf_arrow, ↓ft_arrow, wP.down, hw1, spC, hown]) ⟨j + 1, rfl, by omega, rfl⟩
set_option maxHeartbeats 4000000 in
theorem turns_8 {s : TSpace} (hS : Sp s) {L : List (List TRun)} (hL3 : L.length = 3) (hL : ∀ l ∈ L, Nf l ∧ Wn 14 40 l) {g : Nat} {σ : St} (hσ : Wk σ (mkS [(15, .imm (spC s)), (16, .t (sl L)), (17, .ptr g 0)] (Store.empty.set g (some (.box ((spC s).map .t) false))))) :
    avp K_law10_SpaceTurns G_law10_SpaceTurns_8 (Ret K_law10_SpaceTurns [.tmp 14] fun v _ => v = .t (.bool true)) σ := by
  unfold G_law10_SpaceTurns_8
  simp only [avp_seq]
  refine ⟨_, hσ, ?_⟩
  have hSl := hS.len
  simp only [vP.down, vS.down, vE.down, Nat.reduceEqDiff, Nat.reduceAdd, Nat.reduceSub, Nat.reduceMul, Nat.reduceLeDiff, Nat.reduceLT, Int.reduceToNat, reduceIte, reduceCtorEq, Int.reduceEq, Int.reduceLT, Int.reduceLE, ↓avp_condG, ↓tf_arrow, ↓ft_arrow]
  refine loop_weak hm_law10_SpaceTurns (fun m σ => ∃ i : Nat, m = 3 - i ∧ i ≤ 3 ∧ σ = mkS [(15, .imm (spC s)), (16, .t (sl L)), (17, .ptr g 0), (18, .t (.int .i64 (i : Nat)))] (Store.empty.set g (some (.box ((spC (turnsL s L i)).map .t) false)))) ⟨0, rfl, by omega, rfl⟩ (wk_to fewer_refl (by simp only [vP.down, vS.down, vE.down, Nat.reduceEqDiff, Nat.reduceAdd, Nat.reduceSub, Nat.reduceMul, Nat.reduceLeDiff, Nat.reduceLT, Int.reduceToNat, reduceIte, reduceCtorEq, Int.reduceEq, Int.reduceLT, Int.reduceLE, ↓avp_condG, ↓tf_arrow, ↓ft_arrow, wP.down, Int.natCast_zero])) ?_
  rintro m _ ⟨i, rfl, hi, rfl⟩
  have hi1 : IntKind.i64.wrap ((i : Int) + 1) = ((i + 1 : Nat) : Int) := by rw [IntWalk.i64_in _ (by omega)]; rfl
  have hN := turnsL_sp hS hL i (by omega)
  have hNl := hN.len
  by_cases hlt : i < 3
  case neg =>
    obtain rfl : i = 3 := by omega
    have hge : ¬ ((3 : Int) < 3) := by omega
    simp only [vP.down, vS.down, vE.down, Nat.reduceEqDiff, Nat.reduceAdd, Nat.reduceSub, Nat.reduceMul, Nat.reduceLeDiff, Nat.reduceLT, Int.reduceToNat, reduceIte, reduceCtorEq, Int.reduceEq, Int.reduceLT, Int.reduceLE, ↓avp_condG, ↓tf_arrow, ↓ft_arrow, hge, show ((3 : Nat) : Int) = 3 from rfl]
    exact turns_29 hS (wk_to fewer_empty (by simp only [vP.down, vS.down, vE.down, Nat.reduceEqDiff, Nat.reduceAdd, Nat.reduceSub, Nat.reduceMul, Nat.reduceLeDiff, Nat.reduceLT, Int.reduceToNat, reduceIte, reduceCtorEq, Int.reduceEq, Int.reduceLT, Int.reduceLE, ↓avp_condG, ↓tf_arrow, ↓ft_arrow, wP.down]))
  have hlt' : (i : Int) < 3 := by omega
  have x0 := idx_at (C := K_law10_SpaceTurns) (l := L) (i := i) ty_LLapi_Run ty_Lapi_Run rfl (by omega) .i64
  have hmem : L.getD i default ∈ L := by
    rw [List.getD_eq_getElem?_getD, List.getElem?_eq_getElem (by omega)]; exact List.getElem_mem _
  have hq := hL _ hmem
  have hql := nf_len hq.1 hq.2
  have eN : turnM (turnsL s L i) (L.getD i default) = turnsL s L (i + 1) := rfl
  have hN2 := turnsL_sp hS hL (i + 1) (by omega)
  have hN2l := hN2.len
  have ek : (turnsL s L (i + 1)).Kept = s.Kept := turnsL_kept (i + 1)
  have eh : (turnsL s L (i + 1)).Held = L.getD i default := rfl
  have hok : okSp 40 (turnsL s L (i + 1)) = true := hN2.ok (n := 40) rfl
  obtain ⟨q, hq'⟩ : ∃ q, q = L.getD i default := ⟨_, rfl⟩
  obtain ⟨t, ht⟩ : ∃ t, t = turnsL s L i := ⟨_, rfl⟩
  obtain ⟨t', ht'⟩ : ∃ t, t = turnsL s L (i + 1) := ⟨_, rfl⟩
  rw [← hq'] at x0 hql eN eh
  rw [← ht] at hNl eN ⊢
  rw [← ht'] at eN hN2l ek eh hok
  have pq : q.length ≤ 1000 := by omega
  simp only [vP.down, vS.down, vE.down, Nat.reduceEqDiff, Nat.reduceAdd, Nat.reduceSub, Nat.reduceMul, Nat.reduceLeDiff, Nat.reduceLT, Int.reduceToNat, reduceIte, reduceCtorEq, Int.reduceEq, Int.reduceLT, Int.reduceLE, ↓avp_condG, ↓tf_arrow, ↓ft_arrow, spC, hlt', hNl, pq, x0, eN, Store.set_same, set_set, k_law10_SpaceTurns_space_Turn.down, A_space_Turn, p_space_Turn, r_space_Turn]
  refine weak_at [(15, .imm (spC s)), (16, .t (sl L)), (17, .ptr g 0), (18, .t (.int .i64 (i : Nat)))] (Store.empty.set g (some (.box ((spC t').map .t) false))) fewer_refl (by simp only [vP.down, vS.down, vE.down, Nat.reduceEqDiff, Nat.reduceAdd, Nat.reduceSub, Nat.reduceMul, Nat.reduceLeDiff, Nat.reduceLT, Int.reduceToNat, reduceIte, reduceCtorEq, Int.reduceEq, Int.reduceLT, Int.reduceLE, ↓avp_condG, ↓tf_arrow, ↓ft_arrow, wP.down, spC]) ?_
  have p2 : t'.Kept.length < 4611686018427387904 := by have := hN2l.2.2.2; omega
  have p3 : t'.Held.length < 4611686018427387904 := by have := hN2l.1; omega
  have e5 : decide (t'.Kept = s.Kept) = true := decide_eq_true ek
  have e6 : decide (t'.Held = q) = true := decide_eq_true eh
  simp only [vP.down, vS.down, vE.down, Nat.reduceEqDiff, Nat.reduceAdd, Nat.reduceSub, Nat.reduceMul, Nat.reduceLeDiff, Nat.reduceLT, Int.reduceToNat, reduceIte, reduceCtorEq, Int.reduceEq, Int.reduceLT, Int.reduceLE, ↓avp_condG, ↓tf_arrow, ↓ft_arrow, spC, hN2l, hok, p2, p3, e5, e6, x0, Store.set_same, pick_of, pick_ot, false_implies, k_law10_SpaceTurns_space_May.down, A_space_May, p_space_May, r_space_May, k_law10_SpaceTurns_ref8_Same.down, A_ref8_Same, p_ref8_Same, r_ref8_Same]
  refine turns_13 hS hL3 hL hlt ht' (wk_to fewer_refl (by simp only [vP.down, vS.down, vE.down, Nat.reduceEqDiff, Nat.reduceAdd, Nat.reduceSub, Nat.reduceMul, Nat.reduceLeDiff, Nat.reduceLT, Int.reduceToNat, reduceIte, reduceCtorEq, Int.reduceEq, Int.reduceLT, Int.reduceLE, ↓avp_condG, ↓tf_arrow, ↓ft_arrow, wP.down, spC])) fun σf hσf => ?_
  simp only [vP.down, vS.down, vE.down, Nat.reduceEqDiff, Nat.reduceAdd, Nat.reduceSub, Nat.reduceMul, Nat.reduceLeDiff, Nat.reduceLT, Int.reduceToNat, reduceIte, reduceCtorEq, Int.reduceEq, Int.reduceLT, Int.reduceLE, ↓avp_condG, ↓tf_arrow, ↓ft_arrow]
  refine ⟨_, hσf, ?_⟩
  simp only [vP.down, vS.down, vE.down, Nat.reduceEqDiff, Nat.reduceAdd, Nat.reduceSub, Nat.reduceMul, Nat.reduceLeDiff, Nat.reduceLT, Int.reduceToNat, reduceIte, reduceCtorEq, Int.reduceEq, Int.reduceLT, Int.reduceLE, ↓avp_condG, ↓tf_arrow, ↓ft_arrow]
  exact round_to (3 - (i + 1)) [(15, .imm (spC s)), (16, .t (sl L)), (17, .ptr g 0), (18, .t (.int .i64 (i + 1 : Nat)))] (Store.empty.set g (some (.box ((spC t').map .t) false))) (by omega) fewer_refl (by simp only [vP.down, vS.down, vE.down, Nat.reduceEqDiff, Nat.reduceAdd, Nat.reduceSub, Nat.reduceMul, Nat.reduceLeDiff, Nat.reduceLT, Int.reduceToNat, reduceIte, reduceCtorEq, Int.reduceEq, Int.reduceLT, Int.reduceLE, ↓avp_condG, ↓tf_arrow, ↓ft_arrow, wP.down, hi1, spC]) ⟨i + 1, rfl, by omega, by rw [ht']; rfl⟩
noncomputable def A_law10_SpaceTurns : Arms ((List Byt) × (List Byt) × (List Byt) × (List Byt) × (List Byt) × (List Byt) × (List Byt) × Unit) := Arms.cons (argT (List Byt)) (Arms.cons (argT (List Byt)) (Arms.cons (argT (List Byt)) (Arms.cons (argT (List Byt)) (Arms.cons (argT (List Byt)) (Arms.cons (argT (List Byt)) (Arms.cons (argT (List Byt)) (Arms.nil)))))))
def p_law10_SpaceTurns (x : (List Byt) × (List Byt) × (List Byt) × (List Byt) × (List Byt) × (List Byt) × (List Byt) × Unit) : Prop := (goodList (fun x : Byt => goodAny x) x.1) ∧ (goodList (fun x : Byt => goodAny x) x.2.1) ∧ (goodList (fun x : Byt => goodAny x) x.2.2.1) ∧ (goodList (fun x : Byt => goodAny x) x.2.2.2.1) ∧ (goodList (fun x : Byt => goodAny x) x.2.2.2.2.1) ∧ (goodList (fun x : Byt => goodAny x) x.2.2.2.2.2.1) ∧ (goodList (fun x : Byt => goodAny x) x.2.2.2.2.2.2.1) ∧ goodAny (x.2.2.2.2.2.2.2)
abbrev r_law10_SpaceTurns (x : (List Byt) × (List Byt) × (List Byt) × (List Byt) × (List Byt) × (List Byt) × (List Byt) × Unit) : AV := rTrue x
theorem rd_law10_SpaceTurns : ReadsA Try.prog [22, 22, 22, 22, 22, 22, 22] A_law10_SpaceTurns p_law10_SpaceTurns := (readsA_T (reads_list Try.underlying22 (reads_u8 Try.underlying5) (by kernel_rfl) (by decide)) (by kernel_rfl) (readsA_T (reads_list Try.underlying22 (reads_u8 Try.underlying5) (by kernel_rfl) (by decide)) (by kernel_rfl) (readsA_T (reads_list Try.underlying22 (reads_u8 Try.underlying5) (by kernel_rfl) (by decide)) (by kernel_rfl) (readsA_T (reads_list Try.underlying22 (reads_u8 Try.underlying5) (by kernel_rfl) (by decide)) (by kernel_rfl) (readsA_T (reads_list Try.underlying22 (reads_u8 Try.underlying5) (by kernel_rfl) (by decide)) (by kernel_rfl) (readsA_T (reads_list Try.underlying22 (reads_u8 Try.underlying5) (by kernel_rfl) (by decide)) (by kernel_rfl) (readsA_T (reads_list Try.underlying22 (reads_u8 Try.underlying5) (by kernel_rfl) (by decide)) (by kernel_rfl) readsA_nil)))))))
set_option maxHeartbeats 4000000 in
theorem body_law10_SpaceTurns (x) (hx : p_law10_SpaceTurns x) : avp K_law10_SpaceTurns G_law10_SpaceTurns (Ret K_law10_SpaceTurns [.tmp 14] fun v _ => v = r_law10_SpaceTurns x) (entry (A_law10_SpaceTurns.enc x) .empty) := by
  obtain ⟨a, b, c, d, e1, e2, e3, ⟨⟩⟩ := x
  change avp _ _ (Ret _ _ fun v _ => v = .t (.bool true)) (entry [.t (sl a), .t (sl b), .t (sl c), .t (sl d), .t (sl e1), .t (sl e2), .t (sl e3)] .empty)
  unfold G_law10_SpaceTurns
  by_cases c1 : (20 : Int) < (a.length : Int)
  · simp only [vP.down, vS.down, vE.down, Nat.reduceEqDiff, Nat.reduceAdd, Nat.reduceSub, Nat.reduceMul, Nat.reduceLeDiff, Nat.reduceLT, Int.reduceToNat, reduceIte, reduceCtorEq, Int.reduceEq, Int.reduceLT, Int.reduceLE, ↓avp_condG, ↓tf_arrow, ↓ft_arrow, k_law10_SpaceTurns_law10_begun.down, A_law10_begun, p_law10_begun, r_law10_begun, c1, gt_iff_lt, pick_of, pick_ot]
    simp only [vP.down, vS.down, vE.down, Nat.reduceEqDiff, Nat.reduceAdd, Nat.reduceSub, Nat.reduceMul, Nat.reduceLeDiff, Nat.reduceLT, Int.reduceToNat, reduceIte, reduceCtorEq, Int.reduceEq, Int.reduceLT, Int.reduceLE, ↓avp_condG, ↓tf_arrow, ↓ft_arrow, vT.down]
  by_cases c2 : (20 : Int) < (b.length : Int)
  · simp only [vP.down, vS.down, vE.down, Nat.reduceEqDiff, Nat.reduceAdd, Nat.reduceSub, Nat.reduceMul, Nat.reduceLeDiff, Nat.reduceLT, Int.reduceToNat, reduceIte, reduceCtorEq, Int.reduceEq, Int.reduceLT, Int.reduceLE, ↓avp_condG, ↓tf_arrow, ↓ft_arrow, k_law10_SpaceTurns_law10_begun.down, A_law10_begun, p_law10_begun, r_law10_begun, c1, c2, gt_iff_lt, pick_of, pick_ot]
    simp only [vP.down, vS.down, vE.down, Nat.reduceEqDiff, Nat.reduceAdd, Nat.reduceSub, Nat.reduceMul, Nat.reduceLeDiff, Nat.reduceLT, Int.reduceToNat, reduceIte, reduceCtorEq, Int.reduceEq, Int.reduceLT, Int.reduceLE, ↓avp_condG, ↓tf_arrow, ↓ft_arrow, vT.down]
  by_cases c3 : (20 : Int) < (c.length : Int)
  · simp only [vP.down, vS.down, vE.down, Nat.reduceEqDiff, Nat.reduceAdd, Nat.reduceSub, Nat.reduceMul, Nat.reduceLeDiff, Nat.reduceLT, Int.reduceToNat, reduceIte, reduceCtorEq, Int.reduceEq, Int.reduceLT, Int.reduceLE, ↓avp_condG, ↓tf_arrow, ↓ft_arrow, k_law10_SpaceTurns_law10_begun.down, A_law10_begun, p_law10_begun, r_law10_begun, c1, c2, c3, gt_iff_lt, pick_of, pick_ot]
    simp only [vP.down, vS.down, vE.down, Nat.reduceEqDiff, Nat.reduceAdd, Nat.reduceSub, Nat.reduceMul, Nat.reduceLeDiff, Nat.reduceLT, Int.reduceToNat, reduceIte, reduceCtorEq, Int.reduceEq, Int.reduceLT, Int.reduceLE, ↓avp_condG, ↓tf_arrow, ↓ft_arrow, vT.down]
  by_cases c4 : (20 : Int) < (d.length : Int)
  · simp only [vP.down, vS.down, vE.down, Nat.reduceEqDiff, Nat.reduceAdd, Nat.reduceSub, Nat.reduceMul, Nat.reduceLeDiff, Nat.reduceLT, Int.reduceToNat, reduceIte, reduceCtorEq, Int.reduceEq, Int.reduceLT, Int.reduceLE, ↓avp_condG, ↓tf_arrow, ↓ft_arrow, k_law10_SpaceTurns_law10_begun.down, A_law10_begun, p_law10_begun, r_law10_begun, c1, c2, c3, c4, gt_iff_lt, pick_of, pick_ot]
    simp only [vP.down, vS.down, vE.down, Nat.reduceEqDiff, Nat.reduceAdd, Nat.reduceSub, Nat.reduceMul, Nat.reduceLeDiff, Nat.reduceLT, Int.reduceToNat, reduceIte, reduceCtorEq, Int.reduceEq, Int.reduceLT, Int.reduceLE, ↓avp_condG, ↓tf_arrow, ↓ft_arrow, vT.down]
  by_cases c5 : (20 : Int) < (e1.length : Int)
  · simp only [vP.down, vS.down, vE.down, Nat.reduceEqDiff, Nat.reduceAdd, Nat.reduceSub, Nat.reduceMul, Nat.reduceLeDiff, Nat.reduceLT, Int.reduceToNat, reduceIte, reduceCtorEq, Int.reduceEq, Int.reduceLT, Int.reduceLE, ↓avp_condG, ↓tf_arrow, ↓ft_arrow, k_law10_SpaceTurns_law10_begun.down, A_law10_begun, p_law10_begun, r_law10_begun, c1, c2, c3, c4, c5, gt_iff_lt, pick_of, pick_ot]
    simp only [vP.down, vS.down, vE.down, Nat.reduceEqDiff, Nat.reduceAdd, Nat.reduceSub, Nat.reduceMul, Nat.reduceLeDiff, Nat.reduceLT, Int.reduceToNat, reduceIte, reduceCtorEq, Int.reduceEq, Int.reduceLT, Int.reduceLE, ↓avp_condG, ↓tf_arrow, ↓ft_arrow, vT.down]
  by_cases c6 : (20 : Int) < (e2.length : Int)
  · simp only [vP.down, vS.down, vE.down, Nat.reduceEqDiff, Nat.reduceAdd, Nat.reduceSub, Nat.reduceMul, Nat.reduceLeDiff, Nat.reduceLT, Int.reduceToNat, reduceIte, reduceCtorEq, Int.reduceEq, Int.reduceLT, Int.reduceLE, ↓avp_condG, ↓tf_arrow, ↓ft_arrow, k_law10_SpaceTurns_law10_begun.down, A_law10_begun, p_law10_begun, r_law10_begun, c1, c2, c3, c4, c5, c6, gt_iff_lt, pick_of, pick_ot]
    simp only [vP.down, vS.down, vE.down, Nat.reduceEqDiff, Nat.reduceAdd, Nat.reduceSub, Nat.reduceMul, Nat.reduceLeDiff, Nat.reduceLT, Int.reduceToNat, reduceIte, reduceCtorEq, Int.reduceEq, Int.reduceLT, Int.reduceLE, ↓avp_condG, ↓tf_arrow, ↓ft_arrow, vT.down]
  by_cases c7 : (20 : Int) < (e3.length : Int)
  · simp only [vP.down, vS.down, vE.down, Nat.reduceEqDiff, Nat.reduceAdd, Nat.reduceSub, Nat.reduceMul, Nat.reduceLeDiff, Nat.reduceLT, Int.reduceToNat, reduceIte, reduceCtorEq, Int.reduceEq, Int.reduceLT, Int.reduceLE, ↓avp_condG, ↓tf_arrow, ↓ft_arrow, k_law10_SpaceTurns_law10_begun.down, A_law10_begun, p_law10_begun, r_law10_begun, c1, c2, c3, c4, c5, c6, c7, gt_iff_lt, pick_of, pick_ot]
    simp only [vP.down, vS.down, vE.down, Nat.reduceEqDiff, Nat.reduceAdd, Nat.reduceSub, Nat.reduceMul, Nat.reduceLeDiff, Nat.reduceLT, Int.reduceToNat, reduceIte, reduceCtorEq, Int.reduceEq, Int.reduceLT, Int.reduceLE, ↓avp_condG, ↓tf_arrow, ↓ft_arrow, vT.down]
  simp only [vP.down, vS.down, vE.down, Nat.reduceEqDiff, Nat.reduceAdd, Nat.reduceSub, Nat.reduceMul, Nat.reduceLeDiff, Nat.reduceLT, Int.reduceToNat, reduceIte, reduceCtorEq, Int.reduceEq, Int.reduceLT, Int.reduceLE, ↓avp_condG, ↓tf_arrow, ↓ft_arrow, k_law10_SpaceTurns_law10_begun.down, A_law10_begun, p_law10_begun, r_law10_begun, c1, c2, c3, c4, c5, c6, c7, gt_iff_lt, pick_of, pick_ot]
  refine weak_at [(0, .t (sl a)), (1, .t (sl b)), (2, .t (sl c)), (3, .t (sl d)), (4, .t (sl e1)), (5, .t (sl e2)), (6, .t (sl e3))] .empty fewer_refl (by simp only [vP.down, vS.down, vE.down, Nat.reduceEqDiff, Nat.reduceAdd, Nat.reduceSub, Nat.reduceMul, Nat.reduceLeDiff, Nat.reduceLT, Int.reduceToNat, reduceIte, reduceCtorEq, Int.reduceEq, Int.reduceLT, Int.reduceLE, ↓avp_condG, ↓tf_arrow, ↓ft_arrow, wP.down]) ?_
  simp only [vP.down, vS.down, vE.down, Nat.reduceEqDiff, Nat.reduceAdd, Nat.reduceSub, Nat.reduceMul, Nat.reduceLeDiff, Nat.reduceLT, Int.reduceToNat, reduceIte, reduceCtorEq, Int.reduceEq, Int.reduceLT, Int.reduceLE, ↓avp_condG, ↓tf_arrow, ↓ft_arrow, k_law10_SpaceTurns_law10_made.down, m_law10_made]
  refine ⟨a, b, c, d, rfl, ⟨by omega, by omega, by omega, by omega⟩, fun v S X Y Z W hv hX hY hZ hW => ?_⟩
  simp only [vP.down, vS.down, vE.down, Nat.reduceEqDiff, Nat.reduceAdd, Nat.reduceSub, Nat.reduceMul, Nat.reduceLeDiff, Nat.reduceLT, Int.reduceToNat, reduceIte, reduceCtorEq, Int.reduceEq, Int.reduceLT, Int.reduceLE, ↓avp_condG, ↓tf_arrow, ↓ft_arrow, hv.cells, hv.one]
  intro g hg
  refine weak_at [(4, .t (sl e1)), (5, .t (sl e2)), (6, .t (sl e3)), (15, .ptr g 0)] (Store.empty.set g (some (.box [.t (sl X), .t (sl (whereL .less Y X)), .t (sl (whereL .less (whereL .less Z X) (whereL .less Y X))), .t (sl W)] false))) (sp_freeze (Store.set_same _ _ _) (hv.fresh hg)) (by simp only [vP.down, vS.down, vE.down, Nat.reduceEqDiff, Nat.reduceAdd, Nat.reduceSub, Nat.reduceMul, Nat.reduceLeDiff, Nat.reduceLT, Int.reduceToNat, reduceIte, reduceCtorEq, Int.reduceEq, Int.reduceLT, Int.reduceLE, ↓avp_condG, ↓tf_arrow, ↓ft_arrow, wP.down]) ?_
  simp only [vP.down, vS.down, vE.down, Nat.reduceEqDiff, Nat.reduceAdd, Nat.reduceSub, Nat.reduceMul, Nat.reduceLeDiff, Nat.reduceLT, Int.reduceToNat, reduceIte, reduceCtorEq, Int.reduceEq, Int.reduceLT, Int.reduceLE, ↓avp_condG, ↓tf_arrow, ↓ft_arrow]
  refine weak_at [(4, .t (sl e1)), (5, .t (sl e2)), (6, .t (sl e3)), (15, .imm (spC (madeM X Y Z W)))] .empty fewer_empty (by
    simp only [vP.down, vS.down, vE.down, Nat.reduceEqDiff, Nat.reduceAdd, Nat.reduceSub, Nat.reduceMul, Nat.reduceLeDiff, Nat.reduceLT, Int.reduceToNat, reduceIte, reduceCtorEq, Int.reduceEq, Int.reduceLT, Int.reduceLE, ↓avp_condG, ↓tf_arrow, ↓ft_arrow, wP.down]
    exact w2_imm (l := spC (madeM X Y Z W)) (ro := false) (Store.set_same _ _ _) rfl) ?_
  clear hv hg
  have hS := made_sp hX hY hZ hW
  have hl := made_len hX hY hZ hW
  obtain ⟨s, hs⟩ : ∃ s, s = madeM X Y Z W := ⟨_, rfl⟩
  rw [← hs] at hS hl ⊢
  simp only [vP.down, vS.down, vE.down, Nat.reduceEqDiff, Nat.reduceAdd, Nat.reduceSub, Nat.reduceMul, Nat.reduceLeDiff, Nat.reduceLT, Int.reduceToNat, reduceIte, reduceCtorEq, Int.reduceEq, Int.reduceLT, Int.reduceLE, ↓avp_condG, ↓tf_arrow, ↓ft_arrow, k_law10_SpaceTurns_made_Made.down, q_made_Made, e_made_Made, mk_made_Made, k_law10_SpaceTurns_made_Picks_Runs.down, m_made_Picks_Runs]
  refine ⟨⟨e1, rfl⟩, fun g1 hg1 => ?_⟩
  refine runs_any (pk_new hg1 (by omega)) (by omega) (by omega) fun v1 S1 m1 hv1 hm1 H1 _ => ?_
  refine ⟨⟨e2, rfl⟩, fun g2 hg2 => ?_⟩
  refine runs_any (pk_new hg2 (by omega)) (by omega) (by omega) fun v2 S2 m2 hv2 hm2 H2 _ => ?_
  have hv1 := lv_over hv1 hg2 H2
  refine ⟨⟨e3, rfl⟩, fun g3 hg3 => ?_⟩
  refine runs_any (pk_new hg3 (by omega)) (by omega) (by omega) fun v3 S3 m3 hv3 hm3 H3 _ => ?_
  have hv1 := lv_over hv1 hg3 H3
  have hv2 := lv_over hv2 hg3 H3
  obtain ⟨y1, r1, b1, d1, _⟩ := lv_borrow1 hv1
  obtain ⟨y2, r2, b2, d2, _⟩ := lv_borrow1 hv2
  obtain ⟨y3, r3, b3, d3, _⟩ := lv_borrow1 hv3
  simp only [vP.down, vS.down, vE.down, Nat.reduceEqDiff, Nat.reduceAdd, Nat.reduceSub, Nat.reduceMul, Nat.reduceLeDiff, Nat.reduceLT, Int.reduceToNat, reduceIte, reduceCtorEq, Int.reduceEq, Int.reduceLT, Int.reduceLE, ↓avp_condG, ↓tf_arrow, ↓ft_arrow, hv1.cells, hv2.cells, hv3.cells, b1, b2, b3]
  intro g4 hg4
  have hdec : Cell.dec [TV.seq 1 [[y1], [y2], [y3]]] = some [m1, m2, m3] := by
    show (if (1 : Nat) = Cell.width (List TRun) then decAll [[y1], [y2], [y3]] else none) = _
    have hw1 : (1 : Nat) = Cell.width (List TRun) := rfl
    rw [if_pos hw1]
    simp only [decAll, d1, d2, d3, Option.bind_some, Option.map_some]
  refine weak_at [(15, .imm (spC s)), (16, .t (sl [m1, m2, m3]))] .empty fewer_empty (by
    simp only [vP.down, vS.down, vE.down, Nat.reduceEqDiff, Nat.reduceAdd, Nat.reduceSub, Nat.reduceMul, Nat.reduceLeDiff, Nat.reduceLT, Int.reduceToNat, reduceIte, reduceCtorEq, Int.reduceEq, Int.reduceLT, Int.reduceLE, ↓avp_condG, ↓tf_arrow, ↓ft_arrow, wP.down, spC]
    exact w2_rows (Store.set_same _ _ _) rfl hdec rfl) ?_
  simp only [vP.down, vS.down, vE.down, Nat.reduceEqDiff, Nat.reduceAdd, Nat.reduceSub, Nat.reduceMul, Nat.reduceLeDiff, Nat.reduceLT, Int.reduceToNat, reduceIte, reduceCtorEq, Int.reduceEq, Int.reduceLT, Int.reduceLE, ↓avp_condG, ↓tf_arrow, ↓ft_arrow, spC]
  intro g hg
  refine turns_8 hS (L := [m1, m2, m3]) rfl (fun l hm => ?_) (wk_to fewer_refl (by simp only [vP.down, vS.down, vE.down, Nat.reduceEqDiff, Nat.reduceAdd, Nat.reduceSub, Nat.reduceMul, Nat.reduceLeDiff, Nat.reduceLT, Int.reduceToNat, reduceIte, reduceCtorEq, Int.reduceEq, Int.reduceLT, Int.reduceLE, ↓avp_condG, ↓tf_arrow, ↓ft_arrow, wP.down, spC]))
  simp only [List.mem_cons, List.not_mem_nil, or_false] at hm
  rcases hm with rfl | rfl | rfl
  · exact ⟨hm1.nf, hm1.wn⟩
  · exact ⟨hm2.nf, hm2.wn⟩
  · exact ⟨hm3.nf, hm3.wn⟩
noncomputable def c_law10_SpaceTurns : Con := fnScal A_law10_SpaceTurns p_law10_SpaceTurns r_law10_SpaceTurns
theorem ok_law10_SpaceTurns : COk Try.prog 5 c_law10_SpaceTurns := fn_sok sys_law10_SpaceTurns mixed Try.func5 (by kernel_rfl) geq_law10_SpaceTurns Try.ntmps5 (by rw [Try.results5]) (fun x => by simp [rTrue, AV.scal]) fun x hx => ⟨Nat.le_of_ble_eq_true rfl, body_law10_SpaceTurns x hx⟩
theorem says_law10_SpaceTurns : SaysTrue Rows.spaceTurnsSpec 7 := ⟨rfl, fun H ds h => by
  match ds, h with
  | [d0, d1, d2, d3, d4, d5, d6], _ => exact ⟨rfl, rfl, rfl⟩⟩
set_option maxRecDepth 100000 in
theorem lifted_law10_SpaceTurns (os : Os) (started : os.Started) (H : Type) (enc : TypeId × Value → H) :
    ReturnsInHanded {} Try.checked os 5 .any (Rows.spaceTurnsSpec.pre6 enc Try.prog Try.f5 Rows.spaceTurnsRow.domain false) (Rows.spaceTurnsSpec.post enc Try.prog Try.f5 false true false false) := by
  refine returnsInHanded_of_change (C := Try.checked) own started (by kernel_rfl) Try.func5
    (ChangeSpec.witness6 (enc := enc) (C := Try.checked) false ⟨#[], #[.slice none 0 0, .slice none 0 0, .slice none 0 0, .slice none 0 0, .slice none 0 0, .slice none 0 0, .slice none 0 0], []⟩ 8 (by kernel_rfl) (by kernel_rfl) (by kernel_rfl) (by kernel_rfl)) ?_
  intro W base args ds gs before hval hW _ _
  exact law_contract (ts := [22, 22, 22, 22, 22, 22, 22]) (tb := 4) ok_law10_SpaceTurns (by rw [Try.params5]) (by kernel_rfl) Try.underlying4 laid (by kernel_rfl) rd_law10_SpaceTurns (fun _ h => h) says_law10_SpaceTurns H enc W base args ds gs before hval hW
theorem over_law10_SpaceTurns : Rows.spaceTurnsRow.holds Try.pinned (OpenSpec.ofChange Rows.spaceTurnsSpec) :=
  OpenClaim.holds_of_wide 5 Try.f5 rfl rfl rfl rfl rfl rfl rfl ⟨rfl, rfl, rfl, rfl, rfl⟩ rfl rfl rfl rfl rfl (by kernel_rfl) Try.func5 (by kernel_rfl)
    (of_decide_eq_true (by kernel_rfl)) (by unfold Func.isWrapper; first | (rw [if_pos (by decide +kernel)]; kernel_rfl) | (rw [if_neg (by decide +kernel)]; exact ⟨rfl, rfl⟩))
    (fun os started H enc _ => lifted_law10_SpaceTurns os started H enc)
theorem spaceTurns_holds : Rows.SpaceTurnsSaid := over_law10_SpaceTurns
end Go.Proofs.Ytgdaibdfjhchbaa

