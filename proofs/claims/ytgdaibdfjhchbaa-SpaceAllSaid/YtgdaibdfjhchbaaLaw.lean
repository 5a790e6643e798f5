/-
  What the laws lean on: how long sets are; what is still.
-/
import Derived.Test.YtgdaibdfjhchbaaFnsE
set_option linter.unusedSimpArgs false
set_option linter.unusedVariables false
namespace Go.Proofs.Ytgdaibdfjhchbaa
open Go Go.Eng
set_option maxRecDepth 100000
theorem cnt_ge : ∀ {l : List TRun}, Nf l → (l.length : Int) ≤ cntR l
  | [], _ => Int.le_refl _
  | r :: t, h => by
    have h1 := cnt_ge h.tail
    have h2 := h.head.1
    have e : cntR (r :: t) = r.To - r.From + cntR t := by simp [cntR]
    rw [e, List.length_cons]
    omega
theorem nf_len {l : List TRun} {a : Int} {k : Nat} (h : Nf l) (hw : Wn a k l) : l.length ≤ k := by
  have h1 := cnt_ge h
  rw [cntR_card h hw] at h1
  have h2 := List.length_filter_le (hasR l) (seg a k)
  rw [seg_len] at h2
  omega
theorem Sp.len {s : TSpace} (h : Sp s) : lenS s := by
  have h1 := nf_len h.nh h.wh
  have h2 := nf_len h.no h.wo
  have h3 := nf_len h.nt h.wt
  have h4 := nf_len h.nk h.wk
  have e1 : s.Held.length ≤ 1000 := by omega
  have e2 : s.One.length ≤ 1000 := by omega
  have e3 : s.Two.length ≤ 1000 := by omega
  have e4 : s.Kept.length ≤ 1000 := by omega
  exact ⟨e1, e2, e3, e4⟩
theorem less_self {l : List TRun} : whereL .less l l = [] := where_nil.2 fun i => by
  show (hasR l i && !hasR l i) = false
  cases hasR l i <;> rfl
theorem less_nl {l : List TRun} : whereL .less [] l = [] := where_nil.2 fun i => rfl
theorem still_eq {s : TSpace} {h : List TRun} : turnM (turnM (turnM s h) h) h = ⟨h, [], [], s.Kept⟩ := by
  simp only [turnM, less_self, less_nl]
theorem still_turn {h k : List TRun} : turnM ⟨h, [], [], k⟩ h = ⟨h, [], [], k⟩ := by
  simp only [turnM, less_self, less_nl]
theorem still_free {h k : List TRun} (hS : Sp ⟨h, [], [], k⟩) : whereL .less (whereL .less [(⟨14, 54⟩ : TRun)] h) k = freeM 40 ⟨h, [], [], k⟩ := by
  refine nf_ext where_nf free_nf fun i => ?_
  have e := hS.free (n := 40) rfl i
  rw [show ((40 : Nat) : Int) = 40 from rfl] at e
  rw [e, where_has, where_has]
  have e2 : hasR [(⟨14, 54⟩ : TRun)] i = (decide (14 ≤ i) && decide (i < 14 + 40)) := all_has (n := 40)
  rw [e2]
  show ((decide (14 ≤ i) && decide (i < 14 + 40) && !hasR h i) && !hasR k i) = (decide (14 ≤ i) && decide (i < 14 + 40) && !(hasR h i || (false || (false || hasR k i))))
  cases hasR h i <;> cases hasR k i <;> simp
end Go.Proofs.Ytgdaibdfjhchbaa


namespace Go.Proofs.Ytgdaibdfjhchbaa
open Go Go.Eng
set_option maxRecDepth 100000
theorem card40 {l : List TRun} (h : Nf l) (hw : Wn 14 40 l) : l.length ≤ 40 ∧ okB l ∧ 0 ≤ cntR l ∧ cntR l ≤ 40 := by
  have e := cntR_card h hw
  have h2 := List.length_filter_le (hasR l) (seg 14 40)
  rw [seg_len] at h2
  exact ⟨nf_len h hw, okB_of h hw (by omega) (by omega), by omega, by omega⟩
/-- What a group holds: of what was held, and of what was free. -/
def growH (s : TSpace) (x y f : List TRun) : List TRun := whereL .add (whereL .both x s.Held) (whereL .both y f)
theorem grow_nf {s : TSpace} {x y f : List TRun} : Nf (growH s x y f) := where_nf
theorem grow_wn {s : TSpace} (h : Sp s) {x y f : List TRun} (hx : Wn 14 40 x) (hy : Wn 14 40 y) (hf : Wn 14 40 f) : Wn 14 40 (growH s x y f) := where_wn (where_wn hx h.wh) (where_wn hy hf)
theorem grow_all {s : TSpace} (h : Sp s) {x y f g : List TRun} (hx : Wn 14 40 x) (hy : Wn 14 40 y) (hf : f = freeM 40 s) (hg : g = freeM 40 (turnM s (growH s x y f))) :
    cntR g = cntR f - cntR (whereL .both y f) + cntR (whereL .less s.Two s.Kept) ∧ whereL .both g (whereL .both y f) = [] ∧ whereL .less (whereL .less f (whereL .both y f)) g = [] := by
  have d40 : dataOk ((40 : Nat) : Int) = true := rfl
  have wf : Wn 14 40 f := hf ▸ h.fwn d40
  have nf : Nf f := hf ▸ free_nf
  have ht := h.turn grow_nf (grow_wn h hx hy wf)
  have ef : ∀ i, hasR f i = (decide (14 ≤ i) && decide (i < 54) && !inS s i) := fun i => hf ▸ h.free d40 i
  have eg : ∀ i, hasR g i = (decide (14 ≤ i) && decide (i < 54) && !(((hasR x i && hasR s.Held i) || (hasR y i && hasR f i)) || (hasR s.Held i || (hasR s.One i || hasR s.Kept i)))) := fun i => by
    have := ht.free d40 i
    rw [turn_in] at this
    have e2 : hasR (growH s x y f) i = ((hasR x i && hasR s.Held i) || (hasR y i && hasR f i)) := by
      rw [growH, where_has, where_has, where_has]; rfl
    rw [e2] at this
    exact hg ▸ this
  have d1 := h.d1
  have d2 := h.d2
  have d3 := h.d3
  have wt := h.wt
  have hin : ∀ i, hasR s.Two i = true → (decide (14 ≤ i) && decide (i < 54)) = true := fun i hi => by
    have := wt i hi
    rw [decide_eq_true (by omega), decide_eq_true (by omega)]; rfl
  have sum : whereL .add (whereL .less f (whereL .both y f)) (whereL .less s.Two s.Kept) = g := nf_ext where_nf (hg ▸ free_nf) fun i => by
    have a2 := d2 i
    have a3 := d3 i
    have a4 := hin i
    rw [where_has, where_has, where_has, where_has, eg, ef]
    simp only [How.op, inS]
    revert a2 a3 a4
    generalize (decide (14 ≤ i) && decide (i < 54)) = I
    cases I <;> cases hasR s.Held i <;> cases hasR s.One i <;> cases hasR s.Two i <;> cases hasR s.Kept i <;> cases hasR x i <;> cases hasR y i <;> simp
  have dis : whereL .both (whereL .less f (whereL .both y f)) (whereL .less s.Two s.Kept) = [] := where_nil.2 fun i => by
    rw [where_has, where_has, where_has, ef]
    simp only [How.op, inS]
    generalize (decide (14 ≤ i) && decide (i < 54)) = I
    cases I <;> cases hasR s.Held i <;> cases hasR s.One i <;> cases hasR s.Two i <;> cases hasR s.Kept i <;> cases hasR y i <;> simp
  have fm : whereL .both f (whereL .both y f) = whereL .both y f := nf_ext where_nf where_nf fun i => by
    rw [where_has, where_has]
    simp only [How.op]
    cases hasR f i <;> cases hasR y i <;> rfl
  have wm := where_wn (h := .both) hy wf
  have wl : Wn 14 40 (whereL .less f (whereL .both y f)) := less_wn wf
  have wk : Wn 14 40 (whereL .less s.Two s.Kept) := less_wn h.wt
  have c1 := cnt_two (l := whereL .less f (whereL .both y f)) (m := whereL .less s.Two s.Kept) where_nf where_nf wl wk
  have c2 := cnt_less (l := f) (m := whereL .both y f) nf wf wm
  rw [sum, dis] at c1
  rw [fm] at c2
  have c0 : cntR ([] : List TRun) = 0 := rfl
  refine ⟨by omega, where_nil.2 fun i => ?_, where_nil.2 fun i => ?_⟩
  · rw [where_has, eg, ef]
    simp only [How.op, inS]
    generalize (decide (14 ≤ i) && decide (i < 54)) = I
    cases I <;> cases hasR s.Held i <;> cases hasR s.One i <;> cases hasR s.Two i <;> cases hasR s.Kept i <;> cases hasR y i <;> simp
  · rw [where_has, where_has, eg, ef]
    simp only [How.op, inS]
    have a2 := d2 i
    have a3 := d3 i
    have a4 := hin i
    revert a2 a3 a4
    generalize (decide (14 ≤ i) && decide (i < 54)) = I
    cases I <;> cases hasR s.Held i <;> cases hasR s.One i <;> cases hasR s.Two i <;> cases hasR s.Kept i <;> cases hasR x i <;> cases hasR y i <;> simp
end Go.Proofs.Ytgdaibdfjhchbaa


namespace Go.Proofs.Ytgdaibdfjhchbaa
open Go Go.Eng
set_option maxRecDepth 100000
def turnsL (s : TSpace) (L : List (List TRun)) : Nat → TSpace
  | 0 => s
  | i + 1 => turnM (turnsL s L i) (L.getD i default)
theorem turnsL_kept {s : TSpace} {L : List (List TRun)} : ∀ i, (turnsL s L i).Kept = s.Kept
  | 0 => rfl
  | i + 1 => turnsL_kept i
theorem turnsL_sp {s : TSpace} {L : List (List TRun)} (h : Sp s) (hL : ∀ l ∈ L, Nf l ∧ Wn 14 40 l) : ∀ i, i ≤ L.length → Sp (turnsL s L i)
  | 0, _ => h
  | i + 1, hi => by
    have e : L.getD i default ∈ L := by
      rw [List.getD_eq_getElem?_getD, List.getElem?_eq_getElem (by omega)]; exact List.getElem_mem _
    exact (turnsL_sp h hL i (by omega)).turn (hL _ e).1 (hL _ e).2
/-- What groups held: the one ahead of the last one, the last one, those that follow. -/
def hist (s : TSpace) (L : List (List TRun)) (k : Nat) : List TRun := if k = 0 then s.One else if k = 1 then s.Held else L.getD (k - 2) default
theorem turnsL_held {s : TSpace} {L : List (List TRun)} : ∀ i, (turnsL s L i).Held = hist s L (i + 1)
  | 0 => rfl
  | _ + 1 => rfl
theorem turnsL_one {s : TSpace} {L : List (List TRun)} {a : Int} : ∀ i, ((hasR (turnsL s L i).Held a) || hasR (turnsL s L i).One a) = (hasR (hist s L (i + 1)) a || hasR (hist s L i) a)
  | 0 => rfl
  | i + 1 => by
    rw [turnsL_held]
    have e : hasR (turnsL s L (i + 1)).One a = (hasR (turnsL s L i).Held a && !hasR (L.getD i default) a) := where_has
    have e2 : hist s L (i + 1 + 1) = L.getD i default := rfl
    rw [e, turnsL_held, e2]
    cases hasR (L.getD i default) a <;> cases hasR (hist s L (i + 1)) a <;> rfl
theorem turns_in {s : TSpace} {L : List (List TRun)} {a : Int} (i : Nat) : inS (turnsL s L (i + 1)) a = (((hasR s.Kept a || hasR (hist s L i) a) || hasR (hist s L (i + 1)) a) || hasR (hist s L (i + 2)) a) := by
  have e : inS (turnsL s L (i + 1)) a = _ := turn_in
  have e1 := turnsL_one (s := s) (L := L) (a := a) i
  have e2 : hist s L (i + 2) = L.getD i default := rfl
  rw [e, turnsL_kept, e2]
  revert e1
  cases hasR (L.getD i default) a <;> cases hasR (turnsL s L i).Held a <;> cases hasR (turnsL s L i).One a <;> cases hasR s.Kept a <;> cases hasR (hist s L (i + 1)) a <;> cases hasR (hist s L i) a <;> simp
def ownK (s : TSpace) (L : List (List TRun)) (i : Nat) (a : Int) : Nat → Bool
  | 0 => hasR s.Kept a
  | j + 1 => ownK s L i a j || hasR (hist s L (i + j)) a
theorem turns_free {s : TSpace} {L : List (List TRun)} (h : Sp s) (hL : ∀ l ∈ L, Nf l ∧ Wn 14 40 l) {i : Nat} (hi : i < L.length) {a : Int} (h1 : 14 ≤ a) (h2 : a < 54) : hasR (freeM 40 (turnsL s L (i + 1))) a = !ownK s L i a 3 := by
  have e := (turnsL_sp h hL (i + 1) hi).free (n := 40) rfl a
  have e' : hasR (freeM 40 (turnsL s L (i + 1))) a = (decide (14 ≤ a) && decide (a < 54) && !inS (turnsL s L (i + 1)) a) := e
  rw [e', decide_eq_true h1, decide_eq_true h2, turns_in]
  rfl
/-- Groups that hold nothing. -/
def noneL (u : TSpace) : Nat → TSpace
  | 0 => u
  | i + 1 => turnM (noneL u i) []
theorem noneL_sp {u : TSpace} (h : Sp u) : ∀ i, Sp (noneL u i)
  | 0 => h
  | i + 1 => (noneL_sp h i).turn .nil wn_nil
theorem noneL_kept {u : TSpace} : ∀ i, (noneL u i).Kept = u.Kept
  | 0 => rfl
  | i + 1 => noneL_kept i
theorem both_free {u : TSpace} (h : Sp u) {A : List TRun} (hA : ∀ i, hasR A i = true → inS u i = true) : whereL .both (freeM 40 u) A = [] := where_nil.2 fun i => by
  have e := h.free (n := 40) rfl i
  have e' : hasR (freeM 40 u) i = (decide (14 ≤ i) && decide (i < 54) && !inS u i) := e
  show (hasR (freeM 40 u) i && hasR A i) = false
  rw [e']
  cases hi : hasR A i with
  | false => rw [Bool.and_false]
  | true => rw [hA i hi, Bool.not_true, Bool.and_false]; rfl
theorem noneL_held {u : TSpace} {A : List TRun} (hA : ∀ i, hasR A i = true → hasR u.Held i = true) {j : Nat} (hj : j < 3) (i : Int) (hi : hasR A i = true) : inS (noneL u j) i = true := by
  have h1 := hA i hi
  rcases (by omega : j = 0 ∨ j = 1 ∨ j = 2) with rfl | rfl | rfl
  · show (hasR u.Held i || _) = true
    rw [h1]; rfl
  · show inS (turnM u []) i = true
    rw [turn_in, h1]; simp
  · show inS (turnM (turnM u []) []) i = true
    have e : hasR (turnM u []).One i = true := by
      show hasR (whereL .less u.Held []) i = true
      rw [where_has, h1]; rfl
    rw [turn_in, e]; simp
theorem none_both {u : TSpace} (h : Sp u) {A : List TRun} (hA : ∀ i, hasR A i = true → hasR u.Held i = true) {j : Nat} (hj : j < 3) : whereL .both (freeM 40 (noneL u j)) A = [] :=
  both_free (noneL_sp h j) (noneL_held hA hj)
theorem none_cnt {u : TSpace} (h : Sp u) (hk : u.Kept = []) : cntR (freeM 40 (noneL u 3)) = 40 := by
  have hS := noneL_sp h 3
  have d40 : dataOk ((40 : Nat) : Int) = true := rfl
  have e : freeM 40 (noneL u 3) = [⟨14, 54⟩] := nf_ext free_nf (.one (by decide)) fun i => by
    have e1 : hasR (freeM 40 (noneL u 3)) i = (decide (14 ≤ i) && decide (i < 54) && !inS (noneL u 3) i) := hS.free d40 i
    have e2 : inS (noneL u 3) i = false := by
      have e3 : inS (noneL u 3) i = _ := turn_in
      rw [e3]
      have a1 : hasR (noneL u 2).Held i = false := rfl
      have a2 : hasR (noneL u 2).One i = false := by
        show hasR (whereL .less (noneL u 1).Held []) i = false
        rw [where_has]; rfl
      have a3 : (noneL u 2).Kept = [] := (noneL_kept 2).trans hk
      rw [a1, a2, a3]; rfl
    have e4 : hasR [(⟨14, 54⟩ : TRun)] i = (decide (14 ≤ i) && decide (i < 14 + 40)) := all_has (n := 40)
    rw [e1, e2, e4, Bool.not_false, Bool.and_true]; rfl
  rw [e]; rfl
theorem fold_free {t : TSpace} (h : Sp t) : freeM 40 (foldM t) = freeM 40 t := nf_ext free_nf free_nf fun i => by
  have e1 : hasR (freeM 40 (foldM t)) i = (decide (14 ≤ i) && decide (i < 54) && !inS (foldM t) i) := h.fold.free (n := 40) rfl i
  have e2 : hasR (freeM 40 t) i = (decide (14 ≤ i) && decide (i < 54) && !inS t i) := h.free (n := 40) rfl i
  rw [e1, e2]
  have e3 : inS (foldM t) i = inS t i := by
    simp only [inS, foldM, where_has, How.op]
    cases hasR t.Held i <;> cases hasR t.One i <;> cases hasR t.Two i <;> cases hasR t.Kept i <;> rfl
  rw [e3]
theorem lv_borrow1 {α : Type} [Cell α] {S : Store} {v : AV} {l : List α} (hv : LV S v l) : ∃ y ros, S.borrow1 v = some (y, ros) ∧ Cell.dec [y] = some l ∧ ∀ g cs ro, S.f g = some (.box cs ro) → g ∉ ros := by
  rcases hv with ⟨rfl, rfl⟩ | ⟨k, rfl, ro, h⟩
  · exact ⟨.nilS, [], rfl, rfl, fun _ _ _ _ h => by cases h⟩
  · refine ⟨sl l, [k], ?_, Cell.dec_enc l, fun g cs ro' hg hm => ?_⟩
    · simp only [Store.borrow1, h, sl]
      simp
      rw [List.take_of_length_le (by simp)]
    · have : g = k := by simpa using hm
      rw [this, h] at hg; cases hg
end Go.Proofs.Ytgdaibdfjhchbaa


namespace Go.Proofs.Ytgdaibdfjhchbaa
open Go Go.Eng
set_option maxRecDepth 100000
theorem sp_freeze2 {S : Store} {g : Nat} {a b d : TV} {v : AV} {w : List TRun} (h : S.f g = some (.box [.t a, .t b, v, .t d] false)) (hv : LV S v w) : Fewer S (Store.empty.set g (some (.box [.t a, .t b, .t (sl w), .t d] false))) := fun k e' hk => by
  have hvg := hv.notbox h
  by_cases hkg : k = g
  · subst hkg
    rw [Store.set_same] at hk
    cases hk
    refine ⟨_, h, .inr ⟨_, _, false, rfl, rfl, ⟨.inl rfl, .inl rfl, box_w1 hv fun x hx => ?_, .inl rfl, trivial⟩, rfl⟩⟩
    exact Store.set_other _ _ fun hh => hx (hh ▸ hvg)
  · rw [Store.set_other _ _ hkg] at hk; cases hk
theorem sp_dec {a b c d : TV} {x y z w : List TRun} (ha : Cell.dec [a] = some x) (hb : Cell.dec [b] = some y) (hc : Cell.dec [c] = some z) (hd : Cell.dec [d] = some w) : (Cell.dec [a, b, c, d] : Option TSpace) = some ⟨x, y, z, w⟩ := by
  have e : (Cell.dec [a, b, c, d] : Option TSpace) = (((Cell.dec [a] : Option (List TRun)).bind fun x => (((Cell.dec [b] : Option (List TRun)).bind fun y => (((Cell.dec [c] : Option (List TRun)).bind fun z => ((Cell.dec [d] : Option (List TRun)).map fun w => (z, w))).map fun q => (y, q))).map fun q => (x, q))).map fun q => (⟨q.1, q.2.1, q.2.2.1, q.2.2.2⟩ : TSpace)) := rfl
  rw [e, ha, hb, hc, hd]; rfl
def G_law10_SpaceAll_20 : GCode := .seq (.seq .weak (.region [⟨(some 131), none, .load 26 (.tmp 15)⟩, ⟨(some 132), none, .move (.tmp 16)⟩, ⟨(some 133), none, .call ⟨.value (.func 22), #[.tmp 131, .tmp 132], #[26, 23]⟩⟩, ⟨(some 134), none, .load 26 (.tmp 15)⟩, ⟨(some 135), none, .move (.tmp 16)⟩, ⟨(some 136), none, .call ⟨.value (.func 23), #[.tmp 134, .tmp 135], #[26, 23]⟩⟩, ⟨(some 137), none, .call ⟨.value (.func 21), #[.tmp 133, .tmp 136], #[26, 26]⟩⟩, ⟨(some 138), none, .move (.tmp 137)⟩, ⟨(some 139), (some (138, true)), .load 26 (.tmp 15)⟩, ⟨(some 140), (some (138, true)), .call ⟨.value (.func 14), #[.tmp 139], #[26]⟩⟩, ⟨(some 141), (some (138, true)), .load 26 (.tmp 15)⟩, ⟨(some 142), (some (138, true)), .call ⟨.value (.func 24), #[.tmp 141], #[26]⟩⟩, ⟨(some 143), (some (138, true)), .call ⟨.value (.func 21), #[.tmp 140, .tmp 142], #[26, 26]⟩⟩, ⟨(some 144), none, .pick (.tmp 138) (.tmp 143) (.const (.bool false))⟩, ⟨(some 145), none, .move (.tmp 144)⟩, ⟨(some 146), (some (145, true)), .load 26 (.tmp 15)⟩, ⟨(some 147), (some (145, true)), .call ⟨.value (.func 15), #[.tmp 146], #[26]⟩⟩, ⟨(some 148), (some (145, true)), .load 26 (.tmp 15)⟩, ⟨(some 149), (some (145, true)), .call ⟨.value (.func 25), #[.tmp 148], #[26]⟩⟩, ⟨(some 150), (some (145, true)), .call ⟨.value (.func 21), #[.tmp 147, .tmp 149], #[26, 26]⟩⟩, ⟨(some 151), none, .pick (.tmp 145) (.tmp 150) (.const (.bool false))⟩, ⟨(some 152), none, .move (.tmp 151)⟩, ⟨(some 153), (some (152, true)), .load 26 (.tmp 15)⟩, ⟨(some 154), (some (152, true)), .load 26 (.tmp 17)⟩, ⟨(some 155), (some (152, true)), .call ⟨.value (.func 26), #[.tmp 153, .tmp 154], #[26, 26]⟩⟩, ⟨(some 156), (some (152, true)), .load 26 (.tmp 15)⟩, ⟨(some 157), (some (152, true)), .load 26 (.tmp 17)⟩, ⟨(some 158), (some (152, true)), .call ⟨.value (.func 21), #[.tmp 156, .tmp 157], #[26, 26]⟩⟩, ⟨(some 159), (some (152, true)), .binOp .eql 4 (.tmp 155) (.tmp 158) 4⟩, ⟨(some 160), none, .pick (.tmp 152) (.tmp 159) (.const (.bool false))⟩, ⟨(some 161), none, .move (.tmp 160)⟩, ⟨(some 162), (some (161, true)), .load 26 (.tmp 15)⟩, ⟨(some 163), (some (161, true)), .load 26 (.tmp 15)⟩, ⟨(some 164), (some (161, true)), .call ⟨.value (.func 26), #[.tmp 162, .tmp 163], #[26, 26]⟩⟩, ⟨(some 165), none, .pick (.tmp 161) (.tmp 164) (.const (.bool false))⟩, ⟨(some 14), none, .assign (.tmp 165)⟩])) (.ret)
def G_law10_SpaceAll_12 : GCode := .seq (.seq (.seq .weak (.region [⟨(some 21), none, .assign (.const (.int .i64 0))⟩])) (.block 0 (.loop (.seq .weak (.seq (.seq (.region [⟨(some 80), none, .move (.tmp 21)⟩, ⟨(some 81), none, .move (.tmp 19)⟩, ⟨(some 82), none, .call ⟨.builtin .len, #[.tmp 81], #[32]⟩⟩, ⟨(some 83), none, .binOp .lss 3 (.tmp 80) (.tmp 82) 3⟩]) (.cond (.tmp 83) (.skip) (.exit 0))) (.seq (.block 1 (.seq (.region [⟨(some 22), none, .assign (.const (.int .i64 0))⟩]) (.block 2 (.loop (.seq .weak (.seq (.seq (.region [⟨(some 86), none, .move (.tmp 22)⟩, ⟨(some 87), none, .binOp .lss 3 (.tmp 86) (.const (.int .i64 3)) 3⟩]) (.cond (.tmp 87) (.skip) (.exit 2))) (.seq (.block 3 (.seq (.seq .weak (.region [⟨(some 90), none, .move (.tmp 20)⟩, ⟨(some 91), none, .move (.tmp 22)⟩, ⟨(some 92), none, .indexAddr 33 (.tmp 90) (.tmp 91)⟩, ⟨(some 93), none, .load 3 (.tmp 92)⟩, ⟨(some 94), none, .move (.tmp 19)⟩, ⟨(some 95), none, .move (.tmp 21)⟩, ⟨(some 96), none, .indexAddr 32 (.tmp 94) (.tmp 95)⟩, ⟨(some 97), none, .load 26 (.tmp 96)⟩, ⟨(some 98), none, .call ⟨.value (.func 16), #[.tmp 93, .tmp 97], #[3, 26]⟩⟩, ⟨(some 99), none, .move (.tmp 20)⟩, ⟨(some 100), none, .move (.tmp 22)⟩, ⟨(some 101), none, .indexAddr 33 (.tmp 99) (.tmp 100)⟩, ⟨(some 102), none, .load 3 (.tmp 101)⟩, ⟨(some 103), none, .move (.tmp 19)⟩, ⟨(some 104), none, .move (.tmp 21)⟩, ⟨(some 105), none, .indexAddr 32 (.tmp 103) (.tmp 104)⟩, ⟨(some 106), none, .load 26 (.tmp 105)⟩, ⟨(some 107), none, .call ⟨.value (.func 17), #[.tmp 102, .tmp 106], #[3, 26]⟩⟩, ⟨(some 108), none, .binOp .neq 4 (.tmp 98) (.tmp 107) 4⟩, ⟨(some 109), none, .move (.tmp 108)⟩, ⟨(some 110), (some (109, false)), .move (.tmp 20)⟩, ⟨(some 111), (some (109, false)), .move (.tmp 22)⟩, ⟨(some 112), (some (109, false)), .indexAddr 33 (.tmp 110) (.tmp 111)⟩, ⟨(some 113), (some (109, false)), .load 3 (.tmp 112)⟩, ⟨(some 114), (some (109, false)), .move (.tmp 19)⟩, ⟨(some 115), (some (109, false)), .move (.tmp 21)⟩, ⟨(some 116), (some (109, false)), .indexAddr 32 (.tmp 114) (.tmp 115)⟩, ⟨(some 117), (some (109, false)), .load 26 (.tmp 116)⟩, ⟨(some 118), (some (109, false)), .call ⟨.value (.func 19), #[.tmp 113, .tmp 117], #[3, 26]⟩⟩, ⟨(some 119), (some (109, false)), .move (.tmp 20)⟩, ⟨(some 120), (some (109, false)), .move (.tmp 22)⟩, ⟨(some 121), (some (109, false)), .indexAddr 33 (.tmp 119) (.tmp 120)⟩, ⟨(some 122), (some (109, false)), .load 3 (.tmp 121)⟩, ⟨(some 123), (some (109, false)), .move (.tmp 19)⟩, ⟨(some 124), (some (109, false)), .move (.tmp 21)⟩, ⟨(some 125), (some (109, false)), .indexAddr 32 (.tmp 123) (.tmp 124)⟩, ⟨(some 126), (some (109, false)), .load 26 (.tmp 125)⟩, ⟨(some 127), (some (109, false)), .call ⟨.value (.func 20), #[.tmp 122, .tmp 126], #[3, 26]⟩⟩, ⟨(some 128), (some (109, false)), .call ⟨.value (.func 18), #[.tmp 118, .tmp 127], #[23, 23]⟩⟩, ⟨(some 129), (some (109, false)), .unOp .not 4 (.tmp 128)⟩, ⟨(some 130), none, .pick (.tmp 109) (.const (.bool true)) (.tmp 129)⟩])) (.cond (.tmp 130) (.seq (.region [⟨(some 14), none, .assign (.const (.bool false))⟩]) (.ret)) (.skip)))) (.region [⟨(some 88), none, .move (.tmp 22)⟩, ⟨(some 89), none, .binOp .add 3 (.tmp 88) (.const (.int .i64 1)) 3⟩, ⟨(some 22), none, .assign (.tmp 89)⟩])))))))) (.region [⟨(some 84), none, .move (.tmp 21)⟩, ⟨(some 85), none, .binOp .add 3 (.tmp 84) (.const (.int .i64 1)) 3⟩, ⟨(some 21), none, .assign (.tmp 85)⟩]))))))) (G_law10_SpaceAll_20)
def G_law10_SpaceAll : GCode := .seq (.region [⟨(some 14), none, .assign (.const (.bool false))⟩]) (.seq (.seq (.region [⟨(some 23), none, .call ⟨.value (.func 10), #[], #[]⟩⟩, ⟨(some 24), none, .unOp .not 4 (.tmp 23)⟩]) (.cond (.tmp 24) (.seq (.region [⟨(some 14), none, .assign (.const (.bool false))⟩]) (.ret)) (.skip))) (.seq (.seq (.region [⟨(some 25), none, .move (.tmp 0)⟩, ⟨(some 26), none, .call ⟨.builtin .len, #[.tmp 25], #[22]⟩⟩, ⟨(some 27), none, .binOp .gtr 3 (.tmp 26) (.const (.int .i64 20)) 3⟩, ⟨(some 28), none, .move (.tmp 27)⟩, ⟨(some 29), (some (28, false)), .move (.tmp 1)⟩, ⟨(some 30), (some (28, false)), .call ⟨.builtin .len, #[.tmp 29], #[22]⟩⟩, ⟨(some 31), (some (28, false)), .binOp .gtr 3 (.tmp 30) (.const (.int .i64 20)) 3⟩, ⟨(some 32), none, .pick (.tmp 28) (.const (.bool true)) (.tmp 31)⟩, ⟨(some 33), none, .move (.tmp 32)⟩, ⟨(some 34), (some (33, false)), .move (.tmp 2)⟩, ⟨(some 35), (some (33, false)), .call ⟨.builtin .len, #[.tmp 34], #[22]⟩⟩, ⟨(some 36), (some (33, false)), .binOp .gtr 3 (.tmp 35) (.const (.int .i64 20)) 3⟩, ⟨(some 37), none, .pick (.tmp 33) (.const (.bool true)) (.tmp 36)⟩, ⟨(some 38), none, .move (.tmp 37)⟩, ⟨(some 39), (some (38, false)), .move (.tmp 3)⟩, ⟨(some 40), (some (38, false)), .call ⟨.builtin .len, #[.tmp 39], #[22]⟩⟩, ⟨(some 41), (some (38, false)), .binOp .gtr 3 (.tmp 40) (.const (.int .i64 20)) 3⟩, ⟨(some 42), none, .pick (.tmp 38) (.const (.bool true)) (.tmp 41)⟩, ⟨(some 43), none, .move (.tmp 42)⟩, ⟨(some 44), (some (43, false)), .move (.tmp 4)⟩, ⟨(some 45), (some (43, false)), .call ⟨.builtin .len, #[.tmp 44], #[22]⟩⟩, ⟨(some 46), (some (43, false)), .binOp .gtr 3 (.tmp 45) (.const (.int .i64 20)) 3⟩, ⟨(some 47), none, .pick (.tmp 43) (.const (.bool true)) (.tmp 46)⟩, ⟨(some 48), none, .move (.tmp 47)⟩, ⟨(some 49), (some (48, false)), .move (.tmp 5)⟩, ⟨(some 50), (some (48, false)), .call ⟨.builtin .len, #[.tmp 49], #[23]⟩⟩, ⟨(some 51), (some (48, false)), .binOp .gtr 3 (.tmp 50) (.const (.int .i64 5)) 3⟩, ⟨(some 52), none, .pick (.tmp 48) (.const (.bool true)) (.tmp 51)⟩]) (.cond (.tmp 52) (.seq (.region [⟨(some 14), none, .assign (.const (.bool true))⟩]) (.ret)) (.skip))) (.seq (.seq .weak (.region [⟨(some 53), none, .move (.tmp 0)⟩, ⟨(some 54), none, .move (.tmp 1)⟩, ⟨(some 55), none, .move (.tmp 2)⟩, ⟨(some 56), none, .move (.tmp 3)⟩, ⟨(some 57), none, .call ⟨.value (.func 11), #[.tmp 53, .tmp 54, .tmp 55, .tmp 56], #[22, 22, 22, 22]⟩⟩, ⟨(some 15), none, .alloc 26⟩, ⟨none, none, .store 26 (.tmp 15) (.tmp 57)⟩])) (.seq (.seq .weak (.seq .weak (.region [⟨(some 58), none, .move (.tmp 4)⟩, ⟨(some 59), none, .call ⟨.value (.func 12), #[.tmp 58], #[22]⟩⟩, ⟨(some 60), none, .call ⟨.value (.func 13), #[.tmp 59, .const (.int .i64 8)], #[28, 3]⟩⟩, ⟨(some 16), none, .assign (.tmp 60)⟩]))) (.seq (.seq .weak (.region [⟨(some 61), none, .load 26 (.tmp 15)⟩, ⟨(some 17), none, .alloc 26⟩, ⟨none, none, .store 26 (.tmp 17) (.tmp 61)⟩])) (.seq (.seq .weak (.region [⟨(some 62), none, .move (.tmp 4)⟩, ⟨(some 63), none, .call ⟨.value (.func 12), #[.tmp 62], #[22]⟩⟩, ⟨(some 64), none, .call ⟨.value (.func 13), #[.tmp 63, .const (.int .i64 8)], #[28, 3]⟩⟩, ⟨(some 65), none, .fieldAddr 26 (.tmp 17) 2⟩, ⟨none, none, .store 23 (.tmp 65) (.tmp 64)⟩])) (.seq (.seq .weak (.seq .weak (.region [⟨(some 66), none, .move (.tmp 5)⟩, ⟨(some 67), none, .move (.tmp 16)⟩, ⟨(some 68), none, .build 26 #[(0, .tmp 66), (3, .tmp 67)]⟩, ⟨(some 18), none, .alloc 26⟩, ⟨none, none, .store 26 (.tmp 18) (.tmp 68)⟩]))) (.seq (.seq .weak (.region [⟨(some 69), none, .load 26 (.tmp 15)⟩, ⟨(some 70), none, .load 26 (.tmp 17)⟩, ⟨(some 71), none, .load 26 (.tmp 18)⟩, ⟨(some 72), none, .load 26 (.tmp 15)⟩, ⟨(some 73), none, .call ⟨.value (.func 14), #[.tmp 72], #[26]⟩⟩, ⟨(some 74), none, .load 26 (.tmp 15)⟩, ⟨(some 75), none, .call ⟨.value (.func 15), #[.tmp 74], #[26]⟩⟩, ⟨(some 76), none, .build 26 #[]⟩, ⟨(some 77), none, .buildSlice 32 6 #[(0, .tmp 69), (1, .tmp 70), (2, .tmp 71), (3, .tmp 73), (4, .tmp 75), (5, .tmp 76)]⟩, ⟨(some 19), none, .assign (.tmp 77)⟩])) (.seq (.seq .weak (.region [⟨(some 78), none, .move (.tmp 6)⟩, ⟨(some 79), none, .buildSlice 33 3 #[(0, .tmp 78), (1, .const (.int .i64 40)), (2, .const (.int .i64 41))]⟩, ⟨(some 20), none, .assign (.tmp 79)⟩])) (G_law10_SpaceAll_12))))))))))
noncomputable def l_law10_SpaceAll : List (Nat × Con) := [(10, c_law10_begun), (11, c_law10_made), (12, c_made_Made), (13, c_made_Picks_Runs), (14, c_space_Keep), (15, c_space_Fold), (16, c_space_May), (17, c_ref8_MaySpace), (19, c_space_Free), (20, c_ref8_Free), (18, c_ref8_Same), (22, c_space_Turn), (23, c_ref8_Turn), (21, c_ref8_SameSpace), (24, c_ref8_Keep), (25, c_ref8_Fold), (26, c_space_Same)]
noncomputable abbrev K_law10_SpaceAll : Ctx := ctx (cl l_law10_SpaceAll)
theorem geq_law10_SpaceAll : gof K_law10_SpaceAll Try.f3 = some G_law10_SpaceAll.strip := by kernel_rfl
theorem sys_law10_SpaceAll : Go.Eng.Sys Try.prog K_law10_SpaceAll := sys_of' ⟨ok_law10_begun, ok_law10_made, ok_made_Made, ok_made_Picks_Runs, ok_space_Keep, ok_space_Fold, ok_space_May, ok_ref8_MaySpace, ok_space_Free, ok_ref8_Free, ok_ref8_Same, ok_space_Turn, ok_ref8_Turn, ok_ref8_SameSpace, ok_ref8_Keep, ok_ref8_Fold, ok_space_Same, trivial⟩
theorem hm_law10_SpaceAll : ConMono K_law10_SpaceAll := conMono_of sys_law10_SpaceAll.con
noncomputable def k_law10_SpaceAll_law10_begun := PLift.up (call_scal (C := K_law10_SpaceAll) (f := 10) (A := A_law10_begun) (p := p_law10_begun) (r := r_law10_begun) rfl)
noncomputable def k_law10_SpaceAll_law10_made := PLift.up (call_gen (C := K_law10_SpaceAll) (f := 11) (modes := m_law10_made) (F := F_law10_made) rfl)
noncomputable def k_law10_SpaceAll_made_Made := PLift.up (call_new (C := K_law10_SpaceAll) (f := 12) (c := q_made_Made) (e := e_made_Made) (mk := mk_made_Made) rfl)
noncomputable def k_law10_SpaceAll_made_Picks_Runs := PLift.up (call_gen (C := K_law10_SpaceAll) (f := 13) (modes := m_made_Picks_Runs) (F := F_made_Picks_Runs) rfl)
noncomputable def k_law10_SpaceAll_space_Keep := PLift.up (call_fn (C := K_law10_SpaceAll) (f := 14) (A := A_space_Keep) (p := p_space_Keep) (r := r_space_Keep) rfl)
noncomputable def k_law10_SpaceAll_space_Fold := PLift.up (call_fn (C := K_law10_SpaceAll) (f := 15) (A := A_space_Fold) (p := p_space_Fold) (r := r_space_Fold) rfl)
noncomputable def k_law10_SpaceAll_space_May := PLift.up (call_scal (C := K_law10_SpaceAll) (f := 16) (A := A_space_May) (p := p_space_May) (r := r_space_May) rfl)
noncomputable def k_law10_SpaceAll_ref8_MaySpace := PLift.up (call_scal (C := K_law10_SpaceAll) (f := 17) (A := A_ref8_MaySpace) (p := p_ref8_MaySpace) (r := r_ref8_MaySpace) rfl)
noncomputable def k_law10_SpaceAll_space_Free := PLift.up (call_fn (C := K_law10_SpaceAll) (f := 19) (A := A_space_Free) (p := p_space_Free) (r := r_space_Free) rfl)
noncomputable def k_law10_SpaceAll_ref8_Free := PLift.up (call_fn (C := K_law10_SpaceAll) (f := 20) (A := A_ref8_Free) (p := p_ref8_Free) (r := r_ref8_Free) rfl)
noncomputable def k_law10_SpaceAll_ref8_Same := PLift.up (call_scal (C := K_law10_SpaceAll) (f := 18) (A := A_ref8_Same) (p := p_ref8_Same) (r := r_ref8_Same) rfl)
noncomputable def k_law10_SpaceAll_space_Turn := PLift.up (call_fn (C := K_law10_SpaceAll) (f := 22) (A := A_space_Turn) (p := p_space_Turn) (r := r_space_Turn) rfl)
noncomputable def k_law10_SpaceAll_ref8_Turn := PLift.up (call_fn (C := K_law10_SpaceAll) (f := 23) (A := A_ref8_Turn) (p := p_ref8_Turn) (r := r_ref8_Turn) rfl)
noncomputable def k_law10_SpaceAll_ref8_SameSpace := PLift.up (call_scal (C := K_law10_SpaceAll) (f := 21) (A := A_ref8_SameSpace) (p := p_ref8_SameSpace) (r := r_ref8_SameSpace) rfl)
noncomputable def k_law10_SpaceAll_ref8_Keep := PLift.up (call_fn (C := K_law10_SpaceAll) (f := 24) (A := A_ref8_Keep) (p := p_ref8_Keep) (r := r_ref8_Keep) rfl)
noncomputable def k_law10_SpaceAll_ref8_Fold := PLift.up (call_fn (C := K_law10_SpaceAll) (f := 25) (A := A_ref8_Fold) (p := p_ref8_Fold) (r := r_ref8_Fold) rfl)
noncomputable def k_law10_SpaceAll_space_Same := PLift.up (call_scal (C := K_law10_SpaceAll) (f := 26) (A := A_space_Same) (p := p_space_Same) (r := r_space_Same) rfl)
set_option maxHeartbeats 4000000 in
theorem all_20 {s odd : TSpace} {h : List TRun} (hS : Sp s) (hh : Nf h) (hw : Wn 14 40 h) (ho : lenS odd) {σ : St} (hσ : Wk σ (mkS [(15, .imm (spC s)), (16, .t (sl h)), (17, .imm (spC odd))] .empty)) :
    avp K_law10_SpaceAll G_law10_SpaceAll_20 (Ret K_law10_SpaceAll [.tmp 14] fun v _ => v = .t (.bool true)) σ := by
  unfold G_law10_SpaceAll_20
  simp only [avp_seq]
  refine ⟨_, hσ, ?_⟩
  have hl := hS.len
  have hT := hS.turn hh hw
  have hTl := hT.len
  have hKl := hS.keep.len
  have hFl := hS.fold.len
  have lh := nf_len hh hw
  have lh' : h.length ≤ 1000 := by omega
  have et := turn_eq (s := s) hh hS.nk
  obtain ⟨t, ht⟩ : ∃ t, t = turnM s h := ⟨_, rfl⟩
  obtain ⟨k, hk⟩ : ∃ k, k = keepM s := ⟨_, rfl⟩
  obtain ⟨f, hf⟩ : ∃ f, f = foldM s := ⟨_, rfl⟩
  rw [← ht] at hTl et
  rw [← hk] at hKl
  rw [← hf] at hFl
  simp only [vP.down, vS.down, vE.down, Nat.reduceEqDiff, Nat.reduceAdd, Nat.reduceSub, Nat.reduceMul, Nat.reduceLeDiff, Nat.reduceLT, Int.reduceToNat, reduceIte, reduceCtorEq, Int.reduceEq, Int.reduceLT, Int.reduceLE, ↓avp_condG, ↓tf_arrow, ↓ft_arrow, spC, hl, lh', hTl, hKl, hFl, et, ← ht, ← hk, ← hf, pick_of, pick_ot, k_law10_SpaceAll_space_Turn.down, A_space_Turn, p_space_Turn, r_space_Turn, k_law10_SpaceAll_ref8_Turn.down, A_ref8_Turn, p_ref8_Turn, r_ref8_Turn, k_law10_SpaceAll_space_Keep.down, A_space_Keep, p_space_Keep, r_space_Keep, k_law10_SpaceAll_ref8_Keep.down, A_ref8_Keep, p_ref8_Keep, r_ref8_Keep, k_law10_SpaceAll_space_Fold.down, A_space_Fold, p_space_Fold, r_space_Fold, k_law10_SpaceAll_ref8_Fold.down, A_ref8_Fold, p_ref8_Fold, r_ref8_Fold, k_law10_SpaceAll_ref8_SameSpace.down, A_ref8_SameSpace, p_ref8_SameSpace, r_ref8_SameSpace, k_law10_SpaceAll_space_Same.down, A_space_Same, p_space_Same, r_space_Same]
  simp only [vP.down, vS.down, vE.down, Nat.reduceEqDiff, Nat.reduceAdd, Nat.reduceSub, Nat.reduceMul, Nat.reduceLeDiff, Nat.reduceLT, Int.reduceToNat, reduceIte, reduceCtorEq, Int.reduceEq, Int.reduceLT, Int.reduceLE, ↓avp_condG, ↓tf_arrow, ↓ft_arrow, vT.down, beq_self_eq_true]
set_option maxHeartbeats 4000000 in
theorem all_12 {s odd : TSpace} {h : List TRun} (hS : Sp s) (hh : Nf h) (hw : Wn 14 40 h) (ho : lenS odd) {M : List TSpace} {D : List Int} (hM : M.length = 6) (hD : D.length = 3) (hm : ∀ q ∈ M, lenS q) {σ : St} (hσ : Wk σ (mkS [(15, .imm (spC s)), (16, .t (sl h)), (17, .imm (spC odd)), (19, .t (sl M)), (20, .t (sl D))] .empty)) :
    avp K_law10_SpaceAll G_law10_SpaceAll_12 (Ret K_law10_SpaceAll [.tmp 14] fun v _ => v = .t (.bool true)) σ := by
  unfold G_law10_SpaceAll_12
  simp only [avp_seq]
  refine ⟨_, hσ, ?_⟩
  simp only [vP.down, vS.down, vE.down, Nat.reduceEqDiff, Nat.reduceAdd, Nat.reduceSub, Nat.reduceMul, Nat.reduceLeDiff, Nat.reduceLT, Int.reduceToNat, reduceIte, reduceCtorEq, Int.reduceEq, Int.reduceLT, Int.reduceLE, ↓avp_condG, ↓tf_arrow, ↓ft_arrow]
  refine loop_weak hm_law10_SpaceAll (fun m σ => ∃ i : Nat, m = 6 - i ∧ i ≤ 6 ∧ σ = mkS [(15, .imm (spC s)), (16, .t (sl h)), (17, .imm (spC odd)), (19, .t (sl M)), (20, .t (sl D)), (21, .t (.int .i64 (i : Nat)))] .empty) ⟨0, rfl, by omega, rfl⟩ (wk_to fewer_refl (by simp only [vP.down, vS.down, vE.down, Nat.reduceEqDiff, Nat.reduceAdd, Nat.reduceSub, Nat.reduceMul, Nat.reduceLeDiff, Nat.reduceLT, Int.reduceToNat, reduceIte, reduceCtorEq, Int.reduceEq, Int.reduceLT, Int.reduceLE, ↓avp_condG, ↓tf_arrow, ↓ft_arrow, wP.down, Int.natCast_zero])) ?_
  rintro m _ ⟨i, rfl, hi, rfl⟩
  have hi1 : IntKind.i64.wrap ((i : Int) + 1) = ((i + 1 : Nat) : Int) := by rw [IntWalk.i64_in _ (by omega)]; rfl
  by_cases hlt : i < 6
  case neg =>
    obtain rfl : i = 6 := by omega
    have hge : ¬ ((6 : Int) < 6) := by omega
    simp only [vP.down, vS.down, vE.down, Nat.reduceEqDiff, Nat.reduceAdd, Nat.reduceSub, Nat.reduceMul, Nat.reduceLeDiff, Nat.reduceLT, Int.reduceToNat, reduceIte, reduceCtorEq, Int.reduceEq, Int.reduceLT, Int.reduceLE, ↓avp_condG, ↓tf_arrow, ↓ft_arrow, hM, hge, show ((6 : Nat) : Int) = 6 from rfl]
    exact all_20 hS hh hw ho (wk_to fewer_refl (by simp only [vP.down, vS.down, vE.down, Nat.reduceEqDiff, Nat.reduceAdd, Nat.reduceSub, Nat.reduceMul, Nat.reduceLeDiff, Nat.reduceLT, Int.reduceToNat, reduceIte, reduceCtorEq, Int.reduceEq, Int.reduceLT, Int.reduceLE, ↓avp_condG, ↓tf_arrow, ↓ft_arrow, wP.down]))
  have hlt' : (i : Int) < 6 := by omega
  have x0 := idx_at (C := K_law10_SpaceAll) (l := M) (i := i) ty_Lapi_Space ty_api_Space rfl (by omega) .i64
  have hq : lenS (M.getD i default) := hm _ (by
    rw [List.getD_eq_getElem?_getD, List.getElem?_eq_getElem (by omega)]; exact List.getElem_mem _)
  obtain ⟨q, hq'⟩ : ∃ q, q = M.getD i default := ⟨_, rfl⟩
  rw [← hq'] at x0 hq
  simp only [vP.down, vS.down, vE.down, Nat.reduceEqDiff, Nat.reduceAdd, Nat.reduceSub, Nat.reduceMul, Nat.reduceLeDiff, Nat.reduceLT, Int.reduceToNat, reduceIte, reduceCtorEq, Int.reduceEq, Int.reduceLT, Int.reduceLE, ↓avp_condG, ↓tf_arrow, ↓ft_arrow, hM, show ((6 : Nat) : Int) = 6 from rfl, hlt']
  refine loop_weak hm_law10_SpaceAll (fun m σ => ∃ j : Nat, m = 3 - j ∧ j ≤ 3 ∧ σ = mkS [(15, .imm (spC s)), (16, .t (sl h)), (17, .imm (spC odd)), (19, .t (sl M)), (20, .t (sl D)), (21, .t (.int .i64 (i : Nat))), (22, .t (.int .i64 (j : Nat)))] .empty) ⟨0, rfl, by omega, rfl⟩ (wk_to fewer_refl (by simp only [vP.down, vS.down, vE.down, Nat.reduceEqDiff, Nat.reduceAdd, Nat.reduceSub, Nat.reduceMul, Nat.reduceLeDiff, Nat.reduceLT, Int.reduceToNat, reduceIte, reduceCtorEq, Int.reduceEq, Int.reduceLT, Int.reduceLE, ↓avp_condG, ↓tf_arrow, ↓ft_arrow, wP.down, Int.natCast_zero])) ?_
  rintro m _ ⟨j, rfl, hj, rfl⟩
  have hj1 : IntKind.i64.wrap ((j : Int) + 1) = ((j + 1 : Nat) : Int) := by rw [IntWalk.i64_in _ (by omega)]; rfl
  by_cases hlj : j < 3
  case neg =>
    obtain rfl : j = 3 := by omega
    have hge : ¬ ((3 : Int) < 3) := by omega
    simp only [vP.down, vS.down, vE.down, Nat.reduceEqDiff, Nat.reduceAdd, Nat.reduceSub, Nat.reduceMul, Nat.reduceLeDiff, Nat.reduceLT, Int.reduceToNat, reduceIte, reduceCtorEq, Int.reduceEq, Int.reduceLT, Int.reduceLE, ↓avp_condG, ↓tf_arrow, ↓ft_arrow, hge, show ((3 : Nat) : Int) = 3 from rfl]
    exact round_to (6 - (i + 1)) [(15, .imm (spC s)), (16, .t (sl h)), (17, .imm (spC odd)), (19, .t (sl M)), (20, .t (sl D)), (21, .t (.int .i64 (i + 1 : Nat)))] .empty (by omega) fewer_refl (by simp only [vP.down, vS.down, vE.down, Nat.reduceEqDiff, Nat.reduceAdd, Nat.reduceSub, Nat.reduceMul, Nat.reduceLeDiff, Nat.reduceLT, Int.reduceToNat, reduceIte, reduceCtorEq, Int.reduceEq, Int.reduceLT, Int.reduceLE, ↓avp_condG, ↓tf_arrow, ↓ft_arrow, wP.down, hi1]) ⟨i + 1, rfl, by omega, rfl⟩
  have hlj' : (j : Int) < 3 := by omega
  have x1 := idx_at (C := K_law10_SpaceAll) (l := D) (i := j) ty_Lint ty_int rfl (by omega) .i64
  obtain ⟨d, hd⟩ : ∃ d, d = D.getD j default := ⟨_, rfl⟩
  rw [← hd] at x1
  have fl : (freeM d q).length < 4611686018427387904 := by have := free_len (n := d) hq; omega
  simp only [vP.down, vS.down, vE.down, Nat.reduceEqDiff, Nat.reduceAdd, Nat.reduceSub, Nat.reduceMul, Nat.reduceLeDiff, Nat.reduceLT, Int.reduceToNat, reduceIte, reduceCtorEq, Int.reduceEq, Int.reduceLT, Int.reduceLE, ↓avp_condG, ↓tf_arrow, ↓ft_arrow, hlj']
  refine weak_at [(15, .imm (spC s)), (16, .t (sl h)), (17, .imm (spC odd)), (19, .t (sl M)), (20, .t (sl D)), (21, .t (.int .i64 (i : Nat))), (22, .t (.int .i64 (j : Nat)))] .empty fewer_refl (by simp only [vP.down, vS.down, vE.down, Nat.reduceEqDiff, Nat.reduceAdd, Nat.reduceSub, Nat.reduceMul, Nat.reduceLeDiff, Nat.reduceLT, Int.reduceToNat, reduceIte, reduceCtorEq, Int.reduceEq, Int.reduceLT, Int.reduceLE, ↓avp_condG, ↓tf_arrow, ↓ft_arrow, wP.down]) ?_
  simp only [vP.down, vS.down, vE.down, Nat.reduceEqDiff, Nat.reduceAdd, Nat.reduceSub, Nat.reduceMul, Nat.reduceLeDiff, Nat.reduceLT, Int.reduceToNat, reduceIte, reduceCtorEq, Int.reduceEq, Int.reduceLT, Int.reduceLE, ↓avp_condG, ↓tf_arrow, ↓ft_arrow, x0, x1, hq, fl, bne_self_eq_false, pick_of, pick_ot, k_law10_SpaceAll_space_May.down, A_space_May, p_space_May, r_space_May, k_law10_SpaceAll_ref8_MaySpace.down, A_ref8_MaySpace, p_ref8_MaySpace, r_ref8_MaySpace, k_law10_SpaceAll_space_Free.down, A_space_Free, p_space_Free, r_space_Free, k_law10_SpaceAll_ref8_Free.down, A_ref8_Free, p_ref8_Free, r_ref8_Free, k_law10_SpaceAll_ref8_Same.down, A_ref8_Same, p_ref8_Same, r_ref8_Same]
  exact round_to (3 - (j + 1)) [(15, .imm (spC s)), (16, .t (sl h)), (17, .imm (spC odd)), (19, .t (sl M)), (20, .t (sl D)), (21, .t (.int .i64 (i : Nat))), (22, .t (.int .i64 (j + 1 : Nat)))] .empty (by omega) fewer_refl (by simp only [vP.down, vS.down, vE.down, Nat.reduceEqDiff, Nat.reduceAdd, Nat.reduceSub, Nat.reduceMul, Nat.reduceLeDiff, Nat.reduceLT, Int.reduceToNat, reduceIte, reduceCtorEq, Int.reduceEq, Int.reduceLT, Int.reduceLE, ↓avp_condG, ↓tf_arrow, ↓ft_arrow, wP.down, hj1]) ⟨j + 1, rfl, by omega, rfl⟩
noncomputable def A_law10_SpaceAll : Arms ((List Byt) × (List Byt) × (List Byt) × (List Byt) × (List Byt) × (List TRun) × Int × Unit) := Arms.cons (argT (List Byt)) (Arms.cons (argT (List Byt)) (Arms.cons (argT (List Byt)) (Arms.cons (argT (List Byt)) (Arms.cons (argT (List Byt)) (Arms.cons (argT (List TRun)) (Arms.cons (argT Int) (Arms.nil)))))))
def p_law10_SpaceAll (x : (List Byt) × (List Byt) × (List Byt) × (List Byt) × (List Byt) × (List TRun) × Int × Unit) : Prop := (goodList (fun x : Byt => goodAny x) x.1) ∧ (goodList (fun x : Byt => goodAny x) x.2.1) ∧ (goodList (fun x : Byt => goodAny x) x.2.2.1) ∧ (goodList (fun x : Byt => goodAny x) x.2.2.2.1) ∧ (goodList (fun x : Byt => goodAny x) x.2.2.2.2.1) ∧ (goodList (fun x : TRun => (goodInt x.From ∧ (goodInt x.To))) x.2.2.2.2.2.1) ∧ (goodInt x.2.2.2.2.2.2.1) ∧ goodAny (x.2.2.2.2.2.2.2)
abbrev r_law10_SpaceAll (x : (List Byt) × (List Byt) × (List Byt) × (List Byt) × (List Byt) × (List TRun) × Int × Unit) : AV := rTrue x
theorem rd_law10_SpaceAll : ReadsA Try.prog [22, 22, 22, 22, 22, 23, 3] A_law10_SpaceAll p_law10_SpaceAll := (readsA_T (reads_list Try.underlying22 (reads_u8 Try.underlying5) (by kernel_rfl) (by decide)) (by kernel_rfl) (readsA_T (reads_list Try.underlying22 (reads_u8 Try.underlying5) (by kernel_rfl) (by decide)) (by kernel_rfl) (readsA_T (reads_list Try.underlying22 (reads_u8 Try.underlying5) (by kernel_rfl) (by decide)) (by kernel_rfl) (readsA_T (reads_list Try.underlying22 (reads_u8 Try.underlying5) (by kernel_rfl) (by decide)) (by kernel_rfl) (readsA_T (reads_list Try.underlying22 (reads_u8 Try.underlying5) (by kernel_rfl) (by decide)) (by kernel_rfl) (readsA_T (reads_list Try.underlying23 (reads_iso (h := fun _ => rfl) (h' := fun _ => rfl) (reads_struct Try.underlying48 (by kernel_rfl) (by kernel_rfl) (readsL_cons (reads_int Try.underlying3) (by kernel_rfl) (readsL_one (reads_int Try.underlying3) (by kernel_rfl))))) (by kernel_rfl) (by decide)) (by kernel_rfl) (readsA_T (reads_int Try.underlying3) (by kernel_rfl) readsA_nil)))))))
set_option maxHeartbeats 4000000 in
theorem body_law10_SpaceAll (x) (hx : p_law10_SpaceAll x) : avp K_law10_SpaceAll G_law10_SpaceAll (Ret K_law10_SpaceAll [.tmp 14] fun v _ => v = r_law10_SpaceAll x) (entry (A_law10_SpaceAll.enc x) .empty) := by
  obtain ⟨a, b, c, d, e, w, n, ⟨⟩⟩ := x
  change avp _ _ (Ret _ _ fun v _ => v = .t (.bool true)) (entry [.t (sl a), .t (sl b), .t (sl c), .t (sl d), .t (sl e), .t (sl w), .t (.int .i64 n)] .empty)
  unfold G_law10_SpaceAll
  by_cases c1 : (20 : Int) < (a.length : Int)
  · simp only [vP.down, vS.down, vE.down, Nat.reduceEqDiff, Nat.reduceAdd, Nat.reduceSub, Nat.reduceMul, Nat.reduceLeDiff, Nat.reduceLT, Int.reduceToNat, reduceIte, reduceCtorEq, Int.reduceEq, Int.reduceLT, Int.reduceLE, ↓avp_condG, ↓tf_arrow, ↓ft_arrow, k_law10_SpaceAll_law10_begun.down, A_law10_begun, p_law10_begun, r_law10_begun, c1, gt_iff_lt, pick_of, pick_ot]
    simp only [vP.down, vS.down, vE.down, Nat.reduceEqDiff, Nat.reduceAdd, Nat.reduceSub, Nat.reduceMul, Nat.reduceLeDiff, Nat.reduceLT, Int.reduceToNat, reduceIte, reduceCtorEq, Int.reduceEq, Int.reduceLT, Int.reduceLE, ↓avp_condG, ↓tf_arrow, ↓ft_arrow, vT.down]
  by_cases c2 : (20 : Int) < (b.length : Int)
  · simp only [vP.down, vS.down, vE.down, Nat.reduceEqDiff, Nat.reduceAdd, Nat.reduceSub, Nat.reduceMul, Nat.reduceLeDiff, Nat.reduceLT, Int.reduceToNat, reduceIte, reduceCtorEq, Int.reduceEq, Int.reduceLT, Int.reduceLE, ↓avp_condG, ↓tf_arrow, ↓ft_arrow, k_law10_SpaceAll_law10_begun.down, A_law10_begun, p_law10_begun, r_law10_begun, c1, c2, gt_iff_lt, pick_of, pick_ot]
    simp only [vP.down, vS.down, vE.down, Nat.reduceEqDiff, Nat.reduceAdd, Nat.reduceSub, Nat.reduceMul, Nat.reduceLeDiff, Nat.reduceLT, Int.reduceToNat, reduceIte, reduceCtorEq, Int.reduceEq, Int.reduceLT, Int.reduceLE, ↓avp_condG, ↓tf_arrow, ↓ft_arrow, vT.down]
  by_cases c3 : (20 : Int) < (c.length : Int)
  · simp only [vP.down, vS.down, vE.down, Nat.reduceEqDiff, Nat.reduceAdd, Nat.reduceSub, Nat.reduceMul, Nat.reduceLeDiff, Nat.reduceLT, Int.reduceToNat, reduceIte, reduceCtorEq, Int.reduceEq, Int.reduceLT, Int.reduceLE, ↓avp_condG, ↓tf_arrow, ↓ft_arrow, k_law10_SpaceAll_law10_begun.down, A_law10_begun, p_law10_begun, r_law10_begun, c1, c2, c3, gt_iff_lt, pick_of, pick_ot]
    simp only [vP.down, vS.down, vE.down, Nat.reduceEqDiff, Nat.reduceAdd, Nat.reduceSub, Nat.reduceMul, Nat.reduceLeDiff, Nat.reduceLT, Int.reduceToNat, reduceIte, reduceCtorEq, Int.reduceEq, Int.reduceLT, Int.reduceLE, ↓avp_condG, ↓tf_arrow, ↓ft_arrow, vT.down]
  by_cases c4 : (20 : Int) < (d.length : Int)
  · simp only [vP.down, vS.down, vE.down, Nat.reduceEqDiff, Nat.reduceAdd, Nat.reduceSub, Nat.reduceMul, Nat.reduceLeDiff, Nat.reduceLT, Int.reduceToNat, reduceIte, reduceCtorEq, Int.reduceEq, Int.reduceLT, Int.reduceLE, ↓avp_condG, ↓tf_arrow, ↓ft_arrow, k_law10_SpaceAll_law10_begun.down, A_law10_begun, p_law10_begun, r_law10_begun, c1, c2, c3, c4, gt_iff_lt, pick_of, pick_ot]
    simp only [vP.down, vS.down, vE.down, Nat.reduceEqDiff, Nat.reduceAdd, Nat.reduceSub, Nat.reduceMul, Nat.reduceLeDiff, Nat.reduceLT, Int.reduceToNat, reduceIte, reduceCtorEq, Int.reduceEq, Int.reduceLT, Int.reduceLE, ↓avp_condG, ↓tf_arrow, ↓ft_arrow, vT.down]
  by_cases c5 : (20 : Int) < (e.length : Int)
  · simp only [vP.down, vS.down, vE.down, Nat.reduceEqDiff, Nat.reduceAdd, Nat.reduceSub, Nat.reduceMul, Nat.reduceLeDiff, Nat.reduceLT, Int.reduceToNat, reduceIte, reduceCtorEq, Int.reduceEq, Int.reduceLT, Int.reduceLE, ↓avp_condG, ↓tf_arrow, ↓ft_arrow, k_law10_SpaceAll_law10_begun.down, A_law10_begun, p_law10_begun, r_law10_begun, c1, c2, c3, c4, c5, gt_iff_lt, pick_of, pick_ot]
    simp only [vP.down, vS.down, vE.down, Nat.reduceEqDiff, Nat.reduceAdd, Nat.reduceSub, Nat.reduceMul, Nat.reduceLeDiff, Nat.reduceLT, Int.reduceToNat, reduceIte, reduceCtorEq, Int.reduceEq, Int.reduceLT, Int.reduceLE, ↓avp_condG, ↓tf_arrow, ↓ft_arrow, vT.down]
  by_cases c6 : (5 : Int) < (w.length : Int)
  · simp only [vP.down, vS.down, vE.down, Nat.reduceEqDiff, Nat.reduceAdd, Nat.reduceSub, Nat.reduceMul, Nat.reduceLeDiff, Nat.reduceLT, Int.reduceToNat, reduceIte, reduceCtorEq, Int.reduceEq, Int.reduceLT, Int.reduceLE, ↓avp_condG, ↓tf_arrow, ↓ft_arrow, k_law10_SpaceAll_law10_begun.down, A_law10_begun, p_law10_begun, r_law10_begun, c1, c2, c3, c4, c5, c6, gt_iff_lt, pick_of, pick_ot]
    simp only [vP.down, vS.down, vE.down, Nat.reduceEqDiff, Nat.reduceAdd, Nat.reduceSub, Nat.reduceMul, Nat.reduceLeDiff, Nat.reduceLT, Int.reduceToNat, reduceIte, reduceCtorEq, Int.reduceEq, Int.reduceLT, Int.reduceLE, ↓avp_condG, ↓tf_arrow, ↓ft_arrow, vT.down]
  simp only [vP.down, vS.down, vE.down, Nat.reduceEqDiff, Nat.reduceAdd, Nat.reduceSub, Nat.reduceMul, Nat.reduceLeDiff, Nat.reduceLT, Int.reduceToNat, reduceIte, reduceCtorEq, Int.reduceEq, Int.reduceLT, Int.reduceLE, ↓avp_condG, ↓tf_arrow, ↓ft_arrow, k_law10_SpaceAll_law10_begun.down, A_law10_begun, p_law10_begun, r_law10_begun, c1, c2, c3, c4, c5, c6, gt_iff_lt, pick_of, pick_ot]
  refine weak_at [(0, .t (sl a)), (1, .t (sl b)), (2, .t (sl c)), (3, .t (sl d)), (4, .t (sl e)), (5, .t (sl w)), (6, .t (.int .i64 n))] .empty fewer_refl (by simp only [vP.down, vS.down, vE.down, Nat.reduceEqDiff, Nat.reduceAdd, Nat.reduceSub, Nat.reduceMul, Nat.reduceLeDiff, Nat.reduceLT, Int.reduceToNat, reduceIte, reduceCtorEq, Int.reduceEq, Int.reduceLT, Int.reduceLE, ↓avp_condG, ↓tf_arrow, ↓ft_arrow, wP.down]) ?_
  simp only [vP.down, vS.down, vE.down, Nat.reduceEqDiff, Nat.reduceAdd, Nat.reduceSub, Nat.reduceMul, Nat.reduceLeDiff, Nat.reduceLT, Int.reduceToNat, reduceIte, reduceCtorEq, Int.reduceEq, Int.reduceLT, Int.reduceLE, ↓avp_condG, ↓tf_arrow, ↓ft_arrow, k_law10_SpaceAll_law10_made.down, m_law10_made]
  refine ⟨a, b, c, d, rfl, ⟨by omega, by omega, by omega, by omega⟩, fun v S X Y Z W hv hX hY hZ hW => ?_⟩
  simp only [vP.down, vS.down, vE.down, Nat.reduceEqDiff, Nat.reduceAdd, Nat.reduceSub, Nat.reduceMul, Nat.reduceLeDiff, Nat.reduceLT, Int.reduceToNat, reduceIte, reduceCtorEq, Int.reduceEq, Int.reduceLT, Int.reduceLE, ↓avp_condG, ↓tf_arrow, ↓ft_arrow, hv.cells, hv.one]
  intro g hg
  refine weak_at [(4, .t (sl e)), (5, .t (sl w)), (6, .t (.int .i64 n)), (15, .ptr g 0)] (Store.empty.set g (some (.box [.t (sl X), .t (sl (whereL .less Y X)), .t (sl (whereL .less (whereL .less Z X) (whereL .less Y X))), .t (sl W)] false))) (sp_freeze (Store.set_same _ _ _) (hv.fresh hg)) (by simp only [vP.down, vS.down, vE.down, Nat.reduceEqDiff, Nat.reduceAdd, Nat.reduceSub, Nat.reduceMul, Nat.reduceLeDiff, Nat.reduceLT, Int.reduceToNat, reduceIte, reduceCtorEq, Int.reduceEq, Int.reduceLT, Int.reduceLE, ↓avp_condG, ↓tf_arrow, ↓ft_arrow, wP.down]) ?_
  simp only [vP.down, vS.down, vE.down, Nat.reduceEqDiff, Nat.reduceAdd, Nat.reduceSub, Nat.reduceMul, Nat.reduceLeDiff, Nat.reduceLT, Int.reduceToNat, reduceIte, reduceCtorEq, Int.reduceEq, Int.reduceLT, Int.reduceLE, ↓avp_condG, ↓tf_arrow, ↓ft_arrow]
  refine weak_at [(4, .t (sl e)), (5, .t (sl w)), (6, .t (.int .i64 n)), (15, .imm (spC (madeM X Y Z W)))] .empty fewer_empty (by
    simp only [vP.down, vS.down, vE.down, Nat.reduceEqDiff, Nat.reduceAdd, Nat.reduceSub, Nat.reduceMul, Nat.reduceLeDiff, Nat.reduceLT, Int.reduceToNat, reduceIte, reduceCtorEq, Int.reduceEq, Int.reduceLT, Int.reduceLE, ↓avp_condG, ↓tf_arrow, ↓ft_arrow, wP.down]
    exact w2_imm (l := spC (madeM X Y Z W)) (ro := false) (Store.set_same _ _ _) rfl) ?_
  clear hv hg
  have hS := made_sp hX hY hZ hW
  have hl := made_len hX hY hZ hW
  obtain ⟨s, hs⟩ : ∃ s, s = madeM X Y Z W := ⟨_, rfl⟩
  rw [← hs] at hS hl ⊢
  simp only [vP.down, vS.down, vE.down, Nat.reduceEqDiff, Nat.reduceAdd, Nat.reduceSub, Nat.reduceMul, Nat.reduceLeDiff, Nat.reduceLT, Int.reduceToNat, reduceIte, reduceCtorEq, Int.reduceEq, Int.reduceLT, Int.reduceLE, ↓avp_condG, ↓tf_arrow, ↓ft_arrow, k_law10_SpaceAll_made_Made.down, q_made_Made, e_made_Made, mk_made_Made, k_law10_SpaceAll_made_Picks_Runs.down, m_made_Picks_Runs]
  refine ⟨⟨e, rfl⟩, fun g1 hg1 => ?_⟩
  refine runs_any (pk_new hg1 (by omega)) (by omega) (by omega) fun v1 S1 h hv1 hh H1 _ => ?_
  refine weak_at [(4, .t (sl e)), (5, .t (sl w)), (6, .t (.int .i64 n)), (15, .imm (spC s)), (16, .t (sl h))] .empty fewer_empty (by
    simp only [vP.down, vS.down, vE.down, Nat.reduceEqDiff, Nat.reduceAdd, Nat.reduceSub, Nat.reduceMul, Nat.reduceLeDiff, Nat.reduceLT, Int.reduceToNat, reduceIte, reduceCtorEq, Int.reduceEq, Int.reduceLT, Int.reduceLE, ↓avp_condG, ↓tf_arrow, ↓ft_arrow, wP.down]
    exact hv1.w2 fun _ _ => rfl) ?_
  clear hv1 H1 hg1
  simp only [vP.down, vS.down, vE.down, Nat.reduceEqDiff, Nat.reduceAdd, Nat.reduceSub, Nat.reduceMul, Nat.reduceLeDiff, Nat.reduceLT, Int.reduceToNat, reduceIte, reduceCtorEq, Int.reduceEq, Int.reduceLT, Int.reduceLE, ↓avp_condG, ↓tf_arrow, ↓ft_arrow, spC]
  intro g hg
  refine weak_at [(4, .t (sl e)), (5, .t (sl w)), (6, .t (.int .i64 n)), (15, .imm (spC s)), (16, .t (sl h)), (17, .ptr g 0)] (Store.empty.set g (some (.box ((spC s).map .t) false))) fewer_refl (by simp only [vP.down, vS.down, vE.down, Nat.reduceEqDiff, Nat.reduceAdd, Nat.reduceSub, Nat.reduceMul, Nat.reduceLeDiff, Nat.reduceLT, Int.reduceToNat, reduceIte, reduceCtorEq, Int.reduceEq, Int.reduceLT, Int.reduceLE, ↓avp_condG, ↓tf_arrow, ↓ft_arrow, wP.down, spC]) ?_
  obtain ⟨X, hX⟩ : ∃ X, X = (spC s).map AV.t := ⟨_, rfl⟩
  rw [← hX]
  simp only [vP.down, vS.down, vE.down, Nat.reduceEqDiff, Nat.reduceAdd, Nat.reduceSub, Nat.reduceMul, Nat.reduceLeDiff, Nat.reduceLT, Int.reduceToNat, reduceIte, reduceCtorEq, Int.reduceEq, Int.reduceLT, Int.reduceLE, ↓avp_condG, ↓tf_arrow, ↓ft_arrow, k_law10_SpaceAll_made_Made.down, q_made_Made, e_made_Made, mk_made_Made, k_law10_SpaceAll_made_Picks_Runs.down, m_made_Picks_Runs]
  refine ⟨⟨e, rfl⟩, fun g1 hg1 => ?_⟩
  refine runs_any (pk_new hg1 (by omega)) (by omega) (by omega) fun v1 S1 y hv1 hy H1 _ => ?_
  have f1 : S1.f g = some (.box X false) := H1.keep ((Store.set_other _ _ (Store.ne_new hg1).symm).trans (Store.set_same _ _ _)) (Store.ne_new hg1).symm
  rw [hX] at f1
  unfold spC at f1
  simp only [vP.down, vS.down, vE.down, Nat.reduceEqDiff, Nat.reduceAdd, Nat.reduceSub, Nat.reduceMul, Nat.reduceLeDiff, Nat.reduceLT, Int.reduceToNat, reduceIte, reduceCtorEq, Int.reduceEq, Int.reduceLT, Int.reduceLE, ↓avp_condG, ↓tf_arrow, ↓ft_arrow, f1, hv1.cells, hv1.one]
  refine weak_at [(5, .t (sl w)), (6, .t (.int .i64 n)), (15, .imm (spC s)), (16, .t (sl h)), (17, .ptr g 0)] (Store.empty.set g (some (.box [.t (sl s.Held), .t (sl s.One), .t (sl y), .t (sl s.Kept)] false))) (sp_freeze2 (Store.set_same _ _ _) (hv1.set (hv1.notbox f1))) (by simp only [vP.down, vS.down, vE.down, Nat.reduceEqDiff, Nat.reduceAdd, Nat.reduceSub, Nat.reduceMul, Nat.reduceLeDiff, Nat.reduceLT, Int.reduceToNat, reduceIte, reduceCtorEq, Int.reduceEq, Int.reduceLT, Int.reduceLE, ↓avp_condG, ↓tf_arrow, ↓ft_arrow, wP.down, spC]) ?_
  clear hv1 H1 hg1 f1 hX hg
  simp only [vP.down, vS.down, vE.down, Nat.reduceEqDiff, Nat.reduceAdd, Nat.reduceSub, Nat.reduceMul, Nat.reduceLeDiff, Nat.reduceLT, Int.reduceToNat, reduceIte, reduceCtorEq, Int.reduceEq, Int.reduceLT, Int.reduceLE, ↓avp_condG, ↓tf_arrow, ↓ft_arrow]
  refine weak_at [(5, .t (sl w)), (6, .t (.int .i64 n)), (15, .imm (spC s)), (16, .t (sl h)), (17, .imm (spC ⟨s.Held, s.One, y, s.Kept⟩))] .empty fewer_empty (by
    simp only [vP.down, vS.down, vE.down, Nat.reduceEqDiff, Nat.reduceAdd, Nat.reduceSub, Nat.reduceMul, Nat.reduceLeDiff, Nat.reduceLT, Int.reduceToNat, reduceIte, reduceCtorEq, Int.reduceEq, Int.reduceLT, Int.reduceLE, ↓avp_condG, ↓tf_arrow, ↓ft_arrow, wP.down, spC]
    exact w2_imm (l := spC ⟨s.Held, s.One, y, s.Kept⟩) (ro := false) (Store.set_same _ _ _) rfl) ?_
  simp only [vP.down, vS.down, vE.down, Nat.reduceEqDiff, Nat.reduceAdd, Nat.reduceSub, Nat.reduceMul, Nat.reduceLeDiff, Nat.reduceLT, Int.reduceToNat, reduceIte, reduceCtorEq, Int.reduceEq, Int.reduceLT, Int.reduceLE, ↓avp_condG, ↓tf_arrow, ↓ft_arrow]
  intro g2 hg2
  refine weak_at [(6, .t (.int .i64 n)), (15, .imm (spC s)), (16, .t (sl h)), (17, .imm (spC ⟨s.Held, s.One, y, s.Kept⟩)), (18, .imm [sl w, .nilS, .nilS, sl h])] .empty fewer_empty (by
    simp only [vP.down, vS.down, vE.down, Nat.reduceEqDiff, Nat.reduceAdd, Nat.reduceSub, Nat.reduceMul, Nat.reduceLeDiff, Nat.reduceLT, Int.reduceToNat, reduceIte, reduceCtorEq, Int.reduceEq, Int.reduceLT, Int.reduceLE, ↓avp_condG, ↓tf_arrow, ↓ft_arrow, wP.down, spC]
    exact w2_imm (l := [sl w, .nilS, .nilS, sl h]) (ro := false) (Store.set_same _ _ _) rfl) ?_
  simp only [vP.down, vS.down, vE.down, Nat.reduceEqDiff, Nat.reduceAdd, Nat.reduceSub, Nat.reduceMul, Nat.reduceLeDiff, Nat.reduceLT, Int.reduceToNat, reduceIte, reduceCtorEq, Int.reduceEq, Int.reduceLT, Int.reduceLE, ↓avp_condG, ↓tf_arrow, ↓ft_arrow, spC, hl, k_law10_SpaceAll_space_Keep.down, A_space_Keep, p_space_Keep, r_space_Keep, k_law10_SpaceAll_space_Fold.down, A_space_Fold, p_space_Fold, r_space_Fold]
  intro g3 hg3
  have dl : ∀ l : List TRun, Cell.dec [sl l] = some l := fun l => Cell.dec_enc l
  have dn : Cell.dec [TV.nilS] = some ([] : List TRun) := rfl
  have hdec : Cell.dec [TV.seq 4 [[sl s.Held, sl s.One, sl s.Two, sl s.Kept], [sl s.Held, sl s.One, sl y, sl s.Kept], [sl w, .nilS, .nilS, sl h], [sl (keepM s).Held, sl (keepM s).One, sl (keepM s).Two, sl (keepM s).Kept], [sl (foldM s).Held, sl (foldM s).One, sl (foldM s).Two, sl (foldM s).Kept], [.nilS, .nilS, .nilS, .nilS]]] = some [s, ⟨s.Held, s.One, y, s.Kept⟩, ⟨w, [], [], h⟩, keepM s, foldM s, ⟨[], [], [], []⟩] := by
    show (if (4 : Nat) = Cell.width TSpace then decAll _ else none) = _
    have hw4 : (4 : Nat) = Cell.width TSpace := rfl
    rw [if_pos hw4]
    simp only [decAll, sp_dec (dl _) (dl _) (dl _) (dl _), sp_dec (dl _) dn dn (dl _), sp_dec dn dn dn dn, Option.bind_some, Option.map_some]
  refine weak_at [(6, .t (.int .i64 n)), (15, .imm (spC s)), (16, .t (sl h)), (17, .imm (spC ⟨s.Held, s.One, y, s.Kept⟩)), (19, .t (sl [s, ⟨s.Held, s.One, y, s.Kept⟩, ⟨w, [], [], h⟩, keepM s, foldM s, ⟨[], [], [], []⟩]))] .empty fewer_empty (by
    simp only [vP.down, vS.down, vE.down, Nat.reduceEqDiff, Nat.reduceAdd, Nat.reduceSub, Nat.reduceMul, Nat.reduceLeDiff, Nat.reduceLT, Int.reduceToNat, reduceIte, reduceCtorEq, Int.reduceEq, Int.reduceLT, Int.reduceLE, ↓avp_condG, ↓tf_arrow, ↓ft_arrow, wP.down, spC]
    exact w2_rows (Store.set_same _ _ _) rfl hdec rfl) ?_
  simp only [vP.down, vS.down, vE.down, Nat.reduceEqDiff, Nat.reduceAdd, Nat.reduceSub, Nat.reduceMul, Nat.reduceLeDiff, Nat.reduceLT, Int.reduceToNat, reduceIte, reduceCtorEq, Int.reduceEq, Int.reduceLT, Int.reduceLE, ↓avp_condG, ↓tf_arrow, ↓ft_arrow]
  intro g4 hg4
  have ly := hy.len8
  have lh := hh.len8
  have lo : lenS ⟨s.Held, s.One, y, s.Kept⟩ := ⟨hl.1, hl.2.1, (by omega : y.length ≤ 1000), hl.2.2.2⟩
  have lr : lenS ⟨w, [], [], h⟩ := ⟨(by omega : w.length ≤ 1000), (by decide : ([] : List TRun).length ≤ 1000), (by decide : ([] : List TRun).length ≤ 1000), (by omega : h.length ≤ 1000)⟩
  refine all_12 hS hh.nf hh.wn lo (M := [s, ⟨s.Held, s.One, y, s.Kept⟩, ⟨w, [], [], h⟩, keepM s, foldM s, ⟨[], [], [], []⟩]) (D := [n, 40, 41]) rfl rfl (fun q hq => ?_) (wk_to fewer_empty (by
    simp only [vP.down, vS.down, vE.down, Nat.reduceEqDiff, Nat.reduceAdd, Nat.reduceSub, Nat.reduceMul, Nat.reduceLeDiff, Nat.reduceLT, Int.reduceToNat, reduceIte, reduceCtorEq, Int.reduceEq, Int.reduceLT, Int.reduceLE, ↓avp_condG, ↓tf_arrow, ↓ft_arrow, wP.down, spC]
    exact (lv_at (α := Int) (l := [n, 40, 41]) (ro := false) rfl (Store.set_same _ _ _)).w2 fun _ _ => rfl))
  simp only [List.mem_cons, List.not_mem_nil, or_false] at hq
  rcases hq with rfl | rfl | rfl | rfl | rfl | rfl
  · exact hl
  · exact lo
  · exact lr
  · exact hS.keep.len
  · exact hS.fold.len
  · exact gl0
noncomputable def c_law10_SpaceAll : Con := fnScal A_law10_SpaceAll p_law10_SpaceAll r_law10_SpaceAll
theorem ok_law10_SpaceAll : COk Try.prog 3 c_law10_SpaceAll := fn_sok sys_law10_SpaceAll mixed Try.func3 (by kernel_rfl) geq_law10_SpaceAll Try.ntmps3 (by rw [Try.results3]) (fun x => by simp [rTrue, AV.scal]) fun x hx => ⟨Nat.le_of_ble_eq_true rfl, body_law10_SpaceAll x hx⟩
theorem says_law10_SpaceAll : SaysTrue Rows.spaceAllSpec 7 := ⟨rfl, fun H ds h => by
  match ds, h with
  | [d0, d1, d2, d3, d4, d5, d6], _ => exact ⟨rfl, rfl, rfl⟩⟩
set_option maxRecDepth 100000 in
theorem lifted_law10_SpaceAll (os : Os) (started : os.Started) (H : Type) (enc : TypeId × Value → H) :
    ReturnsInHanded {} Try.checked os 3 .any (Rows.spaceAllSpec.pre6 enc Try.prog Try.f3 Rows.spaceAllRow.domain false) (Rows.spaceAllSpec.post enc Try.prog Try.f3 false true false false) := by
  refine returnsInHanded_of_change (C := Try.checked) own started (by kernel_rfl) Try.func3
    (ChangeSpec.witness6 (enc := enc) (C := Try.checked) false ⟨#[], #[.slice none 0 0, .slice none 0 0, .slice none 0 0, .slice none 0 0, .slice none 0 0, .slice none 0 0, .int .i64 0], []⟩ 8 (by kernel_rfl) (by kernel_rfl) (by kernel_rfl) (by kernel_rfl)) ?_
  intro W base args ds gs before hval hW _ _
  exact law_contract (ts := [22, 22, 22, 22, 22, 23, 3]) (tb := 4) ok_law10_SpaceAll (by rw [Try.params3]) (by kernel_rfl) Try.underlying4 laid (by kernel_rfl) rd_law10_SpaceAll (fun _ h => h) says_law10_SpaceAll H enc W base args ds gs before hval hW
theorem over_law10_SpaceAll : Rows.spaceAllRow.holds Try.pinned (OpenSpec.ofChange Rows.spaceAllSpec) :=
  OpenClaim.holds_of_wide 3 Try.f3 rfl rfl rfl rfl rfl rfl rfl ⟨rfl, rfl, rfl, rfl, rfl⟩ rfl rfl rfl rfl rfl (by kernel_rfl) Try.func3 (by kernel_rfl)
    (of_decide_eq_true (by kernel_rfl)) (by unfold Func.isWrapper; first | (rw [if_pos (by decide +kernel)]; kernel_rfl) | (rw [if_neg (by decide +kernel)]; exact ⟨rfl, rfl⟩))
    (fun os started H enc _ => lifted_law10_SpaceAll os started H enc)
theorem spaceAll_holds : Rows.SpaceAllSaid := over_law10_SpaceAll
end Go.Proofs.Ytgdaibdfjhchbaa

