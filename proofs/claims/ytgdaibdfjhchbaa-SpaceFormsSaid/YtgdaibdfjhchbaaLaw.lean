/-
  What the laws lean on: how long sets are; what is still.
-/
import Derived.Test.YtgdaibdfjhchbaaFnsE
set_option linter.unusedSimpArgs false
set_option linter.unusedVariables false
namespace Go.Proofs.Ytgdaibdfjhchbaa
open Go Go.Eng
set_option maxRecDepth 100000
theorem cnt_ge : ∀ {l : List TRun}, Nf l → (l.length : Int) ≤ cntR l
  | [], _ => Int.le_refl _
  | r :: t, h => by
    have h1 := cnt_ge h.tail
    have h2 := h.head.1
    have e : cntR (r :: t) = r.To - r.From + cntR t := by simp [cntR]
    rw [e, List.length_cons]
    omega
theorem nf_len {l : List TRun} {a : Int} {k : Nat} (h : Nf l) (hw : Wn a k l) : l.length ≤ k := by
  have h1 := cnt_ge h
  rw [cntR_card h hw] at h1
  have h2 := List.length_filter_le (hasR l) (seg a k)
  rw [seg_len] at h2
  omega
theorem Sp.len {s : TSpace} (h : Sp s) : lenS s := by
  have h1 := nf_len h.nh h.wh
  have h2 := nf_len h.no h.wo
  have h3 := nf_len h.nt h.wt
  have h4 := nf_len h.nk h.wk
  have e1 : s.Held.length ≤ 1000 := by omega
  have e2 : s.One.length ≤ 1000 := by omega
  have e3 : s.Two.length ≤ 1000 := by omega
  have e4 : s.Kept.length ≤ 1000 := by omega
  exact ⟨e1, e2, e3, e4⟩
theorem less_self {l : List TRun} : whereL .less l l = [] := where_nil.2 fun i => by
  show (hasR l i && !hasR l i) = false
  cases hasR l i <;> rfl
theorem less_nl {l : List TRun} : whereL .less [] l = [] := where_nil.2 fun i => rfl
theorem still_eq {s : TSpace} {h : List TRun} : turnM (turnM (turnM s h) h) h = ⟨h, [], [], s.Kept⟩ := by
  simp only [turnM, less_self, less_nl]
theorem still_turn {h k : List TRun} : turnM ⟨h, [], [], k⟩ h = ⟨h, [], [], k⟩ := by
  simp only [turnM, less_self, less_nl]
theorem still_free {h k : List TRun} (hS : Sp ⟨h, [], [], k⟩) : whereL .less (whereL .less [(⟨14, 54⟩ : TRun)] h) k = freeM 40 ⟨h, [], [], k⟩ := by
  refine nf_ext where_nf free_nf fun i => ?_
  have e := hS.free (n := 40) rfl i
  rw [show ((40 : Nat) : Int) = 40 from rfl] at e
  rw [e, where_has, where_has]
  have e2 : hasR [(⟨14, 54⟩ : TRun)] i = (decide (14 ≤ i) && decide (i < 14 + 40)) := all_has (n := 40)
  rw [e2]
  show ((decide (14 ≤ i) && decide (i < 14 + 40) && !hasR h i) && !hasR k i) = (decide (14 ≤ i) && decide (i < 14 + 40) && !(hasR h i || (false || (false || hasR k i))))
  cases hasR h i <;> cases hasR k i <;> simp
end Go.Proofs.Ytgdaibdfjhchbaa


namespace Go.Proofs.Ytgdaibdfjhchbaa
open Go Go.Eng
set_option maxRecDepth 100000
theorem card40 {l : List TRun} (h : Nf l) (hw : Wn 14 40 l) : l.length ≤ 40 ∧ okB l ∧ 0 ≤ cntR l ∧ cntR l ≤ 40 := by
  have e := cntR_card h hw
  have h2 := List.length_filter_le (hasR l) (seg 14 40)
  rw [seg_len] at h2
  exact ⟨nf_len h hw, okB_of h hw (by omega) (by omega), by omega, by omega⟩
/-- What a group holds: of what was held, and of what was free. -/
def growH (s : TSpace) (x y f : List TRun) : List TRun := whereL .add (whereL .both x s.Held) (whereL .both y f)
theorem grow_nf {s : TSpace} {x y f : List TRun} : Nf (growH s x y f) := where_nf
theorem grow_wn {s : TSpace} (h : Sp s) {x y f : List TRun} (hx : Wn 14 40 x) (hy : Wn 14 40 y) (hf : Wn 14 40 f) : Wn 14 40 (growH s x y f) := where_wn (where_wn hx h.wh) (where_wn hy hf)
theorem grow_all {s : TSpace} (h : Sp s) {x y f g : List TRun} (hx : Wn 14 40 x) (hy : Wn 14 40 y) (hf : f = freeM 40 s) (hg : g = freeM 40 (turnM s (growH s x y f))) :
    cntR g = cntR f - cntR (whereL .both y f) + cntR (whereL .less s.Two s.Kept) ∧ whereL .both g (whereL .both y f) = [] ∧ whereL .less (whereL .less f (whereL .both y f)) g = [] := by
  have d40 : dataOk ((40 : Nat) : Int) = true := rfl
  have wf : Wn 14 40 f := hf ▸ h.fwn d40
  have nf : Nf f := hf ▸ free_nf
  have ht := h.turn grow_nf (grow_wn h hx hy wf)
  have ef : ∀ i, hasR f i = (decide (14 ≤ i) && decide (i < 54) && !inS s i) := fun i => hf ▸ h.free d40 i
  have eg : ∀ i, hasR g i = (decide (14 ≤ i) && decide (i < 54) && !(((hasR x i && hasR s.Held i) || (hasR y i && hasR f i)) || (hasR s.Held i || (hasR s.One i || hasR s.Kept i)))) := fun i => by
    have := ht.free d40 i
    rw [turn_in] at this
    have e2 : hasR (growH s x y f) i = ((hasR x i && hasR s.Held i) || (hasR y i && hasR f i)) := by
      rw [growH, where_has, where_has, where_has]; rfl
    rw [e2] at this
    exact hg ▸ this
  have d1 := h.d1
  have d2 := h.d2
  have d3 := h.d3
  have wt := h.wt
  have hin : ∀ i, hasR s.Two i = true → (decide (14 ≤ i) && decide (i < 54)) = true := fun i hi => by
    have := wt i hi
    rw [decide_eq_true (by omega), decide_eq_true (by omega)]; rfl
  have sum : whereL .add (whereL .less f (whereL .both y f)) (whereL .less s.Two s.Kept) = g := nf_ext where_nf (hg ▸ free_nf) fun i => by
    have a2 := d2 i
    have a3 := d3 i
    have a4 := hin i
    rw [where_has, where_has, where_has, where_has, eg, ef]
    simp only [How.op, inS]
    revert a2 a3 a4
    generalize (decide (14 ≤ i) && decide (i < 54)) = I
    cases I <;> cases hasR s.Held i <;> cases hasR s.One i <;> cases hasR s.Two i <;> cases hasR s.Kept i <;> cases hasR x i <;> cases hasR y i <;> simp
  have dis : whereL .both (whereL .less f (whereL .both y f)) (whereL .less s.Two s.Kept) = [] := where_nil.2 fun i => by
    rw [where_has, where_has, where_has, ef]
    simp only [How.op, inS]
    generalize (decide (14 ≤ i) && decide (i < 54)) = I
    cases I <;> cases hasR s.Held i <;> cases hasR s.One i <;> cases hasR s.Two i <;> cases hasR s.Kept i <;> cases hasR y i <;> simp
  have fm : whereL .both f (whereL .both y f) = whereL .both y f := nf_ext where_nf where_nf fun i => by
    rw [where_has, where_has]
    simp only [How.op]
    cases hasR f i <;> cases hasR y i <;> rfl
  have wm := where_wn (h := .both) hy wf
  have wl : Wn 14 40 (whereL .less f (whereL .both y f)) := less_wn wf
  have wk : Wn 14 40 (whereL .less s.Two s.Kept) := less_wn h.wt
  have c1 := cnt_two (l := whereL .less f (whereL .both y f)) (m := whereL .less s.Two s.Kept) where_nf where_nf wl wk
  have c2 := cnt_less (l := f) (m := whereL .both y f) nf wf wm
  rw [sum, dis] at c1
  rw [fm] at c2
  have c0 : cntR ([] : List TRun) = 0 := rfl
  refine ⟨by omega, where_nil.2 fun i => ?_, where_nil.2 fun i => ?_⟩
  · rw [where_has, eg, ef]
    simp only [How.op, inS]
    generalize (decide (14 ≤ i) && decide (i < 54)) = I
    cases I <;> cases hasR s.Held i <;> cases hasR s.One i <;> cases hasR s.Two i <;> cases hasR s.Kept i <;> cases hasR y i <;> simp
  · rw [where_has, where_has, eg, ef]
    simp only [How.op, inS]
    have a2 := d2 i
    have a3 := d3 i
    have a4 := hin i
    revert a2 a3 a4
    generalize (decide (14 ≤ i) && decide (i < 54)) = I
    cases I <;> cases hasR s.Held i <;> cases hasR s.One i <;> cases hasR s.Two i <;> cases hasR s.Kept i <;> cases hasR x i <;> cases hasR y i <;> simp
end Go.Proofs.Ytgdaibdfjhchbaa


namespace Go.Proofs.Ytgdaibdfjhchbaa
open Go Go.Eng
set_option maxRecDepth 100000
def turnsL (s : TSpace) (L : List (List TRun)) : Nat → TSpace
  | 0 => s
  | i + 1 => turnM (turnsL s L i) (L.getD i default)
theorem turnsL_kept {s : TSpace} {L : List (List TRun)} : ∀ i, (turnsL s L i).Kept = s.Kept
  | 0 => rfl
  | i + 1 => turnsL_kept i
theorem turnsL_sp {s : TSpace} {L : List (List TRun)} (h : Sp s) (hL : ∀ l ∈ L, Nf l ∧ Wn 14 40 l) : ∀ i, i ≤ L.length → Sp (turnsL s L i)
  | 0, _ => h
  | i + 1, hi => by
    have e : L.getD i default ∈ L := by
      rw [List.getD_eq_getElem?_getD, List.getElem?_eq_getElem (by omega)]; exact List.getElem_mem _
    exact (turnsL_sp h hL i (by omega)).turn (hL _ e).1 (hL _ e).2
/-- What groups held: the one ahead of the last one, the last one, those that follow. -/
def hist (s : TSpace) (L : List (List TRun)) (k : Nat) : List TRun := if k = 0 then s.One else if k = 1 then s.Held else L.getD (k - 2) default
theorem turnsL_held {s : TSpace} {L : List (List TRun)} : ∀ i, (turnsL s L i).Held = hist s L (i + 1)
  | 0 => rfl
  | _ + 1 => rfl
theorem turnsL_one {s : TSpace} {L : List (List TRun)} {a : Int} : ∀ i, ((hasR (turnsL s L i).Held a) || hasR (turnsL s L i).One a) = (hasR (hist s L (i + 1)) a || hasR (hist s L i) a)
  | 0 => rfl
  | i + 1 => by
    rw [turnsL_held]
    have e : hasR (turnsL s L (i + 1)).One a = (hasR (turnsL s L i).Held a && !hasR (L.getD i default) a) := where_has
    have e2 : hist s L (i + 1 + 1) = L.getD i default := rfl
    rw [e, turnsL_held, e2]
    cases hasR (L.getD i default) a <;> cases hasR (hist s L (i + 1)) a <;> rfl
theorem turns_in {s : TSpace} {L : List (List TRun)} {a : Int} (i : Nat) : inS (turnsL s L (i + 1)) a = (((hasR s.Kept a || hasR (hist s L i) a) || hasR (hist s L (i + 1)) a) || hasR (hist s L (i + 2)) a) := by
  have e : inS (turnsL s L (i + 1)) a = _ := turn_in
  have e1 := turnsL_one (s := s) (L := L) (a := a) i
  have e2 : hist s L (i + 2) = L.getD i default := rfl
  rw [e, turnsL_kept, e2]
  revert e1
  cases hasR (L.getD i default) a <;> cases hasR (turnsL s L i).Held a <;> cases hasR (turnsL s L i).One a <;> cases hasR s.Kept a <;> cases hasR (hist s L (i + 1)) a <;> cases hasR (hist s L i) a <;> simp
def ownK (s : TSpace) (L : List (List TRun)) (i : Nat) (a : Int) : Nat → Bool
  | 0 => hasR s.Kept a
  | j + 1 => ownK s L i a j || hasR (hist s L (i + j)) a
theorem turns_free {s : TSpace} {L : List (List TRun)} (h : Sp s) (hL : ∀ l ∈ L, Nf l ∧ Wn 14 40 l) {i : Nat} (hi : i < L.length) {a : Int} (h1 : 14 ≤ a) (h2 : a < 54) : hasR (freeM 40 (turnsL s L (i + 1))) a = !ownK s L i a 3 := by
  have e := (turnsL_sp h hL (i + 1) hi).free (n := 40) rfl a
  have e' : hasR (freeM 40 (turnsL s L (i + 1))) a = (decide (14 ≤ a) && decide (a < 54) && !inS (turnsL s L (i + 1)) a) := e
  rw [e', decide_eq_true h1, decide_eq_true h2, turns_in]
  rfl
/-- Groups that hold nothing. -/
def noneL (u : TSpace) : Nat → TSpace
  | 0 => u
  | i + 1 => turnM (noneL u i) []
theorem noneL_sp {u : TSpace} (h : Sp u) : ∀ i, Sp (noneL u i)
  | 0 => h
  | i + 1 => (noneL_sp h i).turn .nil wn_nil
theorem noneL_kept {u : TSpace} : ∀ i, (noneL u i).Kept = u.Kept
  | 0 => rfl
  | i + 1 => noneL_kept i
theorem both_free {u : TSpace} (h : Sp u) {A : List TRun} (hA : ∀ i, hasR A i = true → inS u i = true) : whereL .both (freeM 40 u) A = [] := where_nil.2 fun i => by
  have e := h.free (n := 40) rfl i
  have e' : hasR (freeM 40 u) i = (decide (14 ≤ i) && decide (i < 54) && !inS u i) := e
  show (hasR (freeM 40 u) i && hasR A i) = false
  rw [e']
  cases hi : hasR A i with
  | false => rw [Bool.and_false]
  | true => rw [hA i hi, Bool.not_true, Bool.and_false]; rfl
theorem noneL_held {u : TSpace} {A : List TRun} (hA : ∀ i, hasR A i = true → hasR u.Held i = true) {j : Nat} (hj : j < 3) (i : Int) (hi : hasR A i = true) : inS (noneL u j) i = true := by
  have h1 := hA i hi
  rcases (by omega : j = 0 ∨ j = 1 ∨ j = 2) with rfl | rfl | rfl
  · show (hasR u.Held i || _) = true
    rw [h1]; rfl
  · show inS (turnM u []) i = true
    rw [turn_in, h1]; simp
  · show inS (turnM (turnM u []) []) i = true
    have e : hasR (turnM u []).One i = true := by
      show hasR (whereL .less u.Held []) i = true
      rw [where_has, h1]; rfl
    rw [turn_in, e]; simp
theorem none_both {u : TSpace} (h : Sp u) {A : List TRun} (hA : ∀ i, hasR A i = true → hasR u.Held i = true) {j : Nat} (hj : j < 3) : whereL .both (freeM 40 (noneL u j)) A = [] :=
  both_free (noneL_sp h j) (noneL_held hA hj)
theorem none_cnt {u : TSpace} (h : Sp u) (hk : u.Kept = []) : cntR (freeM 40 (noneL u 3)) = 40 := by
  have hS := noneL_sp h 3
  have d40 : dataOk ((40 : Nat) : Int) = true := rfl
  have e : freeM 40 (noneL u 3) = [⟨14, 54⟩] := nf_ext free_nf (.one (by decide)) fun i => by
    have e1 : hasR (freeM 40 (noneL u 3)) i = (decide (14 ≤ i) && decide (i < 54) && !inS (noneL u 3) i) := hS.free d40 i
    have e2 : inS (noneL u 3) i = false := by
      have e3 : inS (noneL u 3) i = _ := turn_in
      rw [e3]
      have a1 : hasR (noneL u 2).Held i = false := rfl
      have a2 : hasR (noneL u 2).One i = false := by
        show hasR (whereL .less (noneL u 1).Held []) i = false
        rw [where_has]; rfl
      have a3 : (noneL u 2).Kept = [] := (noneL_kept 2).trans hk
      rw [a1, a2, a3]; rfl
    have e4 : hasR [(⟨14, 54⟩ : TRun)] i = (decide (14 ≤ i) && decide (i < 14 + 40)) := all_has (n := 40)
    rw [e1, e2, e4, Bool.not_false, Bool.and_true]; rfl
  rw [e]; rfl
theorem fold_free {t : TSpace} (h : Sp t) : freeM 40 (foldM t) = freeM 40 t := nf_ext free_nf free_nf fun i => by
  have e1 : hasR (freeM 40 (foldM t)) i = (decide (14 ≤ i) && decide (i < 54) && !inS (foldM t) i) := h.fold.free (n := 40) rfl i
  have e2 : hasR (freeM 40 t) i = (decide (14 ≤ i) && decide (i < 54) && !inS t i) := h.free (n := 40) rfl i
  rw [e1, e2]
  have e3 : inS (foldM t) i = inS t i := by
    simp only [inS, foldM, where_has, How.op]
    cases hasR t.Held i <;> cases hasR t.One i <;> cases hasR t.Two i <;> cases hasR t.Kept i <;> rfl
  rw [e3]
theorem lv_borrow1 {α : Type} [Cell α] {S : Store} {v : AV} {l : List α} (hv : LV S v l) : ∃ y ros, S.borrow1 v = some (y, ros) ∧ Cell.dec [y] = some l ∧ ∀ g cs ro, S.f g = some (.box cs ro) → g ∉ ros := by
  rcases hv with ⟨rfl, rfl⟩ | ⟨k, rfl, ro, h⟩
  · exact ⟨.nilS, [], rfl, rfl, fun _ _ _ _ h => by cases h⟩
  · refine ⟨sl l, [k], ?_, Cell.dec_enc l, fun g cs ro' hg hm => ?_⟩
    · simp only [Store.borrow1, h, sl]
      simp
      rw [List.take_of_length_le (by simp)]
    · have : g = k := by simpa using hm
      rw [this, h] at hg; cases hg
end Go.Proofs.Ytgdaibdfjhchbaa


namespace Go.Proofs.Ytgdaibdfjhchbaa
open Go Go.Eng
set_option maxRecDepth 100000
def fA : List TRun := [⟨14, 20⟩]
def fB : List TRun := [⟨18, 25⟩]
def fC : List TRun := [⟨30, 54⟩]
def fF : List TRun := [⟨25, 30⟩]
def bL : List TSpace := [⟨fA, fB, [], []⟩, ⟨fA, [], fB, []⟩, ⟨[], fA, fB, []⟩, ⟨[⟨13, 15⟩], [], [], []⟩, ⟨[], [⟨50, 55⟩], [], []⟩, ⟨[], [], [], [⟨20, 20⟩]⟩, ⟨[], [], [⟨54, 60⟩], []⟩]
theorem bad1 : ∀ q ∈ bL, okSp 40 q = false := by decide +kernel
theorem bad2 : ∀ q ∈ bL, q.Held.length ≤ 1000 ∧ q.One.length ≤ 1000 ∧ q.Two.length ≤ 1000 ∧ q.Kept.length ≤ 1000 := by decide
def f0S : TSpace := ⟨fA, [], fC, fB⟩
def f1S : TSpace := ⟨fC, fA, [], fB⟩
def f2S : TSpace := ⟨[⟨14, 25⟩], [], fC, []⟩
def f3S : TSpace := ⟨fA, [], fC, fA⟩
theorem sf0 : okSp 40 ⟨fA, [], fC, fB⟩ = true := by decide +kernel
theorem sf1 : freeM 40 ⟨fA, [], fC, fB⟩ = fF := by decide +kernel
theorem sf2 : turnM ⟨fA, [], fC, fB⟩ fC = f1S := by decide +kernel
theorem sf3 : foldM ⟨fA, [], fC, fB⟩ = f2S := by decide +kernel
theorem sf4 : keepM ⟨fA, [], fC, fB⟩ = f3S := by decide +kernel
theorem sf5 : okSp 40 f1S = true := by decide +kernel
theorem sf6 : okSp 241 ⟨fA, [], fC, fB⟩ = false := by decide +kernel
theorem sf7 : okSp 39 ⟨[], [], [], []⟩ = false := by decide +kernel
theorem sf8 : okSp 240 ⟨[], [], [], []⟩ = true := by decide +kernel
theorem sl0 : lenS ⟨fA, [], fC, fB⟩ := by unfold lenS; decide
theorem sl1 : lenS f1S := by unfold lenS; decide
theorem sl2 : lenS ⟨[], [], [], []⟩ := by unfold lenS; decide
def G_law10_SpaceForms_10 : GCode := .seq (.seq .weak (.region [⟨(some 61), none, .move (.tmp 1)⟩, ⟨(some 62), none, .move (.tmp 3)⟩, ⟨(some 63), none, .move (.tmp 2)⟩, ⟨(some 64), none, .build 26 #[(0, .tmp 61), (2, .tmp 62), (3, .tmp 63)]⟩, ⟨(some 6), none, .alloc 26⟩, ⟨none, none, .store 26 (.tmp 6) (.tmp 64)⟩])) (.seq (.seq .weak (.region [⟨(some 65), none, .load 26 (.tmp 6)⟩, ⟨(some 66), none, .call ⟨.value (.func 19), #[.const (.int .i64 40), .tmp 65], #[3, 26]⟩⟩, ⟨(some 7), none, .assign (.tmp 66)⟩])) (.seq (.seq .weak (.region [⟨(some 67), none, .load 26 (.tmp 6)⟩, ⟨(some 68), none, .move (.tmp 3)⟩, ⟨(some 69), none, .call ⟨.value (.func 22), #[.tmp 67, .tmp 68], #[26, 23]⟩⟩, ⟨(some 8), none, .alloc 26⟩, ⟨none, none, .store 26 (.tmp 8) (.tmp 69)⟩])) (.seq (.seq .weak (.region [⟨(some 70), none, .load 26 (.tmp 6)⟩, ⟨(some 71), none, .call ⟨.value (.func 15), #[.tmp 70], #[26]⟩⟩, ⟨(some 9), none, .alloc 26⟩, ⟨none, none, .store 26 (.tmp 9) (.tmp 71)⟩])) (.seq (.seq .weak (.region [⟨(some 72), none, .load 26 (.tmp 6)⟩, ⟨(some 73), none, .call ⟨.value (.func 14), #[.tmp 72], #[26]⟩⟩, ⟨(some 10), none, .alloc 26⟩, ⟨none, none, .store 26 (.tmp 10) (.tmp 73)⟩])) (.seq (.seq (.seq .weak (.region [⟨(some 74), none, .move (.tmp 7)⟩, ⟨(some 75), none, .call ⟨.builtin .len, #[.tmp 74], #[23]⟩⟩, ⟨(some 76), none, .binOp .neq 3 (.tmp 75) (.const (.int .i64 1)) 3⟩, ⟨(some 77), none, .move (.tmp 76)⟩, ⟨(some 78), (some (77, false)), .fieldAddr 26 (.tmp 8) 1⟩, ⟨(some 79), (some (77, false)), .load 23 (.tmp 78)⟩, ⟨(some 80), (some (77, false)), .call ⟨.builtin .len, #[.tmp 79], #[23]⟩⟩, ⟨(some 81), (some (77, false)), .binOp .neq 3 (.tmp 80) (.const (.int .i64 1)) 3⟩, ⟨(some 82), none, .pick (.tmp 77) (.const (.bool true)) (.tmp 81)⟩, ⟨(some 83), none, .move (.tmp 82)⟩, ⟨(some 84), (some (83, false)), .fieldAddr 26 (.tmp 9) 0⟩, ⟨(some 85), (some (83, false)), .load 23 (.tmp 84)⟩, ⟨(some 86), (some (83, false)), .call ⟨.builtin .len, #[.tmp 85], #[23]⟩⟩, ⟨(some 87), (some (83, false)), .binOp .neq 3 (.tmp 86) (.const (.int .i64 1)) 3⟩, ⟨(some 88), none, .pick (.tmp 83) (.const (.bool true)) (.tmp 87)⟩])) (.cond (.tmp 88) (.seq (.region [⟨(some 0), none, .assign (.const (.bool false))⟩]) (.ret)) (.skip))) (.seq (.seq .weak (.region [⟨(some 89), none, .load 26 (.tmp 6)⟩, ⟨(some 90), none, .call ⟨.value (.func 16), #[.const (.int .i64 40), .tmp 89], #[3, 26]⟩⟩, ⟨(some 91), none, .move (.tmp 90)⟩, ⟨(some 92), (some (91, true)), .move (.tmp 7)⟩, ⟨(some 93), (some (91, true)), .indexAddr 23 (.tmp 92) (.const (.int .i64 0))⟩, ⟨(some 94), (some (91, true)), .load 48 (.tmp 93)⟩, ⟨(some 95), (some (91, true)), .build 48 #[(0, .const (.int .i64 25)), (1, .const (.int .i64 30))]⟩, ⟨(some 96), (some (91, true)), .binOp .eql 48 (.tmp 94) (.tmp 95) 48⟩, ⟨(some 97), none, .pick (.tmp 91) (.tmp 96) (.const (.bool false))⟩, ⟨(some 98), none, .move (.tmp 97)⟩, ⟨(some 99), (some (98, true)), .load 26 (.tmp 8)⟩, ⟨(some 100), (some (98, true)), .call ⟨.value (.func 16), #[.const (.int .i64 40), .tmp 99], #[3, 26]⟩⟩, ⟨(some 101), none, .pick (.tmp 98) (.tmp 100) (.const (.bool false))⟩, ⟨(some 102), none, .move (.tmp 101)⟩, ⟨(some 103), (some (102, true)), .fieldAddr 26 (.tmp 8) 0⟩, ⟨(some 104), (some (102, true)), .load 23 (.tmp 103)⟩, ⟨(some 105), (some (102, true)), .move (.tmp 3)⟩, ⟨(some 106), (some (102, true)), .call ⟨.value (.func 18), #[.tmp 104, .tmp 105], #[23, 23]⟩⟩, ⟨(some 107), none, .pick (.tmp 102) (.tmp 106) (.const (.bool false))⟩, ⟨(some 108), none, .move (.tmp 107)⟩, ⟨(some 109), (some (108, true)), .fieldAddr 26 (.tmp 8) 1⟩, ⟨(some 110), (some (108, true)), .load 23 (.tmp 109)⟩, ⟨(some 111), (some (108, true)), .move (.tmp 1)⟩, ⟨(some 112), (some (108, true)), .call ⟨.value (.func 18), #[.tmp 110, .tmp 111], #[23, 23]⟩⟩, ⟨(some 113), none, .pick (.tmp 108) (.tmp 112) (.const (.bool false))⟩, ⟨(some 114), none, .move (.tmp 113)⟩, ⟨(some 115), (some (114, true)), .fieldAddr 26 (.tmp 8) 2⟩, ⟨(some 116), (some (114, true)), .load 23 (.tmp 115)⟩, ⟨(some 117), (some (114, true)), .call ⟨.builtin .len, #[.tmp 116], #[23]⟩⟩, ⟨(some 118), (some (114, true)), .binOp .eql 3 (.tmp 117) (.const (.int .i64 0)) 3⟩, ⟨(some 119), none, .pick (.tmp 114) (.tmp 118) (.const (.bool false))⟩, ⟨(some 120), none, .move (.tmp 119)⟩, ⟨(some 121), (some (120, true)), .fieldAddr 26 (.tmp 8) 3⟩, ⟨(some 122), (some (120, true)), .load 23 (.tmp 121)⟩, ⟨(some 123), (some (120, true)), .move (.tmp 2)⟩, ⟨(some 124), (some (120, true)), .call ⟨.value (.func 18), #[.tmp 122, .tmp 123], #[23, 23]⟩⟩, ⟨(some 125), none, .pick (.tmp 120) (.tmp 124) (.const (.bool false))⟩, ⟨(some 126), none, .move (.tmp 125)⟩, ⟨(some 127), (some (126, true)), .fieldAddr 26 (.tmp 9) 0⟩, ⟨(some 128), (some (126, true)), .load 23 (.tmp 127)⟩, ⟨(some 129), (some (126, true)), .indexAddr 23 (.tmp 128) (.const (.int .i64 0))⟩, ⟨(some 130), (some (126, true)), .load 48 (.tmp 129)⟩, ⟨(some 131), (some (126, true)), .build 48 #[(0, .const (.int .i64 14)), (1, .const (.int .i64 25))]⟩, ⟨(some 132), (some (126, true)), .binOp .eql 48 (.tmp 130) (.tmp 131) 48⟩, ⟨(some 133), none, .pick (.tmp 126) (.tmp 132) (.const (.bool false))⟩, ⟨(some 134), none, .move (.tmp 133)⟩, ⟨(some 135), (some (134, true)), .fieldAddr 26 (.tmp 9) 2⟩, ⟨(some 136), (some (134, true)), .load 23 (.tmp 135)⟩, ⟨(some 137), (some (134, true)), .move (.tmp 3)⟩, ⟨(some 138), (some (134, true)), .call ⟨.value (.func 18), #[.tmp 136, .tmp 137], #[23, 23]⟩⟩, ⟨(some 139), none, .pick (.tmp 134) (.tmp 138) (.const (.bool false))⟩, ⟨(some 140), none, .move (.tmp 139)⟩, ⟨(some 141), (some (140, true)), .fieldAddr 26 (.tmp 9) 3⟩, ⟨(some 142), (some (140, true)), .load 23 (.tmp 141)⟩, ⟨(some 143), (some (140, true)), .call ⟨.builtin .len, #[.tmp 142], #[23]⟩⟩, ⟨(some 144), (some (140, true)), .binOp .eql 3 (.tmp 143) (.const (.int .i64 0)) 3⟩, ⟨(some 145), none, .pick (.tmp 140) (.tmp 144) (.const (.bool false))⟩, ⟨(some 146), none, .move (.tmp 145)⟩, ⟨(some 147), (some (146, true)), .fieldAddr 26 (.tmp 10) 3⟩, ⟨(some 148), (some (146, true)), .load 23 (.tmp 147)⟩, ⟨(some 149), (some (146, true)), .move (.tmp 1)⟩, ⟨(some 150), (some (146, true)), .call ⟨.value (.func 18), #[.tmp 148, .tmp 149], #[23, 23]⟩⟩, ⟨(some 151), none, .pick (.tmp 146) (.tmp 150) (.const (.bool false))⟩, ⟨(some 152), none, .move (.tmp 151)⟩, ⟨(some 153), (some (152, true)), .load 26 (.tmp 6)⟩, ⟨(some 154), (some (152, true)), .call ⟨.value (.func 16), #[.const (.int .i64 241), .tmp 153], #[3, 26]⟩⟩, ⟨(some 155), (some (152, true)), .unOp .not 4 (.tmp 154)⟩, ⟨(some 156), none, .pick (.tmp 152) (.tmp 155) (.const (.bool false))⟩, ⟨(some 157), none, .move (.tmp 156)⟩, ⟨(some 158), (some (157, true)), .build 26 #[]⟩, ⟨(some 159), (some (157, true)), .call ⟨.value (.func 16), #[.const (.int .i64 39), .tmp 158], #[3, 26]⟩⟩, ⟨(some 160), (some (157, true)), .unOp .not 4 (.tmp 159)⟩, ⟨(some 161), none, .pick (.tmp 157) (.tmp 160) (.const (.bool false))⟩, ⟨(some 162), none, .move (.tmp 161)⟩, ⟨(some 163), (some (162, true)), .build 26 #[]⟩, ⟨(some 164), (some (162, true)), .call ⟨.value (.func 16), #[.const (.int .i64 240), .tmp 163], #[3, 26]⟩⟩, ⟨(some 165), none, .pick (.tmp 162) (.tmp 164) (.const (.bool false))⟩, ⟨(some 0), none, .assign (.tmp 165)⟩])) (.ret)))))))
def G_law10_SpaceForms_5 : GCode := .seq (.seq (.seq .weak (.region [⟨(some 5), none, .assign (.const (.int .i64 0))⟩])) (.block 0 (.loop (.seq .weak (.seq (.seq (.region [⟨(some 41), none, .move (.tmp 5)⟩, ⟨(some 42), none, .move (.tmp 4)⟩, ⟨(some 43), none, .call ⟨.builtin .len, #[.tmp 42], #[32]⟩⟩, ⟨(some 44), none, .binOp .lss 3 (.tmp 41) (.tmp 43) 3⟩]) (.cond (.tmp 44) (.skip) (.exit 0))) (.seq (.block 1 (.seq (.seq .weak (.region [⟨(some 47), none, .move (.tmp 4)⟩, ⟨(some 48), none, .move (.tmp 5)⟩, ⟨(some 49), none, .indexAddr 32 (.tmp 47) (.tmp 48)⟩, ⟨(some 50), none, .load 26 (.tmp 49)⟩, ⟨(some 51), none, .call ⟨.value (.func 16), #[.const (.int .i64 40), .tmp 50], #[3, 26]⟩⟩, ⟨(some 52), none, .move (.tmp 51)⟩, ⟨(some 53), (some (52, false)), .move (.tmp 4)⟩, ⟨(some 54), (some (52, false)), .move (.tmp 5)⟩, ⟨(some 55), (some (52, false)), .indexAddr 32 (.tmp 53) (.tmp 54)⟩, ⟨(some 56), (some (52, false)), .load 26 (.tmp 55)⟩, ⟨(some 57), (some (52, false)), .call ⟨.value (.func 19), #[.const (.int .i64 40), .tmp 56], #[3, 26]⟩⟩, ⟨(some 58), (some (52, false)), .call ⟨.builtin .len, #[.tmp 57], #[23]⟩⟩, ⟨(some 59), (some (52, false)), .binOp .gtr 3 (.tmp 58) (.const (.int .i64 0)) 3⟩, ⟨(some 60), none, .pick (.tmp 52) (.const (.bool true)) (.tmp 59)⟩])) (.cond (.tmp 60) (.seq (.region [⟨(some 0), none, .assign (.const (.bool false))⟩]) (.ret)) (.skip)))) (.region [⟨(some 45), none, .move (.tmp 5)⟩, ⟨(some 46), none, .binOp .add 3 (.tmp 45) (.const (.int .i64 1)) 3⟩, ⟨(some 5), none, .assign (.tmp 46)⟩]))))))) (G_law10_SpaceForms_10)
def G_law10_SpaceForms : GCode := .seq (.region [⟨(some 0), none, .assign (.const (.bool false))⟩]) (.seq (.seq (.region [⟨(some 11), none, .call ⟨.value (.func 10), #[], #[]⟩⟩, ⟨(some 12), none, .unOp .not 4 (.tmp 11)⟩]) (.cond (.tmp 12) (.seq (.region [⟨(some 0), none, .assign (.const (.bool false))⟩]) (.ret)) (.skip))) (.seq (.region [⟨(some 13), none, .build 48 #[(0, .const (.int .i64 14)), (1, .const (.int .i64 20))]⟩, ⟨(some 14), none, .buildSlice 23 1 #[(0, .tmp 13)]⟩, ⟨(some 15), none, .build 48 #[(0, .const (.int .i64 18)), (1, .const (.int .i64 25))]⟩, ⟨(some 16), none, .buildSlice 23 1 #[(0, .tmp 15)]⟩, ⟨(some 17), none, .build 48 #[(0, .const (.int .i64 30)), (1, .const (.int .i64 54))]⟩, ⟨(some 18), none, .buildSlice 23 1 #[(0, .tmp 17)]⟩, ⟨(some 1), none, .assign (.tmp 14)⟩, ⟨(some 2), none, .assign (.tmp 16)⟩, ⟨(some 3), none, .assign (.tmp 18)⟩]) (.seq (.seq .weak (.region [⟨(some 19), none, .move (.tmp 1)⟩, ⟨(some 20), none, .move (.tmp 2)⟩, ⟨(some 21), none, .build 26 #[(0, .tmp 19), (1, .tmp 20)]⟩, ⟨(some 22), none, .move (.tmp 1)⟩, ⟨(some 23), none, .move (.tmp 2)⟩, ⟨(some 24), none, .build 26 #[(0, .tmp 22), (2, .tmp 23)]⟩, ⟨(some 25), none, .move (.tmp 1)⟩, ⟨(some 26), none, .move (.tmp 2)⟩, ⟨(some 27), none, .build 26 #[(1, .tmp 25), (2, .tmp 26)]⟩, ⟨(some 28), none, .build 48 #[(0, .const (.int .i64 13)), (1, .const (.int .i64 15))]⟩, ⟨(some 29), none, .buildSlice 23 1 #[(0, .tmp 28)]⟩, ⟨(some 30), none, .build 26 #[(0, .tmp 29)]⟩, ⟨(some 31), none, .build 48 #[(0, .const (.int .i64 50)), (1, .const (.int .i64 55))]⟩, ⟨(some 32), none, .buildSlice 23 1 #[(0, .tmp 31)]⟩, ⟨(some 33), none, .build 26 #[(1, .tmp 32)]⟩, ⟨(some 34), none, .build 48 #[(0, .const (.int .i64 20)), (1, .const (.int .i64 20))]⟩, ⟨(some 35), none, .buildSlice 23 1 #[(0, .tmp 34)]⟩, ⟨(some 36), none, .build 26 #[(3, .tmp 35)]⟩, ⟨(some 37), none, .build 48 #[(0, .const (.int .i64 54)), (1, .const (.int .i64 60))]⟩, ⟨(some 38), none, .buildSlice 23 1 #[(0, .tmp 37)]⟩, ⟨(some 39), none, .build 26 #[(2, .tmp 38)]⟩, ⟨(some 40), none, .buildSlice 32 7 #[(0, .tmp 21), (1, .tmp 24), (2, .tmp 27), (3, .tmp 30), (4, .tmp 33), (5, .tmp 36), (6, .tmp 39)]⟩, ⟨(some 4), none, .assign (.tmp 40)⟩])) (G_law10_SpaceForms_5))))
noncomputable def l_law10_SpaceForms : List (Nat × Con) := [(10, c_law10_begun), (16, c_space_May), (19, c_space_Free), (22, c_space_Turn), (15, c_space_Fold), (14, c_space_Keep), (18, c_ref8_Same)]
noncomputable abbrev K_law10_SpaceForms : Ctx := ctx (cl l_law10_SpaceForms)
theorem geq_law10_SpaceForms : gof K_law10_SpaceForms Try.f9 = some G_law10_SpaceForms.strip := by kernel_rfl
theorem sys_law10_SpaceForms : Go.Eng.Sys Try.prog K_law10_SpaceForms := sys_of' ⟨ok_law10_begun, ok_space_May, ok_space_Free, ok_space_Turn, ok_space_Fold, ok_space_Keep, ok_ref8_Same, trivial⟩
theorem hm_law10_SpaceForms : ConMono K_law10_SpaceForms := conMono_of sys_law10_SpaceForms.con
noncomputable def k_law10_SpaceForms_law10_begun := PLift.up (call_scal (C := K_law10_SpaceForms) (f := 10) (A := A_law10_begun) (p := p_law10_begun) (r := r_law10_begun) rfl)
noncomputable def k_law10_SpaceForms_space_May := PLift.up (call_scal (C := K_law10_SpaceForms) (f := 16) (A := A_space_May) (p := p_space_May) (r := r_space_May) rfl)
noncomputable def k_law10_SpaceForms_space_Free := PLift.up (call_fn (C := K_law10_SpaceForms) (f := 19) (A := A_space_Free) (p := p_space_Free) (r := r_space_Free) rfl)
noncomputable def k_law10_SpaceForms_space_Turn := PLift.up (call_fn (C := K_law10_SpaceForms) (f := 22) (A := A_space_Turn) (p := p_space_Turn) (r := r_space_Turn) rfl)
noncomputable def k_law10_SpaceForms_space_Fold := PLift.up (call_fn (C := K_law10_SpaceForms) (f := 15) (A := A_space_Fold) (p := p_space_Fold) (r := r_space_Fold) rfl)
noncomputable def k_law10_SpaceForms_space_Keep := PLift.up (call_fn (C := K_law10_SpaceForms) (f := 14) (A := A_space_Keep) (p := p_space_Keep) (r := r_space_Keep) rfl)
noncomputable def k_law10_SpaceForms_ref8_Same := PLift.up (call_scal (C := K_law10_SpaceForms) (f := 18) (A := A_ref8_Same) (p := p_ref8_Same) (r := r_ref8_Same) rfl)
set_option maxHeartbeats 4000000 in
theorem forms_10 {σ : St} (hσ : Wk σ (mkS [(1, .t (sl fA)), (2, .t (sl fB)), (3, .t (sl fC))] .empty)) :
    avp K_law10_SpaceForms G_law10_SpaceForms_10 (Ret K_law10_SpaceForms [.tmp 0] fun v _ => v = .t (.bool true)) σ := by
  unfold G_law10_SpaceForms_10
  simp only [avp_seq]
  refine ⟨_, hσ, ?_⟩
  simp only [vP.down, vS.down, vE.down, Nat.reduceEqDiff, Nat.reduceAdd, Nat.reduceSub, Nat.reduceMul, Nat.reduceLeDiff, Nat.reduceLT, Int.reduceToNat, reduceIte, reduceCtorEq, Int.reduceEq, Int.reduceLT, Int.reduceLE, ↓avp_condG, ↓tf_arrow, ↓ft_arrow]
  intro g6 hg6
  refine weak_at [(1, .t (sl fA)), (2, .t (sl fB)), (3, .t (sl fC)), (6, .imm [sl fA, .nilS, sl fC, sl fB])] .empty fewer_empty (by
    simp only [vP.down, vS.down, vE.down, Nat.reduceEqDiff, Nat.reduceAdd, Nat.reduceSub, Nat.reduceMul, Nat.reduceLeDiff, Nat.reduceLT, Int.reduceToNat, reduceIte, reduceCtorEq, Int.reduceEq, Int.reduceLT, Int.reduceLE, ↓avp_condG, ↓tf_arrow, ↓ft_arrow, wP.down]
    exact w2_imm (l := [sl fA, .nilS, sl fC, sl fB]) (ro := false) (Store.set_same _ _ _) rfl) ?_
  simp only [vP.down, vS.down, vE.down, Nat.reduceEqDiff, Nat.reduceAdd, Nat.reduceSub, Nat.reduceMul, Nat.reduceLeDiff, Nat.reduceLT, Int.reduceToNat, reduceIte, reduceCtorEq, Int.reduceEq, Int.reduceLT, Int.reduceLE, ↓avp_condG, ↓tf_arrow, ↓ft_arrow, sl0, sf1, k_law10_SpaceForms_space_Free.down, A_space_Free, p_space_Free, r_space_Free]
  refine weak_at [(1, .t (sl fA)), (2, .t (sl fB)), (3, .t (sl fC)), (6, .imm [sl fA, .nilS, sl fC, sl fB]), (7, .t (sl fF))] .empty fewer_refl (by simp only [vP.down, vS.down, vE.down, Nat.reduceEqDiff, Nat.reduceAdd, Nat.reduceSub, Nat.reduceMul, Nat.reduceLeDiff, Nat.reduceLT, Int.reduceToNat, reduceIte, reduceCtorEq, Int.reduceEq, Int.reduceLT, Int.reduceLE, ↓avp_condG, ↓tf_arrow, ↓ft_arrow, wP.down]) ?_
  have lC : fC.length ≤ 1000 := by decide
  simp only [vP.down, vS.down, vE.down, Nat.reduceEqDiff, Nat.reduceAdd, Nat.reduceSub, Nat.reduceMul, Nat.reduceLeDiff, Nat.reduceLT, Int.reduceToNat, reduceIte, reduceCtorEq, Int.reduceEq, Int.reduceLT, Int.reduceLE, ↓avp_condG, ↓tf_arrow, ↓ft_arrow, sl0, sf2, lC, spC, k_law10_SpaceForms_space_Turn.down, A_space_Turn, p_space_Turn, r_space_Turn]
  intro g8 hg8
  refine weak_at [(1, .t (sl fA)), (2, .t (sl fB)), (3, .t (sl fC)), (6, .imm [sl fA, .nilS, sl fC, sl fB]), (7, .t (sl fF)), (8, .imm (spC f1S))] .empty fewer_empty (by
    simp only [vP.down, vS.down, vE.down, Nat.reduceEqDiff, Nat.reduceAdd, Nat.reduceSub, Nat.reduceMul, Nat.reduceLeDiff, Nat.reduceLT, Int.reduceToNat, reduceIte, reduceCtorEq, Int.reduceEq, Int.reduceLT, Int.reduceLE, ↓avp_condG, ↓tf_arrow, ↓ft_arrow, wP.down]
    exact w2_imm (l := spC f1S) (ro := false) (Store.set_same _ _ _) rfl) ?_
  simp only [vP.down, vS.down, vE.down, Nat.reduceEqDiff, Nat.reduceAdd, Nat.reduceSub, Nat.reduceMul, Nat.reduceLeDiff, Nat.reduceLT, Int.reduceToNat, reduceIte, reduceCtorEq, Int.reduceEq, Int.reduceLT, Int.reduceLE, ↓avp_condG, ↓tf_arrow, ↓ft_arrow, sl0, sf3, spC, k_law10_SpaceForms_space_Fold.down, A_space_Fold, p_space_Fold, r_space_Fold]
  intro g9 hg9
  refine weak_at [(1, .t (sl fA)), (2, .t (sl fB)), (3, .t (sl fC)), (6, .imm [sl fA, .nilS, sl fC, sl fB]), (7, .t (sl fF)), (8, .imm (spC f1S)), (9, .imm (spC f2S))] .empty fewer_empty (by
    simp only [vP.down, vS.down, vE.down, Nat.reduceEqDiff, Nat.reduceAdd, Nat.reduceSub, Nat.reduceMul, Nat.reduceLeDiff, Nat.reduceLT, Int.reduceToNat, reduceIte, reduceCtorEq, Int.reduceEq, Int.reduceLT, Int.reduceLE, ↓avp_condG, ↓tf_arrow, ↓ft_arrow, wP.down, spC]
    exact w2_imm (l := spC f2S) (ro := false) (Store.set_same _ _ _) rfl) ?_
  simp only [vP.down, vS.down, vE.down, Nat.reduceEqDiff, Nat.reduceAdd, Nat.reduceSub, Nat.reduceMul, Nat.reduceLeDiff, Nat.reduceLT, Int.reduceToNat, reduceIte, reduceCtorEq, Int.reduceEq, Int.reduceLT, Int.reduceLE, ↓avp_condG, ↓tf_arrow, ↓ft_arrow, sl0, sf4, spC, k_law10_SpaceForms_space_Keep.down, A_space_Keep, p_space_Keep, r_space_Keep]
  intro g10 hg10
  refine weak_at [(1, .t (sl fA)), (2, .t (sl fB)), (3, .t (sl fC)), (6, .imm [sl fA, .nilS, sl fC, sl fB]), (7, .t (sl fF)), (8, .imm (spC f1S)), (9, .imm (spC f2S)), (10, .imm (spC f3S))] .empty fewer_empty (by
    simp only [vP.down, vS.down, vE.down, Nat.reduceEqDiff, Nat.reduceAdd, Nat.reduceSub, Nat.reduceMul, Nat.reduceLeDiff, Nat.reduceLT, Int.reduceToNat, reduceIte, reduceCtorEq, Int.reduceEq, Int.reduceLT, Int.reduceLE, ↓avp_condG, ↓tf_arrow, ↓ft_arrow, wP.down, spC]
    exact w2_imm (l := spC f3S) (ro := false) (Store.set_same _ _ _) rfl) ?_
  have e1 : fF.length = 1 := rfl
  have e2 : f1S.One.length = 1 := rfl
  have e3 : f2S.Held.length = 1 := rfl
  simp only [vP.down, vS.down, vE.down, Nat.reduceEqDiff, Nat.reduceAdd, Nat.reduceSub, Nat.reduceMul, Nat.reduceLeDiff, Nat.reduceLT, Int.reduceToNat, reduceIte, reduceCtorEq, Int.reduceEq, Int.reduceLT, Int.reduceLE, ↓avp_condG, ↓tf_arrow, ↓ft_arrow, spC, e1, e2, e3, bne_self_eq_false, pick_of, pick_ot]
  refine weak_at [(1, .t (sl fA)), (2, .t (sl fB)), (3, .t (sl fC)), (6, .imm [sl fA, .nilS, sl fC, sl fB]), (7, .t (sl fF)), (8, .imm (spC f1S)), (9, .imm (spC f2S)), (10, .imm (spC f3S))] .empty fewer_refl (by simp only [vP.down, vS.down, vE.down, Nat.reduceEqDiff, Nat.reduceAdd, Nat.reduceSub, Nat.reduceMul, Nat.reduceLeDiff, Nat.reduceLT, Int.reduceToNat, reduceIte, reduceCtorEq, Int.reduceEq, Int.reduceLT, Int.reduceLE, ↓avp_condG, ↓tf_arrow, ↓ft_arrow, wP.down, spC]) ?_
  have x0 : idxB K_law10_SpaceForms 23 (.t (sl fF)) (.t (.int .i64 0)) = .val True (.imm [.int .i64 25, .int .i64 30]) := idx_at (l := fF) (i := 0) ty_Lapi_Run ty_api_Run rfl (by decide) .i64
  have x1 : idxB K_law10_SpaceForms 23 (.t (sl f2S.Held)) (.t (.int .i64 0)) = .val True (.imm [.int .i64 14, .int .i64 25]) := idx_at (l := f2S.Held) (i := 0) ty_Lapi_Run ty_api_Run rfl (by decide) .i64
  have n1 : decide (f1S.Held = fC) = true := by decide
  have n2 : decide (f1S.One = fA) = true := by decide
  have n3 : (f1S.Two.length : Int) = 0 := rfl
  have n4 : decide (f1S.Kept = fB) = true := by decide
  have n5 : decide (f2S.Two = fC) = true := by decide
  have n6 : (f2S.Kept.length : Int) = 0 := rfl
  have n7 : decide (f3S.Kept = fA) = true := by decide
  have m1 : f1S.Held.length < 4611686018427387904 := by decide
  have m2 : f1S.One.length < 4611686018427387904 := by decide
  have m4 : f1S.Kept.length < 4611686018427387904 := by decide
  have m5 : f2S.Two.length < 4611686018427387904 := by decide
  have m7 : f3S.Kept.length < 4611686018427387904 := by decide
  simp only [vP.down, vS.down, vE.down, Nat.reduceEqDiff, Nat.reduceAdd, Nat.reduceSub, Nat.reduceMul, Nat.reduceLeDiff, Nat.reduceLT, Int.reduceToNat, reduceIte, reduceCtorEq, Int.reduceEq, Int.reduceLT, Int.reduceLE, ↓avp_condG, ↓tf_arrow, ↓ft_arrow, spC, x0, x1, n1, n2, n3, n4, n5, n6, n7, m1, m2, m4, m5, m7, sl0, sl1, sl2, sf0, sf5, sf6, sf7, sf8, pick_of, pick_ot, k_law10_SpaceForms_space_May.down, A_space_May, p_space_May, r_space_May, k_law10_SpaceForms_ref8_Same.down, A_ref8_Same, p_ref8_Same, r_ref8_Same]
  simp only [vP.down, vS.down, vE.down, Nat.reduceEqDiff, Nat.reduceAdd, Nat.reduceSub, Nat.reduceMul, Nat.reduceLeDiff, Nat.reduceLT, Int.reduceToNat, reduceIte, reduceCtorEq, Int.reduceEq, Int.reduceLT, Int.reduceLE, ↓avp_condG, ↓tf_arrow, ↓ft_arrow, vT.down]
set_option maxHeartbeats 4000000 in
theorem forms_5 {σ : St} (hσ : Wk σ (mkS [(1, .t (sl fA)), (2, .t (sl fB)), (3, .t (sl fC)), (4, .t (sl bL))] .empty)) :
    avp K_law10_SpaceForms G_law10_SpaceForms_5 (Ret K_law10_SpaceForms [.tmp 0] fun v _ => v = .t (.bool true)) σ := by
  unfold G_law10_SpaceForms_5
  simp only [avp_seq]
  refine ⟨_, hσ, ?_⟩
  have hb : bL.length = 7 := rfl
  simp only [vP.down, vS.down, vE.down, Nat.reduceEqDiff, Nat.reduceAdd, Nat.reduceSub, Nat.reduceMul, Nat.reduceLeDiff, Nat.reduceLT, Int.reduceToNat, reduceIte, reduceCtorEq, Int.reduceEq, Int.reduceLT, Int.reduceLE, ↓avp_condG, ↓tf_arrow, ↓ft_arrow]
  refine loop_weak hm_law10_SpaceForms (fun m σ => ∃ i : Nat, m = 7 - i ∧ i ≤ 7 ∧ σ = mkS [(1, .t (sl fA)), (2, .t (sl fB)), (3, .t (sl fC)), (4, .t (sl bL)), (5, .t (.int .i64 (i : Nat)))] .empty) ⟨0, rfl, by omega, rfl⟩ (wk_to fewer_refl (by simp only [vP.down, vS.down, vE.down, Nat.reduceEqDiff, Nat.reduceAdd, Nat.reduceSub, Nat.reduceMul, Nat.reduceLeDiff, Nat.reduceLT, Int.reduceToNat, reduceIte, reduceCtorEq, Int.reduceEq, Int.reduceLT, Int.reduceLE, ↓avp_condG, ↓tf_arrow, ↓ft_arrow, wP.down, Int.natCast_zero])) ?_
  rintro m _ ⟨i, rfl, hi, rfl⟩
  have hi1 : IntKind.i64.wrap ((i : Int) + 1) = ((i + 1 : Nat) : Int) := by rw [IntWalk.i64_in _ (by omega)]; rfl
  by_cases hlt : i < 7
  case neg =>
    obtain rfl : i = 7 := by omega
    have hge : ¬ ((7 : Int) < 7) := by omega
    simp only [vP.down, vS.down, vE.down, Nat.reduceEqDiff, Nat.reduceAdd, Nat.reduceSub, Nat.reduceMul, Nat.reduceLeDiff, Nat.reduceLT, Int.reduceToNat, reduceIte, reduceCtorEq, Int.reduceEq, Int.reduceLT, Int.reduceLE, ↓avp_condG, ↓tf_arrow, ↓ft_arrow, hb, hge, show ((7 : Nat) : Int) = 7 from rfl]
    exact forms_10 (wk_to fewer_refl (by simp only [vP.down, vS.down, vE.down, Nat.reduceEqDiff, Nat.reduceAdd, Nat.reduceSub, Nat.reduceMul, Nat.reduceLeDiff, Nat.reduceLT, Int.reduceToNat, reduceIte, reduceCtorEq, Int.reduceEq, Int.reduceLT, Int.reduceLE, ↓avp_condG, ↓tf_arrow, ↓ft_arrow, wP.down]))
  have hlt' : (i : Int) < 7 := by omega
  have x0 := idx_at (C := K_law10_SpaceForms) (l := bL) (i := i) ty_Lapi_Space ty_api_Space rfl (by omega) .i64
  have hmem : bL.getD i default ∈ bL := by
    rw [List.getD_eq_getElem?_getD, List.getElem?_eq_getElem (by omega)]; exact List.getElem_mem _
  have e1 := bad1 _ hmem
  have e2 : lenS (bL.getD i default) := bad2 _ hmem
  have e3 : freeM 40 (bL.getD i default) = [] := by rw [freeM, e1]; rfl
  obtain ⟨q, hq⟩ : ∃ q, q = bL.getD i default := ⟨_, rfl⟩
  rw [← hq] at x0 e1 e2 e3
  have n0 : (([] : List TRun).length : Int) = 0 := rfl
  simp only [vP.down, vS.down, vE.down, Nat.reduceEqDiff, Nat.reduceAdd, Nat.reduceSub, Nat.reduceMul, Nat.reduceLeDiff, Nat.reduceLT, Int.reduceToNat, reduceIte, reduceCtorEq, Int.reduceEq, Int.reduceLT, Int.reduceLE, ↓avp_condG, ↓tf_arrow, ↓ft_arrow, hb, show ((7 : Nat) : Int) = 7 from rfl, hlt']
  refine weak_at [(1, .t (sl fA)), (2, .t (sl fB)), (3, .t (sl fC)), (4, .t (sl bL)), (5, .t (.int .i64 (i : Nat)))] .empty fewer_refl (by simp only [vP.down, vS.down, vE.down, Nat.reduceEqDiff, Nat.reduceAdd, Nat.reduceSub, Nat.reduceMul, Nat.reduceLeDiff, Nat.reduceLT, Int.reduceToNat, reduceIte, reduceCtorEq, Int.reduceEq, Int.reduceLT, Int.reduceLE, ↓avp_condG, ↓tf_arrow, ↓ft_arrow, wP.down]) ?_
  simp only [vP.down, vS.down, vE.down, Nat.reduceEqDiff, Nat.reduceAdd, Nat.reduceSub, Nat.reduceMul, Nat.reduceLeDiff, Nat.reduceLT, Int.reduceToNat, reduceIte, reduceCtorEq, Int.reduceEq, Int.reduceLT, Int.reduceLE, ↓avp_condG, ↓tf_arrow, ↓ft_arrow, x0, e1, e2, e3, n0, gt_iff_lt, pick_of, pick_ot, false_implies, k_law10_SpaceForms_space_May.down, A_space_May, p_space_May, r_space_May, k_law10_SpaceForms_space_Free.down, A_space_Free, p_space_Free, r_space_Free]
  exact round_to (7 - (i + 1)) [(1, .t (sl fA)), (2, .t (sl fB)), (3, .t (sl fC)), (4, .t (sl bL)), (5, .t (.int .i64 (i + 1 : Nat)))] .empty (by omega) fewer_refl (by simp only [vP.down, vS.down, vE.down, Nat.reduceEqDiff, Nat.reduceAdd, Nat.reduceSub, Nat.reduceMul, Nat.reduceLeDiff, Nat.reduceLT, Int.reduceToNat, reduceIte, reduceCtorEq, Int.reduceEq, Int.reduceLT, Int.reduceLE, ↓avp_condG, ↓tf_arrow, ↓ft_arrow, wP.down, hi1]) ⟨i + 1, rfl, by omega, rfl⟩
noncomputable def A_law10_SpaceForms : Arms (Unit) := Arms.nil
def p_law10_SpaceForms (x : Unit) : Prop := goodAny (x)
abbrev r_law10_SpaceForms (x : Unit) : AV := rTrue x
theorem rd_law10_SpaceForms : ReadsA Try.prog [] A_law10_SpaceForms p_law10_SpaceForms := readsA_nil
set_option maxHeartbeats 4000000 in
theorem body_law10_SpaceForms (x) (hx : p_law10_SpaceForms x) : avp K_law10_SpaceForms G_law10_SpaceForms (Ret K_law10_SpaceForms [.tmp 0] fun v _ => v = r_law10_SpaceForms x) (entry (A_law10_SpaceForms.enc x) .empty) := by
  change avp _ _ (Ret _ _ fun v _ => v = .t (.bool true)) (entry [] .empty)
  unfold G_law10_SpaceForms
  simp only [vP.down, vS.down, vE.down, Nat.reduceEqDiff, Nat.reduceAdd, Nat.reduceSub, Nat.reduceMul, Nat.reduceLeDiff, Nat.reduceLT, Int.reduceToNat, reduceIte, reduceCtorEq, Int.reduceEq, Int.reduceLT, Int.reduceLE, ↓avp_condG, ↓tf_arrow, ↓ft_arrow, k_law10_SpaceForms_law10_begun.down, A_law10_begun, p_law10_begun, r_law10_begun]
  intro g1 hg1 g2 hg2 g3 hg3
  have n2 := Store.ne_new hg2
  have n3 := Store.ne_new hg3
  have n31 := Store.ne_new (Store.old_none hg3)
  refine weak_at [(1, .t (sl fA)), (2, .t (sl fB)), (3, .t (sl fC))] .empty fewer_empty (by
    simp only [vP.down, vS.down, vE.down, Nat.reduceEqDiff, Nat.reduceAdd, Nat.reduceSub, Nat.reduceMul, Nat.reduceLeDiff, Nat.reduceLT, Int.reduceToNat, reduceIte, reduceCtorEq, Int.reduceEq, Int.reduceLT, Int.reduceLE, ↓avp_condG, ↓tf_arrow, ↓ft_arrow, wP.down]
    refine ⟨LV.w2 (lv_at (α := TRun) (l := fA) (ro := false) rfl ?_) fun _ _ => rfl, LV.w2 (lv_at (α := TRun) (l := fB) (ro := false) rfl ?_) fun _ _ => rfl, LV.w2 (lv_at (α := TRun) (l := fC) (ro := false) rfl ?_) fun _ _ => rfl⟩
    · simp only [set_f, n2.symm, n31.symm, if_true, if_false]; rfl
    · simp only [set_f, n3.symm, if_true, if_false]; rfl
    · simp only [set_f, if_true]; rfl) ?_
  clear hg1 hg2 hg3 n2 n3 n31
  simp only [vP.down, vS.down, vE.down, Nat.reduceEqDiff, Nat.reduceAdd, Nat.reduceSub, Nat.reduceMul, Nat.reduceLeDiff, Nat.reduceLT, Int.reduceToNat, reduceIte, reduceCtorEq, Int.reduceEq, Int.reduceLT, Int.reduceLE, ↓avp_condG, ↓tf_arrow, ↓ft_arrow]
  intro g1 hg1 g2 hg2 g3 hg3 g4 hg4
  have a2 := Store.ne_new hg2
  have a3 := Store.ne_new hg3
  have a31 := Store.ne_new (Store.old_none hg3)
  have a4 := Store.ne_new hg4
  have a42 := Store.ne_new (Store.old_none hg4)
  have a41 := Store.ne_new (Store.old_none (Store.old_none hg4))
  generalize hS : Store.set (Store.set (Store.set (Store.set Store.empty g1 _) g2 _) g3 _) g4 _ = S
  have f1 : S.f g1 = some (.row 2 ([(⟨13, 15⟩ : TRun)].map Cell.enc) false) := by rw [← hS]; simp only [set_f, a2.symm, a31.symm, a41.symm, if_true, if_false]; rfl
  have f2 : S.f g2 = some (.row 2 ([(⟨50, 55⟩ : TRun)].map Cell.enc) false) := by rw [← hS]; simp only [set_f, a3.symm, a42.symm, if_true, if_false]; rfl
  have f3 : S.f g3 = some (.row 2 ([(⟨20, 20⟩ : TRun)].map Cell.enc) false) := by rw [← hS]; simp only [set_f, a4.symm, if_true, if_false]; rfl
  have f4 : S.f g4 = some (.row 2 ([(⟨54, 60⟩ : TRun)].map Cell.enc) false) := by rw [← hS]; simp only [set_f, if_true, if_false]; rfl
  have b1 : S.borrow1 (.tok g1 2 0 1) = some (sl [(⟨13, 15⟩ : TRun)], [g1]) := borrow1_tok (α := TRun) rfl f1
  have b2 : S.borrow1 (.tok g2 2 0 1) = some (sl [(⟨50, 55⟩ : TRun)], [g2]) := borrow1_tok (α := TRun) rfl f2
  have b3 : S.borrow1 (.tok g3 2 0 1) = some (sl [(⟨20, 20⟩ : TRun)], [g3]) := borrow1_tok (α := TRun) rfl f3
  have b4 : S.borrow1 (.tok g4 2 0 1) = some (sl [(⟨54, 60⟩ : TRun)], [g4]) := borrow1_tok (α := TRun) rfl f4
  simp only [vP.down, vS.down, vE.down, Nat.reduceEqDiff, Nat.reduceAdd, Nat.reduceSub, Nat.reduceMul, Nat.reduceLeDiff, Nat.reduceLT, Int.reduceToNat, reduceIte, reduceCtorEq, Int.reduceEq, Int.reduceLT, Int.reduceLE, ↓avp_condG, ↓tf_arrow, ↓ft_arrow, b1, b2, b3, b4]
  intro g5 hg5
  have hdec : Cell.dec [TV.seq 4 [[sl fA, sl fB, .nilS, .nilS], [sl fA, .nilS, sl fB, .nilS], [.nilS, sl fA, sl fB, .nilS], [sl [(⟨13, 15⟩ : TRun)], .nilS, .nilS, .nilS], [.nilS, sl [(⟨50, 55⟩ : TRun)], .nilS, .nilS], [.nilS, .nilS, .nilS, sl [(⟨20, 20⟩ : TRun)]], [.nilS, .nilS, sl [(⟨54, 60⟩ : TRun)], .nilS]]] = some bL := rfl
  refine forms_5 (wk_to fewer_empty (by
    simp only [vP.down, vS.down, vE.down, Nat.reduceEqDiff, Nat.reduceAdd, Nat.reduceSub, Nat.reduceMul, Nat.reduceLeDiff, Nat.reduceLT, Int.reduceToNat, reduceIte, reduceCtorEq, Int.reduceEq, Int.reduceLT, Int.reduceLE, ↓avp_condG, ↓tf_arrow, ↓ft_arrow, wP.down]
    exact w2_rows (Store.set_same _ _ _) rfl hdec rfl))
noncomputable def c_law10_SpaceForms : Con := fnScal A_law10_SpaceForms p_law10_SpaceForms r_law10_SpaceForms
theorem ok_law10_SpaceForms : COk Try.prog 9 c_law10_SpaceForms := fn_sok sys_law10_SpaceForms mixed Try.func9 (by kernel_rfl) geq_law10_SpaceForms Try.ntmps9 (by rw [Try.results9]) (fun x => by simp [rTrue, AV.scal]) fun x hx => ⟨Nat.le_of_ble_eq_true rfl, body_law10_SpaceForms x hx⟩
theorem says_law10_SpaceForms : SaysTrue Rows.spaceFormsSpec 0 := ⟨rfl, fun H ds h => by
  match ds, h with
  | [], _ => exact ⟨rfl, rfl, rfl⟩⟩
set_option maxRecDepth 100000 in
theorem lifted_law10_SpaceForms (os : Os) (started : os.Started) (H : Type) (enc : TypeId × Value → H) :
    ReturnsInHanded {} Try.checked os 9 .any (Rows.spaceFormsSpec.pre6 enc Try.prog Try.f9 Rows.spaceFormsRow.domain false) (Rows.spaceFormsSpec.post enc Try.prog Try.f9 false true false false) := by
  refine returnsInHanded_of_change (C := Try.checked) own started (by kernel_rfl) Try.func9
    (ChangeSpec.witness6 (enc := enc) (C := Try.checked) false ⟨#[], #[], []⟩ 8 (by kernel_rfl) (by kernel_rfl) (by kernel_rfl) (by kernel_rfl)) ?_
  intro W base args ds gs before hval hW _ _
  exact law_contract (ts := []) (tb := 4) ok_law10_SpaceForms (by rw [Try.params9]) (by kernel_rfl) Try.underlying4 laid (by kernel_rfl) rd_law10_SpaceForms (fun _ h => h) says_law10_SpaceForms H enc W base args ds gs before hval hW
theorem over_law10_SpaceForms : Rows.spaceFormsRow.holds Try.pinned (OpenSpec.ofChange Rows.spaceFormsSpec) :=
  OpenClaim.holds_of_wide 9 Try.f9 rfl rfl rfl rfl rfl rfl rfl ⟨rfl, rfl, rfl, rfl, rfl⟩ rfl rfl rfl rfl rfl (by kernel_rfl) Try.func9 (by kernel_rfl)
    (of_decide_eq_true (by kernel_rfl)) (by unfold Func.isWrapper; first | (rw [if_pos (by decide +kernel)]; kernel_rfl) | (rw [if_neg (by decide +kernel)]; exact ⟨rfl, rfl⟩))
    (fun os started H enc _ => lifted_law10_SpaceForms os started H enc)
theorem spaceForms_holds : Rows.SpaceFormsSaid := over_law10_SpaceForms
end Go.Proofs.Ytgdaibdfjhchbaa

