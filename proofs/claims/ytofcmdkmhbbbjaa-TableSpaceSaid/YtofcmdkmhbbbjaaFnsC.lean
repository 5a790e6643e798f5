/-
  Plain facts: runs are sets of sectors, in one way alone.
-/
import Derived.Test.YtofcmdkmhbbbjaaFnsB
set_option linter.unusedSimpArgs false
set_option linter.unusedVariables false
open Nat renaming reduceEqDiff → qA, reduceAdd → qB, reduceSub → qC, reduceMul → qD, reduceLeDiff → qE, reduceLT → qF
open Int renaming reduceToNat → qG, reduceEq → qH, reduceLT → qI, reduceLE → qJ
namespace Go.Proofs.Ytofcmdkmhbbbjaa
open Go Go.Eng
set_option maxRecDepth 100000
theorem inR_iff {r : TRun} {i : Int} : inR r i = true ↔ r.From ≤ i ∧ i < r.To := by simp [inR]
theorem hasR_iff {l : List TRun} {i : Int} : hasR l i = true ↔ ∃ r ∈ l, r.From ≤ i ∧ i < r.To := by
  simp [hasR, List.any_eq_true, inR_iff]
structure Nf (l : List TRun) : Prop where
  pw : l.Pairwise fun x y => x.To < y.From
  ne : ∀ r ∈ l, r.From < r.To
theorem Nf.nil : Nf [] := ⟨.nil, fun _ h => by cases h⟩
theorem Nf.one {r : TRun} (h : r.From < r.To) : Nf [r] := ⟨List.pairwise_singleton .., fun x hx => by rw [List.mem_singleton.1 hx]; exact h⟩
theorem Nf.tail {x : TRun} {t : List TRun} (h : Nf (x :: t)) : Nf t := ⟨(List.pairwise_cons.1 h.pw).2, fun r hr => h.ne r (List.mem_cons_of_mem _ hr)⟩
theorem Nf.head {x : TRun} {t : List TRun} (h : Nf (x :: t)) : x.From < x.To ∧ ∀ y ∈ t, x.To < y.From := ⟨h.ne x (List.mem_cons_self ..), (List.pairwise_cons.1 h.pw).1⟩
theorem nf_low {x : TRun} {t : List TRun} (h : Nf (x :: t)) {i : Int} (hi : hasR (x :: t) i = true) : x.From ≤ i := by
  obtain ⟨r, hr, h1, h2⟩ := hasR_iff.1 hi
  rcases List.mem_cons.1 hr with rfl | hr
  · exact h1
  · have := h.head.2 r hr; have := h.head.1; omega
theorem nf_at {x : TRun} {t : List TRun} (h : Nf (x :: t)) : hasR (x :: t) x.From = true := hasR_iff.2 ⟨x, List.mem_cons_self .., Int.le_refl _, h.head.1⟩
theorem nf_end {x : TRun} {t : List TRun} (h : Nf (x :: t)) : hasR (x :: t) x.To = false := by
  rw [← Bool.not_eq_true, hasR_iff]
  rintro ⟨r, hr, h1, h2⟩
  rcases List.mem_cons.1 hr with rfl | hr
  · omega
  · have := h.head.2 r hr; omega
theorem nf_ext : ∀ {l m : List TRun}, Nf l → Nf m → (∀ i, hasR l i = hasR m i) → l = m
  | [], [], _, _, _ => rfl
  | [], y :: m, _, hm, h => by
    have := h y.From
    rw [nf_at hm] at this; cases this
  | x :: l, [], hl, _, h => by
    have := h x.From
    rw [nf_at hl] at this; cases this
  | x :: l, y :: m, hl, hm, h => by
    have e1 : x.From = y.From := by
      have h1 := nf_low hm (by rw [← h]; exact nf_at hl)
      have h2 := nf_low hl (by rw [h]; exact nf_at hm)
      omega
    have e2 : x.To = y.To := by
      have h1 := hl.head.1
      have h2 := hm.head.1
      by_cases c : x.To < y.To
      · have h3 := h x.To
        rw [nf_end hl] at h3
        have : hasR (y :: m) x.To = true := hasR_iff.2 ⟨y, List.mem_cons_self .., by omega, c⟩
        rw [this] at h3; cases h3
      · by_cases c2 : y.To < x.To
        · have h3 := h y.To
          rw [nf_end hm] at h3
          have : hasR (x :: l) y.To = true := hasR_iff.2 ⟨x, List.mem_cons_self .., by omega, c2⟩
          rw [this] at h3; cases h3
        · omega
    have hxy : x = y := run_ext ⟨e1, e2⟩
    subst hxy
    rw [nf_ext hl.tail hm.tail fun i => ?_]
    have h0 := h i
    rw [hasR_cons, hasR_cons] at h0
    by_cases c : inR x i = true
    · have : ∀ {t : List TRun}, Nf (x :: t) → hasR t i = false := fun {t} ht => by
        rw [← Bool.not_eq_true, hasR_iff]
        rintro ⟨r, hr, h1, h2⟩
        have := ht.head.2 r hr
        have := (inR_iff.1 c).2
        omega
      rw [this hl, this hm]
    · simp only [Bool.not_eq_true] at c
      rw [c, Bool.false_or, Bool.false_or] at h0
      exact h0
theorem behindL_nf {o : List TRun} {a b : Int} (ho : Nf o) (hb : ∀ r ∈ o, r.To ≤ a) (hab : a < b) :
    Nf (behindL o ⟨a, b⟩) ∧ (∀ r ∈ behindL o ⟨a, b⟩, r.To ≤ b) ∧ ∀ i, hasR (behindL o ⟨a, b⟩) i = (hasR o i || inR ⟨a, b⟩ i) := by
  rcases List.eq_nil_or_concat o with rfl | ⟨p, x, rfl⟩
  · exact ⟨.one hab, fun r hr => by rw [List.mem_singleton.1 hr]; exact Int.le_refl _, fun i => by show (inR _ i || false) = (false || inR _ i); rw [Bool.or_false, Bool.false_or]⟩
  simp only [List.concat_eq_append] at *
  have hlen : (p ++ [x]).length - 1 = p.length := by simp
  have hlast : (p ++ [x]).getD p.length default = x := by simp [List.getD_eq_getElem?_getD]
  have hx := hb x (by simp)
  have hxn := ho.ne x (by simp)
  have hpp := List.pairwise_append.1 ho.pw
  unfold behindL
  rw [hlen, hlast]
  by_cases c : x.To = a
  · rw [if_pos ⟨by simp, c⟩]
    have e : (p ++ [x]).set p.length ⟨x.From, b⟩ = p ++ [⟨x.From, b⟩] := by rw [List.set_append_right _ _ (Nat.le_refl _), Nat.sub_self]; rfl
    simp only [e]
    refine ⟨⟨List.pairwise_append.2 ⟨hpp.1, List.pairwise_singleton .., fun y hy z hz => ?_⟩, fun r hr => ?_⟩, fun r hr => ?_, fun i => ?_⟩
    · rw [List.mem_singleton.1 hz]; exact hpp.2.2 y hy x (by simp)
    · rcases List.mem_append.1 hr with hr | hr
      · exact ho.ne r (by simp [hr])
      · rw [List.mem_singleton.1 hr]; show x.From < b; omega
    · rcases List.mem_append.1 hr with hr | hr
      · have := hb r (by simp [hr]); omega
      · rw [List.mem_singleton.1 hr]; exact Int.le_refl _
    · rw [hasR_app, hasR_app]
      have : hasR [⟨x.From, b⟩] i = (hasR [x] i || inR ⟨a, b⟩ i) := by
        simp only [hasR, List.any_cons, List.any_nil, Bool.or_false, inR]
        rw [Bool.eq_iff_iff]
        simp only [Bool.or_eq_true, Bool.and_eq_true, decide_eq_true_eq]
        omega
      rw [this, Bool.or_assoc]
  · rw [if_neg (fun h => c h.2)]
    refine ⟨⟨List.pairwise_append.2 ⟨ho.pw, List.pairwise_singleton .., fun y hy z hz => ?_⟩, fun r hr => ?_⟩, fun r hr => ?_, fun i => ?_⟩
    · rw [List.mem_singleton.1 hz]
      show y.To < a
      rcases List.mem_append.1 hy with hy | hy
      · have := hpp.2.2 y hy x (by simp); omega
      · rw [List.mem_singleton.1 hy]; omega
    · rcases List.mem_append.1 hr with hr | hr
      · exact ho.ne r hr
      · rw [List.mem_singleton.1 hr]; exact hab
    · rcases List.mem_append.1 hr with hr | hr
      · have := hb r hr; omega
      · rw [List.mem_singleton.1 hr]; exact Int.le_refl _
    · rw [hasR_app]; simp [hasR]
def Told (e : List Int) (r : TRun) : Prop := r.From ∈ e ∧ r.To ∈ e
def Ahead (a : Int) (t : List Int) (r : TRun) : Prop := (r.From ≤ a ∨ r.From ∈ t) ∧ (r.To ≤ a ∨ r.To ∈ t)
theorem whG_has {f : Bool → Bool → Bool} (h0 : f false false = false) {l m : List TRun} : ∀ {t : List Int} {a : Int} {o : List TRun}, (a :: t).Pairwise (· < ·) → Nf o → (∀ r ∈ o, r.To ≤ a) → (∀ r ∈ l, Ahead a t r) → (∀ r ∈ m, Ahead a t r) →
    Nf (whG f l m (a :: t) o) ∧ (∀ i, a ≤ i → hasR (whG f l m (a :: t) o) i = f (hasR l i) (hasR m i)) ∧ ∀ i, i < a → hasR (whG f l m (a :: t) o) i = hasR o i
  | [], a, o, _, ho, hb, hl, hm => by
    have no : ∀ {l : List TRun}, (∀ r ∈ l, Ahead a [] r) → ∀ i, a ≤ i → hasR l i = false := fun {l} hl i hi => by
      rw [← Bool.not_eq_true, hasR_iff]
      rintro ⟨r, hr, h1, h2⟩
      have := (hl r hr).2
      simp only [List.not_mem_nil, or_false] at this
      omega
    refine ⟨ho, fun i hi => ?_, fun i _ => rfl⟩
    rw [no hl i hi, no hm i hi, h0]
    show hasR o i = false
    rw [← Bool.not_eq_true, hasR_iff]
    rintro ⟨r, hr, h1, h2⟩
    have := hb r hr
    omega
  | b :: t, a, o, he, ho, hb, hl, hm => by
    obtain ⟨he1, he2⟩ := List.pairwise_cons.1 he
    have hab : a < b := he1 b (by simp)
    have hbt : ∀ x ∈ t, b < x := (List.pairwise_cons.1 he2).1
    have next : ∀ {l : List TRun}, (∀ r ∈ l, Ahead a (b :: t) r) → ∀ r ∈ l, Ahead b t r := fun {l} hl r hr => by
      obtain ⟨h1, h2⟩ := hl r hr
      simp only [List.mem_cons] at h1 h2
      refine ⟨?_, ?_⟩
      · rcases h1 with h1 | h1 | h1
        · exact .inl (by omega)
        · exact .inl (by omega)
        · exact .inr h1
      · rcases h2 with h2 | h2 | h2
        · exact .inl (by omega)
        · exact .inl (by omega)
        · exact .inr h2
    have same : ∀ {l : List TRun}, (∀ r ∈ l, Ahead a (b :: t) r) → ∀ i, a ≤ i → i < b → hasR l i = hasR l a := fun {l} hl i h1 h2 => by
      rw [Bool.eq_iff_iff, hasR_iff, hasR_iff]
      have key : ∀ r ∈ l, (r.From ≤ i ∧ i < r.To ↔ r.From ≤ a ∧ a < r.To) := fun r hr => by
        obtain ⟨k1, k2⟩ := hl r hr
        simp only [List.mem_cons] at k1 k2
        have g1 : r.From ≤ a ∨ b ≤ r.From := by
          rcases k1 with k1 | k1 | k1
          · exact .inl k1
          · exact .inr (by omega)
          · exact .inr (by have := hbt _ k1; omega)
        have g2 : r.To ≤ a ∨ b ≤ r.To := by
          rcases k2 with k2 | k2 | k2
          · exact .inl k2
          · exact .inr (by omega)
          · exact .inr (by have := hbt _ k2; omega)
        omega
      exact ⟨fun ⟨r, hr, h⟩ => ⟨r, hr, (key r hr).1 h⟩, fun ⟨r, hr, h⟩ => ⟨r, hr, (key r hr).2 h⟩⟩
    have hs : Nf (stepW f l m o a b) ∧ (∀ r ∈ stepW f l m o a b, r.To ≤ b) ∧ ∀ i, hasR (stepW f l m o a b) i = (hasR o i || (f (hasR l a) (hasR m a) && inR ⟨a, b⟩ i)) := by
      unfold stepW
      cases hf : f (hasR l a) (hasR m a) with
      | true =>
        obtain ⟨q1, q2, q3⟩ := behindL_nf ho hb hab
        exact ⟨q1, q2, fun i => by rw [if_pos rfl, q3]; rfl⟩
      | false => exact ⟨ho, fun r hr => by have := hb r hr; omega, fun i => by simp⟩
    obtain ⟨r1, r2, r3⟩ := whG_has h0 he2 hs.1 hs.2.1 (next hl) (next hm)
    refine ⟨r1, fun i hi => ?_, fun i hi => ?_⟩
    · show hasR (whG f l m (b :: t) _) i = _
      by_cases c : b ≤ i
      · exact r2 i c
      · rw [r3 i (by omega), hs.2.2, same hl i hi (by omega), same hm i hi (by omega)]
        have e1 : inR ⟨a, b⟩ i = true := inR_iff.2 ⟨hi, by show i < b; omega⟩
        have e2 : hasR o i = false := by
          rw [← Bool.not_eq_true, hasR_iff]
          rintro ⟨r, hr, h1, h2⟩
          have := hb r hr
          omega
        rw [e1, e2, Bool.false_or, Bool.and_true]
    · show hasR (whG f l m (b :: t) _) i = _
      rw [r3 i (by omega), hs.2.2]
      have e1 : inR ⟨a, b⟩ i = false := by
        rw [← Bool.not_eq_true, inR_iff]
        show ¬ (a ≤ i ∧ i < b)
        omega
      rw [e1, Bool.and_false, Bool.or_false]
theorem whG_set {f : Bool → Bool → Bool} (h0 : f false false = false) {l m : List TRun} {e : List Int} (he : e.Pairwise (· < ·)) (hl : ∀ r ∈ l, Told e r) (hm : ∀ r ∈ m, Told e r) :
    Nf (whG f l m e []) ∧ ∀ i, hasR (whG f l m e []) i = f (hasR l i) (hasR m i) := by
  match e, he with
  | [], _ =>
    have no : ∀ {l : List TRun}, (∀ r ∈ l, Told [] r) → l = [] := fun {l} hl => by
      cases l with
      | nil => rfl
      | cons r t => have := (hl r (by simp)).1; cases this
    rw [no hl, no hm]
    exact ⟨.nil, fun i => h0.symm⟩
  | a :: t, he =>
    have ah : ∀ {l : List TRun}, (∀ r ∈ l, Told (a :: t) r) → ∀ r ∈ l, Ahead a t r := fun {l} hl r hr => by
      obtain ⟨h1, h2⟩ := hl r hr
      exact ⟨(List.mem_cons.1 h1).imp (fun h => by omega) id, (List.mem_cons.1 h2).imp (fun h => by omega) id⟩
    obtain ⟨r1, r2, r3⟩ := whG_has h0 he .nil (fun _ h => by cases h) (ah hl) (ah hm)
    refine ⟨r1, fun i => ?_⟩
    by_cases c : a ≤ i
    · exact r2 i c
    · rw [r3 i (by omega)]
      have no : ∀ {l : List TRun}, (∀ r ∈ l, Told (a :: t) r) → hasR l i = false := fun {l} hl => by
        rw [← Bool.not_eq_true, hasR_iff]
        rintro ⟨r, hr, h1, h2⟩
        rcases List.mem_cons.1 (hl r hr).1 with h | h
        · omega
        · have := (List.pairwise_cons.1 he).1 _ h; omega
      rw [no hl, no hm, h0]
      rfl
/-! ### The edges rise, and are all ends -/
theorem riseL_mem {n : Int} : ∀ {l : List Int} {x : Int}, x ∈ riseL n l ↔ x = n ∨ x ∈ l
  | [], x => by simp [riseL]
  | y :: r, x => by
    unfold riseL
    split
    · next h =>
      simp only [List.mem_cons]
      constructor
      · intro h; exact .inr h
      · rintro (h2 | h2)
        · exact .inl (by omega)
        · exact h2
    · split
      · simp only [List.mem_cons]
      · simp only [List.mem_cons, riseL_mem (l := r)]
        constructor <;> (rintro (h | h | h) <;> simp [h])
theorem riseL_pw {n : Int} : ∀ {l : List Int}, l.Pairwise (· < ·) → (riseL n l).Pairwise (· < ·)
  | [], _ => List.pairwise_singleton ..
  | y :: r, h => by
    obtain ⟨h1, h2⟩ := List.pairwise_cons.1 h
    unfold riseL
    split
    · exact h
    · next hne =>
      split
      · next hlt =>
        refine List.pairwise_cons.2 ⟨fun x hx => ?_, h⟩
        rcases List.mem_cons.1 hx with rfl | hx
        · exact hlt
        · have := h1 x hx; omega
      · next hnl =>
        refine List.pairwise_cons.2 ⟨fun x hx => ?_, riseL_pw h2⟩
        rcases riseL_mem.1 hx with rfl | hx
        · omega
        · exact h1 x hx
theorem fold_rise {l : List TRun} : ∀ {o : List Int}, o.Pairwise (· < ·) → (l.foldl rise2 o).Pairwise (· < ·) ∧ ∀ x, x ∈ l.foldl rise2 o ↔ x ∈ o ∨ ∃ r ∈ l, x = r.From ∨ x = r.To := by
  induction l with
  | nil => intro o ho; exact ⟨ho, fun x => by simp⟩
  | cons r t ih =>
    intro o ho
    have hp : (rise2 o r).Pairwise (· < ·) := riseL_pw (riseL_pw ho)
    obtain ⟨h1, h2⟩ := ih hp
    refine ⟨h1, fun x => ?_⟩
    rw [List.foldl_cons, h2]
    simp only [rise2, riseL_mem, List.mem_cons, exists_eq_or_imp]
    constructor
    · rintro ((h | h | h) | h)
      · exact .inr (.inl (.inr h))
      · exact .inr (.inl (.inl h))
      · exact .inl h
      · exact .inr (.inr h)
    · rintro (h | (h | h) | h)
      · exact .inl (.inr (.inr h))
      · exact .inl (.inr (.inl h))
      · exact .inl (.inl h)
      · exact .inr h
theorem endsL_pw {l m : List TRun} : (endsL l m).Pairwise (· < ·) := (fold_rise (fold_rise .nil).1).1
theorem endsL_told {l m : List TRun} : (∀ r ∈ l, Told (endsL l m) r) ∧ ∀ r ∈ m, Told (endsL l m) r := by
  have hm := (fold_rise (l := m) (fold_rise (l := l) (o := []) .nil).1).2
  have hl := (fold_rise (l := l) (o := []) .nil).2
  refine ⟨fun r hr => ⟨(hm _).2 (.inl ((hl _).2 (.inr ⟨r, hr, .inl rfl⟩))), (hm _).2 (.inl ((hl _).2 (.inr ⟨r, hr, .inr rfl⟩)))⟩, fun r hr => ⟨(hm _).2 (.inr ⟨r, hr, .inl rfl⟩), (hm _).2 (.inr ⟨r, hr, .inr rfl⟩)⟩⟩
theorem cpL_of {l : List Int} (h : l.Pairwise (· ≤ ·)) : (cpL l).Pairwise (· < ·) ∧ ∀ x, x ∈ cpL l ↔ x ∈ l := by
  have key : ∀ m, m ≤ l.length → (Lib.compactUpTo l.toArray m).Pairwise (· < ·) ∧ (∀ x ∈ Lib.compactUpTo l.toArray m, ∃ j, j < m ∧ x = l.getD j default) ∧ ∀ j, j < m → l.getD j default ∈ Lib.compactUpTo l.toArray m := by
    have hg : ∀ j, l.toArray[j]! = l.getD j default := fun j => by
      by_cases hj : j < l.length
      · rw [getElem!_pos _ j (by simpa using hj), List.getD_eq_getElem?_getD, List.getElem?_eq_getElem hj]; simp
      · rw [getElem!_neg _ j (by simpa using hj), List.getD_eq_getElem?_getD, List.getElem?_eq_none (by omega)]; rfl
    have up := up_of_pw h
    intro m
    induction m with
    | zero => intro _; exact ⟨by simp [Lib.compactUpTo], fun x hx => by simp [Lib.compactUpTo] at hx, fun j hj => by omega⟩
    | succ m ih =>
      intro hm
      obtain ⟨i1, i2, i3⟩ := ih (by omega)
      rw [Lib.compactUpTo_succ]
      by_cases hk : Lib.keeps l.toArray m = true
      · rw [if_pos hk, hg]
        have hlt : ∀ x ∈ Lib.compactUpTo l.toArray m, x < l.getD m default := fun x hx => by
          obtain ⟨j, hj, rfl⟩ := i2 x hx
          simp only [Lib.keeps, decide_eq_true_eq, hg] at hk
          have hne := hk.resolve_left (by omega)
          have a1 := up j (m - 1) (by omega) (by omega) (by omega)
          have a2 := up (m - 1) m (by omega) (by omega) (by omega)
          omega
        refine ⟨List.pairwise_append.2 ⟨i1, List.pairwise_singleton .., fun x hx y hy => by rw [List.mem_singleton.1 hy]; exact hlt x hx⟩, fun x hx => ?_, fun j hj => ?_⟩
        · rcases List.mem_append.1 hx with hx | hx
          · obtain ⟨j, hj, e⟩ := i2 x hx; exact ⟨j, by omega, e⟩
          · exact ⟨m, by omega, List.mem_singleton.1 hx⟩
        · by_cases hjm : j = m
          · subst hjm; simp
          · exact List.mem_append.2 (.inl (i3 j (by omega)))
      · rw [if_neg hk, List.append_nil]
        simp only [Lib.keeps, decide_eq_true_eq, hg, not_or, ne_eq, Decidable.not_not] at hk
        refine ⟨i1, fun x hx => by obtain ⟨j, hj, e⟩ := i2 x hx; exact ⟨j, by omega, e⟩, fun j hj => ?_⟩
        by_cases hjm : j = m
        · subst hjm; rw [hk.2]; exact i3 (j - 1) (by omega)
        · exact i3 j (by omega)
  obtain ⟨k1, k2, k3⟩ := key l.length (Nat.le_refl _)
  refine ⟨k1, fun x => ⟨fun hx => ?_, fun hx => ?_⟩⟩
  · obtain ⟨j, hj, rfl⟩ := k2 x hx
    rw [List.getD_eq_getElem?_getD, List.getElem?_eq_getElem hj]
    exact List.getElem_mem _
  · obtain ⟨j, hj, rfl⟩ := List.getElem_of_mem hx
    have := k3 j hj
    rwa [List.getD_eq_getElem?_getD, List.getElem?_eq_getElem hj, Option.getD_some] at this
theorem cps_of (l : List Int) : (cpL (sortL l)).Pairwise (· < ·) ∧ ∀ x, x ∈ cpL (sortL l) ↔ x ∈ l := by
  obtain ⟨h1, h2⟩ := cpL_of (sortL_pw l)
  exact ⟨h1, fun x => (h2 x).trans (sortL_perm l).mem_iff⟩
theorem edgesL_told {l m : List TRun} : (∀ r ∈ l, Told (edgesL l m) r) ∧ ∀ r ∈ m, Told (edgesL l m) r := by
  have h := (cps_of (endsOf (l ++ m))).2
  have key : ∀ r ∈ l ++ m, Told (edgesL l m) r := fun r hr => by
    refine ⟨(h _).2 ?_, (h _).2 ?_⟩ <;> exact List.mem_flatMap.2 ⟨r, hr, by simp⟩
  exact ⟨fun r hr => key r (List.mem_append.2 (.inl hr)), fun r hr => key r (List.mem_append.2 (.inr hr))⟩
theorem How.op0 (h : How) : h.op false false = false := by cases h <;> rfl
theorem whereL_set (h : How) (l m : List TRun) : Nf (whereL h l m) ∧ ∀ i, hasR (whereL h l m) i = h.op (hasR l i) (hasR m i) :=
  whG_set h.op0 (cps_of _).1 edgesL_told.1 edgesL_told.2
end Go.Proofs.Ytofcmdkmhbbbjaa
namespace Go.Proofs.Ytofcmdkmhbbbjaa
open Go Go.Eng
set_option maxRecDepth 100000
theorem putR_set {h : Int} (h0 : hop h false false = false) (l m : List TRun) : Nf (putR h l m) ∧ ∀ i, hasR (putR h l m) i = hop h (hasR l i) (hasR m i) :=
  whG_set h0 endsL_pw endsL_told.1 endsL_told.2
theorem putR_add {l m : List TRun} : putR 0 l m = whereL .add l m := nf_ext (putR_set rfl l m).1 (whereL_set .add l m).1 fun i => by rw [(putR_set rfl l m).2, (whereL_set .add l m).2]; rfl
theorem putR_less {l m : List TRun} : putR 1 l m = whereL .less l m := nf_ext (putR_set rfl l m).1 (whereL_set .less l m).1 fun i => by rw [(putR_set rfl l m).2, (whereL_set .less l m).2]; rfl
theorem putR_both {l m : List TRun} : putR 2 l m = whereL .both l m := nf_ext (putR_set rfl l m).1 (whereL_set .both l m).1 fun i => by rw [(putR_set rfl l m).2, (whereL_set .both l m).2]; rfl
def G_ref8_Add : GCode := .seq (.region [⟨(some 4), none, .assign (.const (.slice none 0 0))⟩]) (.seq (.region [⟨(some 5), none, .move (.tmp 0)⟩, ⟨(some 6), none, .move (.tmp 1)⟩, ⟨(some 7), none, .call ⟨.value (.func 50), #[.tmp 5, .tmp 6, .const (.int .i64 0)], #[52, 52, 3]⟩⟩, ⟨(some 4), none, .assign (.tmp 7)⟩]) (.ret))
noncomputable def l_ref8_Add : List (Nat × Con) := [(50, c_ref8_put)]
noncomputable abbrev K_ref8_Add : Ctx := ctx (cl l_ref8_Add)
theorem geq_ref8_Add : gof K_ref8_Add Try.f95 = some G_ref8_Add.strip := by kernel_rfl
theorem sys_ref8_Add : Go.Eng.Sys Try.prog K_ref8_Add := sys_of' ⟨ok_ref8_put, trivial⟩
noncomputable def k_ref8_Add_ref8_put := PLift.up (call_fn (C := K_ref8_Add) (f := 50) (A := A_ref8_put) (p := p_ref8_put) (r := r_ref8_put) rfl)
def A_ref8_Add := Arms.cons (argT (List TRun)) (Arms.cons (argT (List TRun)) Arms.nil)
def p_ref8_Add (x : List TRun × List TRun × Unit) : Prop := x.1.length + x.2.1.length ≤ 1099511627
def r_ref8_Add (x : List TRun × List TRun × Unit) : AV := .t (sl (whereL .add x.1 x.2.1))
theorem body_ref8_Add (x : List TRun × List TRun × Unit) (hp : p_ref8_Add x) : avp K_ref8_Add G_ref8_Add (Ret K_ref8_Add [.tmp 4] fun v s' => Frz s' v (r_ref8_Add x)) (entry (A_ref8_Add.enc x) .empty) := by
  obtain ⟨l, m, ⟨⟩⟩ := x
  change l.length + m.length ≤ 1099511627 at hp
  change avp _ _ (Ret _ _ fun v s' => Frz1 s' v (sl (whereL .add l m))) (entry [.t (sl l), .t (sl m)] .empty)
  unfold G_ref8_Add
  simp only [vP.down, vS.down, vE.down, qA, qB, qC, qD, qE, qF, qG, reduceIte, reduceCtorEq, qH, qI, qJ, ↓avp_condG, ↓tf_arrow, ↓ft_arrow, hp, true_or, false_or, or_true, or_false, k_ref8_Add_ref8_put.down, A_ref8_put, p_ref8_put, r_ref8_put, putR_add]
  simp only [vP.down, vS.down, vE.down, qA, qB, qC, qD, qE, qF, qG, reduceIte, reduceCtorEq, qH, qI, qJ, ↓avp_condG, ↓tf_arrow, ↓ft_arrow, vT.down]
noncomputable def c_ref8_Add : Con := fnCon A_ref8_Add p_ref8_Add r_ref8_Add
theorem ok_ref8_Add : COk Try.prog 95 c_ref8_Add := fn_ok sys_ref8_Add mixed Try.func95 (by kernel_rfl) geq_ref8_Add Try.ntmps95 (by rw [Try.results95]) fun x hx => ⟨Nat.le_of_ble_eq_true rfl, body_ref8_Add x hx⟩
def G_ref8_Less : GCode := .seq (.region [⟨(some 4), none, .assign (.const (.slice none 0 0))⟩]) (.seq (.region [⟨(some 5), none, .move (.tmp 0)⟩, ⟨(some 6), none, .move (.tmp 1)⟩, ⟨(some 7), none, .call ⟨.value (.func 50), #[.tmp 5, .tmp 6, .const (.int .i64 1)], #[52, 52, 3]⟩⟩, ⟨(some 4), none, .assign (.tmp 7)⟩]) (.ret))
noncomputable def l_ref8_Less : List (Nat × Con) := [(50, c_ref8_put)]
noncomputable abbrev K_ref8_Less : Ctx := ctx (cl l_ref8_Less)
theorem geq_ref8_Less : gof K_ref8_Less Try.f25 = some G_ref8_Less.strip := by kernel_rfl
theorem sys_ref8_Less : Go.Eng.Sys Try.prog K_ref8_Less := sys_of' ⟨ok_ref8_put, trivial⟩
noncomputable def k_ref8_Less_ref8_put := PLift.up (call_fn (C := K_ref8_Less) (f := 50) (A := A_ref8_put) (p := p_ref8_put) (r := r_ref8_put) rfl)
def A_ref8_Less := Arms.cons (argT (List TRun)) (Arms.cons (argT (List TRun)) Arms.nil)
def p_ref8_Less (x : List TRun × List TRun × Unit) : Prop := x.1.length + x.2.1.length ≤ 1099511627
def r_ref8_Less (x : List TRun × List TRun × Unit) : AV := .t (sl (whereL .less x.1 x.2.1))
theorem body_ref8_Less (x : List TRun × List TRun × Unit) (hp : p_ref8_Less x) : avp K_ref8_Less G_ref8_Less (Ret K_ref8_Less [.tmp 4] fun v s' => Frz s' v (r_ref8_Less x)) (entry (A_ref8_Less.enc x) .empty) := by
  obtain ⟨l, m, ⟨⟩⟩ := x
  change l.length + m.length ≤ 1099511627 at hp
  change avp _ _ (Ret _ _ fun v s' => Frz1 s' v (sl (whereL .less l m))) (entry [.t (sl l), .t (sl m)] .empty)
  unfold G_ref8_Less
  simp only [vP.down, vS.down, vE.down, qA, qB, qC, qD, qE, qF, qG, reduceIte, reduceCtorEq, qH, qI, qJ, ↓avp_condG, ↓tf_arrow, ↓ft_arrow, hp, true_or, false_or, or_true, or_false, k_ref8_Less_ref8_put.down, A_ref8_put, p_ref8_put, r_ref8_put, putR_less]
  simp only [vP.down, vS.down, vE.down, qA, qB, qC, qD, qE, qF, qG, reduceIte, reduceCtorEq, qH, qI, qJ, ↓avp_condG, ↓tf_arrow, ↓ft_arrow, vT.down]
noncomputable def c_ref8_Less : Con := fnCon A_ref8_Less p_ref8_Less r_ref8_Less
theorem ok_ref8_Less : COk Try.prog 25 c_ref8_Less := fn_ok sys_ref8_Less mixed Try.func25 (by kernel_rfl) geq_ref8_Less Try.ntmps25 (by rw [Try.results25]) fun x hx => ⟨Nat.le_of_ble_eq_true rfl, body_ref8_Less x hx⟩
def G_ref8_Both : GCode := .seq (.region [⟨(some 4), none, .assign (.const (.slice none 0 0))⟩]) (.seq (.region [⟨(some 5), none, .move (.tmp 0)⟩, ⟨(some 6), none, .move (.tmp 1)⟩, ⟨(some 7), none, .call ⟨.value (.func 50), #[.tmp 5, .tmp 6, .const (.int .i64 2)], #[52, 52, 3]⟩⟩, ⟨(some 4), none, .assign (.tmp 7)⟩]) (.ret))
noncomputable def l_ref8_Both : List (Nat × Con) := [(50, c_ref8_put)]
noncomputable abbrev K_ref8_Both : Ctx := ctx (cl l_ref8_Both)
theorem geq_ref8_Both : gof K_ref8_Both Try.f76 = some G_ref8_Both.strip := by kernel_rfl
theorem sys_ref8_Both : Go.Eng.Sys Try.prog K_ref8_Both := sys_of' ⟨ok_ref8_put, trivial⟩
noncomputable def k_ref8_Both_ref8_put := PLift.up (call_fn (C := K_ref8_Both) (f := 50) (A := A_ref8_put) (p := p_ref8_put) (r := r_ref8_put) rfl)
def A_ref8_Both := Arms.cons (argT (List TRun)) (Arms.cons (argT (List TRun)) Arms.nil)
def p_ref8_Both (x : List TRun × List TRun × Unit) : Prop := x.1.length + x.2.1.length ≤ 1099511627
def r_ref8_Both (x : List TRun × List TRun × Unit) : AV := .t (sl (whereL .both x.1 x.2.1))
theorem body_ref8_Both (x : List TRun × List TRun × Unit) (hp : p_ref8_Both x) : avp K_ref8_Both G_ref8_Both (Ret K_ref8_Both [.tmp 4] fun v s' => Frz s' v (r_ref8_Both x)) (entry (A_ref8_Both.enc x) .empty) := by
  obtain ⟨l, m, ⟨⟩⟩ := x
  change l.length + m.length ≤ 1099511627 at hp
  change avp _ _ (Ret _ _ fun v s' => Frz1 s' v (sl (whereL .both l m))) (entry [.t (sl l), .t (sl m)] .empty)
  unfold G_ref8_Both
  simp only [vP.down, vS.down, vE.down, qA, qB, qC, qD, qE, qF, qG, reduceIte, reduceCtorEq, qH, qI, qJ, ↓avp_condG, ↓tf_arrow, ↓ft_arrow, hp, true_or, false_or, or_true, or_false, k_ref8_Both_ref8_put.down, A_ref8_put, p_ref8_put, r_ref8_put, putR_both]
  simp only [vP.down, vS.down, vE.down, qA, qB, qC, qD, qE, qF, qG, reduceIte, reduceCtorEq, qH, qI, qJ, ↓avp_condG, ↓tf_arrow, ↓ft_arrow, vT.down]
noncomputable def c_ref8_Both : Con := fnCon A_ref8_Both p_ref8_Both r_ref8_Both
theorem ok_ref8_Both : COk Try.prog 76 c_ref8_Both := fn_ok sys_ref8_Both mixed Try.func76 (by kernel_rfl) geq_ref8_Both Try.ntmps76 (by rw [Try.results76]) fun x hx => ⟨Nat.le_of_ble_eq_true rfl, body_ref8_Both x hx⟩
/-! ### Sectors as runs -/
theorem pw_len : ∀ {ys xs : List Int}, ys.Pairwise (· < ·) → (∀ y ∈ ys, y ∈ xs) → ys.length ≤ xs.length
  | [], _, _, _ => Nat.zero_le _
  | y :: t, xs, h, hs => by
    obtain ⟨h1, h2⟩ := List.pairwise_cons.1 h
    have hy := hs y (by simp)
    have := pw_len (ys := t) (xs := xs.erase y) h2 fun z hz => (List.mem_erase_of_ne (by have := h1 z hz; omega)).2 (hs z (by simp [hz]))
    rw [List.length_erase_of_mem hy] at this
    have : 0 < xs.length := List.length_pos_of_mem hy
    simp only [List.length_cons]
    omega
theorem nf_count {l : List TRun} {xs : List Int} (h : Nf l) (hs : ∀ i, hasR l i = true → i ∈ xs) : l.length ≤ xs.length := by
  have : (l.map (·.From)).Pairwise (· < ·) := by
    rw [List.pairwise_map]
    refine List.Pairwise.imp_of_mem (fun {a b} ha _ hab => ?_) h.pw
    have := h.ne a ha
    omega
  have := pw_len (xs := xs) this fun y hy => by
    obtain ⟨r, hr, rfl⟩ := List.mem_map.1 hy
    exact hs _ (hasR_iff.2 ⟨r, hr, Int.le_refl _, h.ne r hr⟩)
  simpa using this
theorem has_one {a i : Int} : hasR [⟨a, a + 1⟩] i = decide (i = a) := by
  rw [Bool.eq_iff_iff, hasR_iff]
  simp only [List.mem_singleton, decide_eq_true_eq]
  exact ⟨fun ⟨r, hr, h⟩ => by subst hr; dsimp only at h; omega, fun h => ⟨_, rfl, by dsimp only; omega⟩⟩
def okS8 (a : Int) : Bool := decide (0 ≤ a) && decide (a < 1073741824)
theorem fold_ofStep : ∀ {e : List Int} {o : List TRun} {b : Int}, e.Pairwise (· < ·) → Nf o → (∀ r ∈ o, r.To ≤ b) → (∀ x ∈ e, b ≤ x) → Nf (e.foldl ofStep o) ∧ ∀ i, hasR (e.foldl ofStep o) i = (hasR o i || (e.contains i && okS8 i))
  | [], o, b, _, ho, _, _ => ⟨ho, fun i => by simp⟩
  | a :: t, o, b, he, ho, hb, hl => by
    obtain ⟨h1, h2⟩ := List.pairwise_cons.1 he
    have hba := hl a (by simp)
    rw [List.foldl_cons]
    by_cases c : 0 ≤ a ∧ a < 1073741824
    · obtain ⟨q1, q2, q3⟩ := behindL_nf (o := o) (a := a) (b := a + 1) ho (fun r hr => by have := hb r hr; omega) (by omega)
      have e : ofStep o a = behindL o ⟨a, a + 1⟩ := if_pos c
      rw [e]
      obtain ⟨r1, r2⟩ := fold_ofStep h2 q1 q2 (fun x hx => by have := h1 x hx; omega)
      refine ⟨r1, fun i => ?_⟩
      rw [r2, q3]
      have : inR ⟨a, a + 1⟩ i = (decide (i = a) && okS8 i) := by
        rw [Bool.eq_iff_iff, inR_iff]
        simp only [okS8, Bool.and_eq_true, decide_eq_true_eq]
        omega
      rw [this, List.contains_cons, Bool.or_assoc, ← Bool.and_or_distrib_right]
      congr 2
    · have e : ofStep o a = o := if_neg c
      rw [e]
      obtain ⟨r1, r2⟩ := fold_ofStep (b := b) h2 ho hb (fun x hx => by have := h1 x hx; omega)
      refine ⟨r1, fun i => ?_⟩
      rw [r2, List.contains_cons]
      by_cases hia : i = a
      · have : okS8 i = false := by
          rw [← Bool.not_eq_true]
          simp only [okS8, Bool.and_eq_true, decide_eq_true_eq]
          omega
        rw [this]; simp
      · have : (i == a) = false := by simpa using hia
        rw [this, Bool.false_or]
theorem ofL_set (l : List Int) : Nf (ofL l) ∧ ∀ i, hasR (ofL l) i = (l.contains i && okS8 i) := by
  obtain ⟨h1, h2⟩ := cps_of l
  obtain ⟨b, hb⟩ : ∃ b : Int, ∀ x ∈ cpL (sortL l), b ≤ x := by
    generalize cpL (sortL l) = e at h1
    match e, h1 with
    | [], _ => exact ⟨0, fun _ h => by cases h⟩
    | a :: t, h => exact ⟨a, fun x hx => by rcases List.mem_cons.1 hx with rfl | hx; exact Int.le_refl _; have := (List.pairwise_cons.1 h).1 x hx; omega⟩
  obtain ⟨r1, r2⟩ := fold_ofStep h1 .nil (fun _ h => by cases h) hb
  refine ⟨r1, fun i => ?_⟩
  show hasR ((cpL (sortL l)).foldl ofStep []) i = _
  rw [r2]
  have : (cpL (sortL l)).contains i = l.contains i := by
    rw [Bool.eq_iff_iff, List.contains_iff_mem, List.contains_iff_mem, h2]
  rw [this]; rfl
def ofR1 (o : List TRun) (a : Int) : List TRun := if 0 ≤ a ∧ a < 1073741824 then whereL .add o [⟨a, a + 1⟩] else o
theorem ofR1_set {l : List Int} : ∀ {o : List TRun}, Nf o → Nf (l.foldl ofR1 o) ∧ ∀ i, hasR (l.foldl ofR1 o) i = (hasR o i || (l.contains i && okS8 i)) := by
  induction l with
  | nil => intro o ho; exact ⟨ho, fun i => by simp⟩
  | cons a t ih =>
    intro o ho
    rw [List.foldl_cons]
    by_cases c : 0 ≤ a ∧ a < 1073741824
    · have e : ofR1 o a = whereL .add o [⟨a, a + 1⟩] := if_pos c
      obtain ⟨q1, q2⟩ := whereL_set .add o [⟨a, a + 1⟩]
      rw [e]
      obtain ⟨r1, r2⟩ := ih q1
      refine ⟨r1, fun i => ?_⟩
      rw [r2, q2, has_one, List.contains_cons]
      show ((hasR o i || decide (i = a)) || _) = _
      have : decide (i = a) = (decide (i = a) && okS8 i) := by
        rw [Bool.eq_iff_iff]
        simp only [okS8, Bool.and_eq_true, decide_eq_true_eq]
        omega
      rw [this, Bool.or_assoc, ← Bool.and_or_distrib_right]
      congr 2
    · have e : ofR1 o a = o := if_neg c
      rw [e]
      obtain ⟨r1, r2⟩ := ih ho
      refine ⟨r1, fun i => ?_⟩
      rw [r2, List.contains_cons]
      by_cases hia : i = a
      · have : okS8 i = false := by
          rw [← Bool.not_eq_true]
          simp only [okS8, Bool.and_eq_true, decide_eq_true_eq]
          omega
        rw [this]; simp
      · have : (i == a) = false := by simpa using hia
        rw [this, Bool.false_or]
theorem ofR_eq (l : List Int) : l.foldl ofR1 [] = ofL l := nf_ext (ofR1_set .nil).1 (ofL_set l).1 fun i => by rw [(ofR1_set .nil).2, (ofL_set l).2]; rfl
theorem ofL_len (l : List Int) : (ofL l).length ≤ l.length := nf_count (ofL_set l).1 fun i hi => by
  rw [(ofL_set l).2, Bool.and_eq_true] at hi
  exact List.contains_iff_mem.1 hi.1
def G_ref8_Of : GCode := .seq (.region [⟨(some 2), none, .assign (.const (.slice none 0 0))⟩]) (.seq (.region [⟨(some 3), none, .assign (.const (.slice none 0 0))⟩]) (.seq (.seq (.region [⟨(some 4), none, .assign (.const (.int .i64 0))⟩]) (.block 0 (.loop (.seq .weak (.seq (.seq (.region [⟨(some 5), none, .move (.tmp 4)⟩, ⟨(some 6), none, .move (.tmp 0)⟩, ⟨(some 7), none, .call ⟨.builtin .len, #[.tmp 6], #[58]⟩⟩, ⟨(some 8), none, .binOp .lss 3 (.tmp 5) (.tmp 7) 3⟩]) (.cond (.tmp 8) (.skip) (.exit 0))) (.seq (.block 1 (.seq (.region [⟨(some 11), none, .move (.tmp 0)⟩, ⟨(some 12), none, .move (.tmp 4)⟩, ⟨(some 13), none, .indexAddr 58 (.tmp 11) (.tmp 12)⟩, ⟨(some 14), none, .load 3 (.tmp 13)⟩, ⟨(some 15), none, .binOp .geq 3 (.tmp 14) (.const (.int .i64 0)) 3⟩, ⟨(some 16), none, .move (.tmp 15)⟩, ⟨(some 17), (some (16, true)), .move (.tmp 0)⟩, ⟨(some 18), (some (16, true)), .move (.tmp 4)⟩, ⟨(some 19), (some (16, true)), .indexAddr 58 (.tmp 17) (.tmp 18)⟩, ⟨(some 20), (some (16, true)), .load 3 (.tmp 19)⟩, ⟨(some 21), (some (16, true)), .binOp .lss 3 (.tmp 20) (.const (.int .i64 1073741824)) 3⟩, ⟨(some 22), none, .pick (.tmp 16) (.tmp 21) (.const (.bool false))⟩]) (.cond (.tmp 22) (.region [⟨(some 23), none, .move (.tmp 3)⟩, ⟨(some 24), none, .move (.tmp 0)⟩, ⟨(some 25), none, .move (.tmp 4)⟩, ⟨(some 26), none, .indexAddr 58 (.tmp 24) (.tmp 25)⟩, ⟨(some 27), none, .load 3 (.tmp 26)⟩, ⟨(some 28), none, .move (.tmp 0)⟩, ⟨(some 29), none, .move (.tmp 4)⟩, ⟨(some 30), none, .indexAddr 58 (.tmp 28) (.tmp 29)⟩, ⟨(some 31), none, .load 3 (.tmp 30)⟩, ⟨(some 32), none, .binOp .add 3 (.tmp 31) (.const (.int .i64 1)) 3⟩, ⟨(some 33), none, .build 69 #[(0, .tmp 27), (1, .tmp 32)]⟩, ⟨(some 34), none, .buildSlice 52 1 #[(0, .tmp 33)]⟩, ⟨(some 35), none, .call ⟨.value (.func 95), #[.tmp 23, .tmp 34], #[52, 52]⟩⟩, ⟨(some 3), none, .assign (.tmp 35)⟩]) (.skip)))) (.region [⟨(some 9), none, .move (.tmp 4)⟩, ⟨(some 10), none, .binOp .add 3 (.tmp 9) (.const (.int .i64 1)) 3⟩, ⟨(some 4), none, .assign (.tmp 10)⟩]))))))) (.seq (.region [⟨(some 36), none, .move (.tmp 3)⟩, ⟨(some 2), none, .assign (.tmp 36)⟩]) (.ret))))
noncomputable def l_ref8_Of : List (Nat × Con) := [(95, c_ref8_Add)]
noncomputable abbrev K_ref8_Of : Ctx := ctx (cl l_ref8_Of)
theorem geq_ref8_Of : gof K_ref8_Of Try.f78 = some G_ref8_Of.strip := by kernel_rfl
theorem sys_ref8_Of : Go.Eng.Sys Try.prog K_ref8_Of := sys_of' ⟨ok_ref8_Add, trivial⟩
theorem hm_ref8_Of : ConMono K_ref8_Of := conMono_of sys_ref8_Of.con
noncomputable def k_ref8_Of_ref8_Add := PLift.up (call_fn (C := K_ref8_Of) (f := 95) (A := A_ref8_Add) (p := p_ref8_Add) (r := r_ref8_Add) rfl)
def A_ref8_Of := Arms.cons (argT (List Int)) Arms.nil
def p_ref8_Of (x : List Int × Unit) : Prop := x.1.length ≤ 1000000000
def r_ref8_Of (x : List Int × Unit) : AV := .t (sl (ofL x.1))
set_option maxRecDepth 100000 in
theorem body_ref8_Of (x : List Int × Unit) (hp : p_ref8_Of x) : avp K_ref8_Of G_ref8_Of (Ret K_ref8_Of [.tmp 2] fun v s' => Frz s' v (r_ref8_Of x)) (entry (A_ref8_Of.enc x) .empty) := by
  obtain ⟨l, ⟨⟩⟩ := x
  change l.length ≤ 1000000000 at hp
  change avp _ _ (Ret _ _ fun v s' => Frz1 s' v (sl (ofL l))) (entry [.t (sl l)] .empty)
  unfold G_ref8_Of
  simp only [vP.down, vS.down, vE.down, qA, qB, qC, qD, qE, qF, qG, reduceIte, reduceCtorEq, qH, qI, qJ, ↓avp_condG, ↓tf_arrow, ↓ft_arrow]
  refine loop_weak hm_ref8_Of (fun k σ => ∃ (i : Nat), k = l.length - i ∧ i ≤ l.length ∧ σ = mkS [(0, .t (sl l)), (3, .t (sl ((l.take i).foldl ofR1 []))), (4, .t (.int .i64 (i : Nat)))] .empty) ⟨0, rfl, by omega, rfl⟩ (wk_to fewer_refl (by simp only [vP.down, vS.down, vE.down, qA, qB, qC, qD, qE, qF, qG, reduceIte, reduceCtorEq, qH, qI, qJ, ↓avp_condG, ↓tf_arrow, ↓ft_arrow, wP.down, Int.natCast_zero, List.take_zero, List.foldl_nil])) ?_
  rintro k _ ⟨i, rfl, hi, rfl⟩
  have hi1 : IntKind.i64.wrap ((i : Int) + 1) = ((i + 1 : Nat) : Int) := by rw [IntWalk.i64_in _ (by omega)]; rfl
  by_cases hlt : i < l.length
  case neg =>
    obtain rfl : i = l.length := by omega
    have hge : ¬ ((l.length : Int) < (l.length : Int)) := by omega
    simp only [vP.down, vS.down, vE.down, qA, qB, qC, qD, qE, qF, qG, reduceIte, reduceCtorEq, qH, qI, qJ, ↓avp_condG, ↓tf_arrow, ↓ft_arrow, hge, List.take_length, ofR_eq]
    simp only [vP.down, vS.down, vE.down, qA, qB, qC, qD, qE, qF, qG, reduceIte, reduceCtorEq, qH, qI, qJ, ↓avp_condG, ↓tf_arrow, ↓ft_arrow, vT.down]
  have hlt' : (i : Int) < (l.length : Int) := by omega
  have hix := idx_at (C := K_ref8_Of) (l := l) ty_Lint ty_int rfl hlt .i64
  have hn := fold_next (f := ofR1) (b := []) hlt
  have hol : ((l.take i).foldl ofR1 []).length ≤ i := by
    rw [ofR_eq]
    have := ofL_len (l.take i)
    rw [List.length_take] at this; omega
  obtain ⟨a, ha⟩ : ∃ a, a = l.getD i default := ⟨_, rfl⟩
  rw [← ha] at hix hn
  obtain ⟨o, hO⟩ : ∃ o, o = (l.take i).foldl ofR1 [] := ⟨_, rfl⟩
  rw [← hO] at hn hol ⊢
  by_cases c1 : 0 ≤ a
  case neg =>
    have hs : ofR1 o a = o := if_neg (fun h => c1 h.1)
    rw [hs] at hn
    simp only [vP.down, vS.down, vE.down, qA, qB, qC, qD, qE, qF, qG, reduceIte, reduceCtorEq, qH, qI, qJ, ↓avp_condG, ↓tf_arrow, ↓ft_arrow, hlt', hix, c1, ge_iff_le, pick_of, pick_ot, false_implies]
    exact round_to (l.length - (i + 1)) [(0, .t (sl l)), (3, .t (sl ((l.take (i + 1)).foldl ofR1 []))), (4, .t (.int .i64 (i + 1 : Nat)))] .empty (by omega) fewer_refl (by simp only [vP.down, vS.down, vE.down, qA, qB, qC, qD, qE, qF, qG, reduceIte, reduceCtorEq, qH, qI, qJ, ↓avp_condG, ↓tf_arrow, ↓ft_arrow, wP.down, hi1, hn]) ⟨i + 1, rfl, by omega, rfl⟩
  by_cases c2 : a < 1073741824
  case neg =>
    have hs : ofR1 o a = o := if_neg (fun h => c2 h.2)
    rw [hs] at hn
    simp only [vP.down, vS.down, vE.down, qA, qB, qC, qD, qE, qF, qG, reduceIte, reduceCtorEq, qH, qI, qJ, ↓avp_condG, ↓tf_arrow, ↓ft_arrow, hlt', hix, c1, c2, ge_iff_le, pick_of, pick_ot, false_implies]
    exact round_to (l.length - (i + 1)) [(0, .t (sl l)), (3, .t (sl ((l.take (i + 1)).foldl ofR1 []))), (4, .t (.int .i64 (i + 1 : Nat)))] .empty (by omega) fewer_refl (by simp only [vP.down, vS.down, vE.down, qA, qB, qC, qD, qE, qF, qG, reduceIte, reduceCtorEq, qH, qI, qJ, ↓avp_condG, ↓tf_arrow, ↓ft_arrow, wP.down, hi1, hn]) ⟨i + 1, rfl, by omega, rfl⟩
  have hs : ofR1 o a = whereL .add o [⟨a, a + 1⟩] := if_pos ⟨c1, c2⟩
  rw [hs] at hn
  have hw : IntKind.i64.wrap (a + 1) = a + 1 := IntWalk.i64_in _ (by omega)
  have hd : (argT (List TRun)).dec (.t (.seq 2 [[.int .i64 a, .int .i64 (a + 1)]])) = some [⟨a, a + 1⟩] := argT_sl (l := [(⟨a, a + 1⟩ : TRun)])
  have hle : o.length + 1 ≤ 1099511627 := by omega
  simp only [vP.down, vS.down, vE.down, qA, qB, qC, qD, qE, qF, qG, reduceIte, reduceCtorEq, qH, qI, qJ, ↓avp_condG, ↓tf_arrow, ↓ft_arrow, hlt', hix, c1, c2, hw, hd, hle, ge_iff_le, pick_of, pick_ot, false_implies, k_ref8_Of_ref8_Add.down, A_ref8_Add, p_ref8_Add, r_ref8_Add]
  intro g6 hg6
  exact round_to (l.length - (i + 1)) [(0, .t (sl l)), (3, .t (sl ((l.take (i + 1)).foldl ofR1 []))), (4, .t (.int .i64 (i + 1 : Nat)))] .empty (by omega) fewer_empty (by simp only [vP.down, vS.down, vE.down, qA, qB, qC, qD, qE, qF, qG, reduceIte, reduceCtorEq, qH, qI, qJ, ↓avp_condG, ↓tf_arrow, ↓ft_arrow, wP.down, hi1, hn]) ⟨i + 1, rfl, by omega, rfl⟩
noncomputable def c_ref8_Of : Con := fnCon A_ref8_Of p_ref8_Of r_ref8_Of
theorem ok_ref8_Of : COk Try.prog 78 c_ref8_Of := fn_ok sys_ref8_Of mixed Try.func78 (by kernel_rfl) geq_ref8_Of Try.ntmps78 (by rw [Try.results78]) fun x hx => ⟨Nat.le_of_ble_eq_true rfl, body_ref8_Of x hx⟩
end Go.Proofs.Ytofcmdkmhbbbjaa
namespace Go.Proofs.Ytofcmdkmhbbbjaa
open Go Go.Eng
set_option maxRecDepth 100000
def numV (l : List Byt) (n : Nat) (m : Int) : Int := if l.length ≤ n ∨ m < 1 then 0 else ((l.getD n default).v.toNat : Int).tmod m
def numN (l : List Byt) (n : Nat) (m : Int) : Nat := if l.length ≤ n ∨ m < 1 then n else n + 1
def pkE (l : List Byt) (n : Nat) : Entry := .box [.t (sl l), .t (.int .i64 (n : Int))] false
theorem numV_bd {l : List Byt} {n : Nat} {m : Int} (h : 1 ≤ m) : 0 ≤ numV l n m ∧ numV l n m < m := by
  unfold numV
  split
  · omega
  · refine ⟨Int.tmod_nonneg _ (by omega), Int.tmod_lt_of_pos _ (by omega)⟩
theorem numN_bd {l : List Byt} {n : Nat} {m : Int} (h : n ≤ l.length) : numN l n m ≤ l.length := by
  unfold numN
  split <;> omega
def G_made_Made : GCode := .seq (.region [⟨(some 2), none, .assign (.const (.pointer none))⟩]) (.seq (.region [⟨(some 3), none, .move (.tmp 0)⟩, ⟨(some 4), none, .build 77 #[(0, .tmp 3)]⟩, ⟨(some 5), none, .box 77 (.tmp 4)⟩, ⟨(some 2), none, .assign (.tmp 5)⟩]) (.ret))
noncomputable def l_made_Made : List (Nat × Con) := []
noncomputable abbrev K_made_Made : Ctx := ctx (cl l_made_Made)
theorem geq_made_Made : gof K_made_Made Try.f11 = some G_made_Made.strip := by kernel_rfl
theorem sys_made_Made : Go.Eng.Sys Try.prog K_made_Made := sys_of' (l := []) trivial
def q_made_Made (xs : List AV) : Prop := ∃ l : List Byt, xs = [.t (sl l)]
def e_made_Made (xs : List AV) : Entry := .box [xs.headD .unk, .t (.int .i64 0)] false
def mk_made_Made (g : Nat) : AV := .ptr g 0
theorem body_made_Made (xs : List AV) (h : q_made_Made xs) : xs.length ≤ 6 ∧ avp K_made_Made G_made_Made (Ret K_made_Made [.tmp 2] fun r s' => ∃ g, r = mk_made_Made g ∧ s'.f g = some (e_made_Made xs)) (entry xs .empty) := by
  obtain ⟨l, rfl⟩ := h
  refine ⟨by simp, ?_⟩
  unfold G_made_Made
  simp only [vP.down, vS.down, vE.down, qA, qB, qC, qD, qE, qF, qG, reduceIte, reduceCtorEq, qH, qI, qJ, ↓avp_condG, ↓tf_arrow, ↓ft_arrow]
  intro g hg
  simp only [vP.down, vS.down, vE.down, qA, qB, qC, qD, qE, qF, qG, reduceIte, reduceCtorEq, qH, qI, qJ, ↓avp_condG, ↓tf_arrow, ↓ft_arrow, vT.down]
  exact ⟨g, rfl, Store.set_same _ _ _⟩
noncomputable def c_made_Made : Con := newCon q_made_Made e_made_Made mk_made_Made
theorem ok_made_Made : COk Try.prog 11 c_made_Made := fn_nok sys_made_Made mixed Try.func11 (by kernel_rfl) geq_made_Made Try.ntmps11 (by rw [Try.results11]) body_made_Made
def G_made_Picks_Num : GCode := .seq (.region [⟨(some 4), none, .assign (.const (.int .i64 0))⟩]) (.seq (.seq (.region [⟨(some 5), none, .move (.tmp 0)⟩, ⟨(some 6), none, .nilCheck (.tmp 5)⟩, ⟨(some 7), none, .fieldAddr 77 (.tmp 6) 1⟩, ⟨(some 8), none, .load 3 (.tmp 7)⟩, ⟨(some 9), none, .move (.tmp 0)⟩, ⟨(some 10), none, .nilCheck (.tmp 9)⟩, ⟨(some 11), none, .fieldAddr 77 (.tmp 10) 0⟩, ⟨(some 12), none, .load 22 (.tmp 11)⟩, ⟨(some 13), none, .call ⟨.builtin .len, #[.tmp 12], #[22]⟩⟩, ⟨(some 14), none, .binOp .geq 3 (.tmp 8) (.tmp 13) 3⟩, ⟨(some 15), none, .move (.tmp 14)⟩, ⟨(some 16), (some (15, false)), .move (.tmp 1)⟩, ⟨(some 17), (some (15, false)), .binOp .lss 3 (.tmp 16) (.const (.int .i64 1)) 3⟩, ⟨(some 18), none, .pick (.tmp 15) (.const (.bool true)) (.tmp 17)⟩]) (.cond (.tmp 18) (.seq (.region [⟨(some 4), none, .assign (.const (.int .i64 0))⟩]) (.ret)) (.skip))) (.seq (.region [⟨(some 19), none, .move (.tmp 0)⟩, ⟨(some 20), none, .nilCheck (.tmp 19)⟩, ⟨(some 21), none, .fieldAddr 77 (.tmp 20) 1⟩, ⟨(some 22), none, .load 3 (.tmp 21)⟩, ⟨(some 23), none, .binOp .add 3 (.tmp 22) (.const (.int .i64 1)) 3⟩, ⟨(some 24), none, .nilCheck (.tmp 19)⟩, ⟨(some 25), none, .fieldAddr 77 (.tmp 24) 1⟩, ⟨none, none, .store 3 (.tmp 25) (.tmp 23)⟩]) (.seq (.region [⟨(some 26), none, .move (.tmp 0)⟩, ⟨(some 27), none, .nilCheck (.tmp 26)⟩, ⟨(some 28), none, .fieldAddr 77 (.tmp 27) 0⟩, ⟨(some 29), none, .load 22 (.tmp 28)⟩, ⟨(some 30), none, .move (.tmp 0)⟩, ⟨(some 31), none, .nilCheck (.tmp 30)⟩, ⟨(some 32), none, .fieldAddr 77 (.tmp 31) 1⟩, ⟨(some 33), none, .load 3 (.tmp 32)⟩, ⟨(some 34), none, .binOp .sub 3 (.tmp 33) (.const (.int .i64 1)) 3⟩, ⟨(some 35), none, .indexAddr 22 (.tmp 29) (.tmp 34)⟩, ⟨(some 36), none, .load 5 (.tmp 35)⟩, ⟨(some 37), none, .convert 5 3 (.tmp 36)⟩, ⟨(some 38), none, .move (.tmp 1)⟩, ⟨(some 39), none, .binOp .rem 3 (.tmp 37) (.tmp 38) 3⟩, ⟨(some 4), none, .assign (.tmp 39)⟩]) (.ret))))
noncomputable def l_made_Picks_Num : List (Nat × Con) := []
noncomputable abbrev K_made_Picks_Num : Ctx := ctx (cl l_made_Picks_Num)
theorem geq_made_Picks_Num : gof K_made_Picks_Num Try.f41 = some G_made_Picks_Num.strip := by kernel_rfl
theorem sys_made_Picks_Num : Go.Eng.Sys Try.prog K_made_Picks_Num := sys_of' (l := []) trivial
def m_made_Picks_Num : List Bool := [true, false]
def F_made_Picks_Num (xs : List AV) (s : Store) (Q : AV → Store → Prop) : Prop :=
  ∃ (g : Nat) (l : List Byt) (n : Nat) (m : Int), xs = [.ptr g 0, .t (.int .i64 m)] ∧ s.f g = some (pkE l n) ∧ l.length ≤ 1099511627776 ∧ n ≤ l.length ∧ Q (.t (.int .i64 (numV l n m))) (s.set g (some (pkE l (numN l n m))))
theorem mono_made_Picks_Num (xs : List AV) (s : Store) (Q Q' : AV → Store → Prop) (hq : ∀ r t, Q r t → Q' r t) : F_made_Picks_Num xs s Q → F_made_Picks_Num xs s Q' :=
  fun ⟨g, l, n, m, a, b, c, d, e⟩ => ⟨g, l, n, m, a, b, c, d, hq _ _ e⟩
theorem ex_made_Picks_Num (xs : List AV) (s : Store) (Q : AV → Store → Prop) : F_made_Picks_Num xs s Q → ∃ r t, Q r t := fun ⟨_, _, _, _, _, _, _, _, e⟩ => ⟨_, _, e⟩
theorem body_made_Picks_Num (xs : List AV) (s : Store) (Q : AV → Store → Prop) (h : F_made_Picks_Num xs s Q) : xs.length ≤ 40 ∧ avp K_made_Picks_Num G_made_Picks_Num (Ret K_made_Picks_Num [.tmp 4] fun r s' => ∃ s'', Sub s'' s' ∧ Q r s'') (entry xs s) := by
  obtain ⟨g, l, n, m, rfl, hg, hl, hn, hq⟩ := h
  refine ⟨by simp, ?_⟩
  unfold pkE at hg
  unfold G_made_Picks_Num
  by_cases hge : l.length ≤ n
  · have c1 : (l.length : Int) ≤ (n : Int) := by omega
    simp only [vP.down, vS.down, vE.down, qA, qB, qC, qD, qE, qF, qG, reduceIte, reduceCtorEq, qH, qI, qJ, ↓avp_condG, ↓tf_arrow, ↓ft_arrow, hg, c1, false_implies]
    simp only [vP.down, vS.down, vE.down, qA, qB, qC, qD, qE, qF, qG, reduceIte, reduceCtorEq, qH, qI, qJ, ↓avp_condG, ↓tf_arrow, ↓ft_arrow, vT.down]
    rw [numV, if_pos (.inl hge), numN, if_pos (.inl hge)] at hq
    refine ⟨_, fun k e hk => ?_, hq⟩
    rw [set_f] at hk
    by_cases hkg : k = g
    · subst hkg; rw [if_pos rfl] at hk; rw [hg]; exact hk
    · rwa [if_neg hkg] at hk
  have c1 : ¬ (l.length : Int) ≤ (n : Int) := by omega
  by_cases hm : m < 1
  · simp only [vP.down, vS.down, vE.down, qA, qB, qC, qD, qE, qF, qG, reduceIte, reduceCtorEq, qH, qI, qJ, ↓avp_condG, ↓tf_arrow, ↓ft_arrow, hg, c1, hm, false_implies]
    simp only [vP.down, vS.down, vE.down, qA, qB, qC, qD, qE, qF, qG, reduceIte, reduceCtorEq, qH, qI, qJ, ↓avp_condG, ↓tf_arrow, ↓ft_arrow, vT.down]
    rw [numV, if_pos (.inr hm), numN, if_pos (.inr hm)] at hq
    refine ⟨_, fun k e hk => ?_, hq⟩
    rw [set_f] at hk
    by_cases hkg : k = g
    · subst hkg; rw [if_pos rfl] at hk; rw [hg]; exact hk
    · rwa [if_neg hkg] at hk
  have hno : ¬ (l.length ≤ n ∨ m < 1) := fun h => h.elim hge hm
  rw [numV, if_neg hno, numN, if_neg hno] at hq
  have w1 : IntKind.i64.wrap ((n : Int) + 1) = ((n + 1 : Nat) : Int) := by rw [IntWalk.i64_in _ (by omega)]; rfl
  have w2 : IntKind.i64.wrap (((n + 1 : Nat) : Int) - 1) = (n : Int) := by rw [IntWalk.i64_in _ (by omega)]; omega
  have w3 : ∀ x : UInt8, IntKind.i64.wrap (x.toNat : Int) = (x.toNat : Int) := fun x => IntWalk.i64_in _ (by have := x.toNat_lt; omega)
  simp only [vP.down, vS.down, vE.down, qA, qB, qC, qD, qE, qF, qG, reduceIte, reduceCtorEq, qH, qI, qJ, ↓avp_condG, ↓tf_arrow, ↓ft_arrow, hg, c1, hm, w1, w2, w3, false_implies]
  ((repeat' with_reducible refine And.intro ?_ ?_) <;> try (first | omega | (simp only [List.length_take, List.length_drop, List.length_append, List.length_map, List.length_replicate] <;> omega)))
  simp only [vP.down, vS.down, vE.down, qA, qB, qC, qD, qE, qF, qG, reduceIte, reduceCtorEq, qH, qI, qJ, ↓avp_condG, ↓tf_arrow, ↓ft_arrow, vT.down]
  exact ⟨_, fun k e hk => hk, hq⟩
noncomputable def c_made_Picks_Num : Con := .gen m_made_Picks_Num F_made_Picks_Num
theorem ok_made_Picks_Num : COk Try.prog 41 c_made_Picks_Num := fn_gok sys_made_Picks_Num mixed Try.func41 (by kernel_rfl) geq_made_Picks_Num Try.ntmps41 (by rw [Try.results41]) mono_made_Picks_Num ex_made_Picks_Num body_made_Picks_Num
def PkI (s S : Store) (g : Nat) (l : List Byt) : Prop := ∃ n, S.f g = some (pkE l n) ∧ n ≤ l.length ∧ l.length ≤ 1099511627776 ∧ ∀ k e, k ≠ g → s.f k = some e → S.f k = some e
theorem PkI.refl' {s S : Store} {g : Nat} {l : List Byt} (h : PkI s S g l) : PkI S S g l := let ⟨n, a, b, c, _⟩ := h; ⟨n, a, b, c, fun _ _ _ h => h⟩
theorem PkI.trans {s S S' : Store} {g : Nat} {l : List Byt} (h : PkI s S g l) (h' : PkI S S' g l) : PkI s S' g l := let ⟨_, _, _, _, d⟩ := h; let ⟨n, a, b, c, d'⟩ := h'; ⟨n, a, b, c, fun k e hk hs => d' k e hk (d k e hk hs)⟩
theorem PkI.fresh {s S : Store} {g : Nat} {l : List Byt} (h : PkI s S g l) {k : Nat} {e : Option Entry} (hk : S.f k = none) : PkI s (S.set k e) g l := by
  obtain ⟨n, a, b, c, d⟩ := h
  refine ⟨n, ?_, b, c, fun j e' hj hs => ?_⟩
  · rw [Store.set_other _ _ (fun h => by rw [← h, a] at hk; cases hk)]; exact a
  · have := d j e' hj hs
    rw [Store.set_other _ _ (fun h => by rw [← h, this] at hk; cases hk)]; exact this
theorem PkI.box {s S : Store} {g : Nat} {l : List Byt} (h : PkI s S g l) {k : Nat} {e : Option Entry} (hk : s.f k = none) (hkg : k ≠ g) : PkI s (S.set k e) g l := by
  obtain ⟨n, a, b, c, d⟩ := h
  refine ⟨n, ?_, b, c, fun j e' hj hs => ?_⟩
  · rw [Store.set_other _ _ hkg.symm]; exact a
  · rw [Store.set_other _ _ (fun h => by rw [h, hk] at hs; cases hs)]; exact d j e' hj hs
theorem PkI.keep {s S : Store} {g : Nat} {l : List Byt} (h : PkI s S g l) {k : Nat} {e : Entry} (hk : s.f k = some e) (hkg : k ≠ g) : S.f k = some e := let ⟨_, _, _, _, d⟩ := h; d k e hkg hk
theorem PkI.ne {s S : Store} {g : Nat} {l : List Byt} (h : PkI s S g l) {k : Nat} (hk : S.f k = none) : k ≠ g := fun e => by
  obtain ⟨n, a, _⟩ := h
  rw [e, a] at hk; cases hk
theorem PkI.old {s S : Store} {g : Nat} {l : List Byt} (h : PkI s S g l) {k : Nat} (hk : S.f k = none) : s.f k = none := by
  cases hs : s.f k with
  | none => rfl
  | some e => have := h.keep hs (h.ne hk); rw [hk] at this; cases this
theorem num_any {s : Store} {g : Nat} {l : List Byt} {m : Int} {Q : AV → Store → Prop} (h : PkI s s g l) (hm : 1 ≤ m) (hq : ∀ v S, 0 ≤ v → v < m → PkI s S g l → Q (.t (.int .i64 v)) S) : F_made_Picks_Num [.ptr g 0, .t (.int .i64 m)] s Q := by
  obtain ⟨n, a, b, c, _⟩ := h
  refine ⟨g, l, n, m, rfl, a, c, b, ?_⟩
  obtain ⟨h1, h2⟩ := numV_bd (l := l) (n := n) hm
  exact hq _ _ h1 h2 ⟨_, Store.set_same _ _ _, numN_bd b, c, fun k e hk hs => by rw [Store.set_other _ _ hk]; exact hs⟩
structure Sm (m : Int) (L : List TRun) : Prop where
  nf : Nf L
  lo : ∀ r ∈ L, 14 ≤ r.From
  hi : ∀ r ∈ L, r.To ≤ 54
  len : (L.length : Int) ≤ m
theorem Sm.nil {m : Int} (h : 0 ≤ m) : Sm m [] := ⟨.nil, fun _ h => (by cases h), fun _ h => (by cases h), h⟩
def G_made_Picks_Runs : GCode := .seq (.region [⟨(some 4), none, .assign (.const (.slice none 0 0))⟩]) (.seq (.region [⟨(some 5), none, .assign (.const (.slice none 0 0))⟩]) (.seq (.region [⟨(some 9), none, .move (.tmp 0)⟩, ⟨(some 10), none, .call ⟨.value (.func 41), #[.tmp 9, .const (.int .i64 5)], #[38, 3]⟩⟩, ⟨(some 11), none, .binOp .add 3 (.const (.int .i64 14)) (.tmp 10) 3⟩, ⟨(some 6), none, .assign (.tmp 11)⟩]) (.seq (.seq (.region [⟨(some 12), none, .move (.tmp 0)⟩, ⟨(some 13), none, .move (.tmp 1)⟩, ⟨(some 14), none, .binOp .add 3 (.tmp 13) (.const (.int .i64 1)) 3⟩, ⟨(some 15), none, .call ⟨.value (.func 41), #[.tmp 12, .tmp 14], #[38, 3]⟩⟩, ⟨(some 7), none, .assign (.tmp 15)⟩]) (.block 0 (.loop (.seq .weak (.seq (.seq (.region [⟨(some 16), none, .move (.tmp 7)⟩, ⟨(some 17), none, .binOp .gtr 3 (.tmp 16) (.const (.int .i64 0)) 3⟩]) (.cond (.tmp 17) (.skip) (.exit 0))) (.seq (.block 1 (.seq (.region [⟨(some 20), none, .move (.tmp 6)⟩, ⟨(some 21), none, .move (.tmp 6)⟩, ⟨(some 22), none, .binOp .add 3 (.tmp 21) (.const (.int .i64 1)) 3⟩, ⟨(some 23), none, .move (.tmp 0)⟩, ⟨(some 24), none, .call ⟨.value (.func 41), #[.tmp 23, .const (.int .i64 4)], #[38, 3]⟩⟩, ⟨(some 25), none, .binOp .add 3 (.tmp 22) (.tmp 24) 3⟩, ⟨(some 26), none, .build 69 #[(0, .tmp 20), (1, .tmp 25)]⟩, ⟨(some 8), none, .alloc 69⟩, ⟨none, none, .store 69 (.tmp 8) (.tmp 26)⟩]) (.seq (.seq (.region [⟨(some 27), none, .fieldAddr 69 (.tmp 8) 1⟩, ⟨(some 28), none, .load 3 (.tmp 27)⟩, ⟨(some 29), none, .binOp .gtr 3 (.tmp 28) (.const (.int .i64 54)) 3⟩]) (.cond (.tmp 29) (.seq (.region [⟨(some 30), none, .move (.tmp 5)⟩, ⟨(some 4), none, .assign (.tmp 30)⟩]) (.ret)) (.skip))) (.seq (.region [⟨(some 31), none, .move (.tmp 5)⟩, ⟨(some 32), none, .load 69 (.tmp 8)⟩, ⟨(some 33), none, .buildSlice 52 1 #[(0, .tmp 32)]⟩, ⟨(some 34), none, .call ⟨.builtin .append, #[.tmp 31, .tmp 33], #[52, 52]⟩⟩, ⟨(some 5), none, .assign (.tmp 34)⟩]) (.orders (.one ⟨(some 35), none, .fieldAddr 69 (.tmp 8) 1⟩ (.one ⟨(some 38), none, .move (.tmp 0)⟩ (.both (.one ⟨(some 36), none, .load 3 (.tmp 35)⟩ (.one ⟨(some 37), none, .binOp .add 3 (.tmp 36) (.const (.int .i64 1)) 3⟩ (.one ⟨(some 39), none, .call ⟨.value (.func 41), #[.tmp 38, .const (.int .i64 6)], #[38, 3]⟩⟩ (.one ⟨(some 40), none, .binOp .add 3 (.tmp 37) (.tmp 39) 3⟩ (.one ⟨(some 6), none, .assign (.tmp 40)⟩ (.done)))))) (.one ⟨(some 39), none, .call ⟨.value (.func 41), #[.tmp 38, .const (.int .i64 6)], #[38, 3]⟩⟩ (.one ⟨(some 36), none, .load 3 (.tmp 35)⟩ (.one ⟨(some 37), none, .binOp .add 3 (.tmp 36) (.const (.int .i64 1)) 3⟩ (.one ⟨(some 40), none, .binOp .add 3 (.tmp 37) (.tmp 39) 3⟩ (.one ⟨(some 6), none, .assign (.tmp 40)⟩ (.done)))))))))))))) (.region [⟨(some 18), none, .move (.tmp 7)⟩, ⟨(some 19), none, .binOp .sub 3 (.tmp 18) (.const (.int .i64 1)) 3⟩, ⟨(some 7), none, .assign (.tmp 19)⟩]))))))) (.seq (.region [⟨(some 41), none, .move (.tmp 5)⟩, ⟨(some 4), none, .assign (.tmp 41)⟩]) (.ret)))))
noncomputable def l_made_Picks_Runs : List (Nat × Con) := [(41, c_made_Picks_Num)]
noncomputable abbrev K_made_Picks_Runs : Ctx := ctx (cl l_made_Picks_Runs)
theorem geq_made_Picks_Runs : gof K_made_Picks_Runs Try.f24 = some G_made_Picks_Runs.strip := by kernel_rfl
theorem sys_made_Picks_Runs : Go.Eng.Sys Try.prog K_made_Picks_Runs := sys_of' ⟨ok_made_Picks_Num, trivial⟩
theorem hm_made_Picks_Runs : ConMono K_made_Picks_Runs := conMono_of sys_made_Picks_Runs.con
noncomputable def k_made_Picks_Runs_made_Picks_Num := PLift.up (call_gen (C := K_made_Picks_Runs) (f := 41) (modes := m_made_Picks_Num) (F := F_made_Picks_Num) rfl)
def m_made_Picks_Runs : List Bool := [true, false]
def F_made_Picks_Runs (xs : List AV) (s : Store) (Q : AV → Store → Prop) : Prop := ∃ (g : Nat) (l : List Byt) (m : Int), xs = [.ptr g 0, .t (.int .i64 m)] ∧ PkI s s g l ∧ 0 ≤ m ∧ m ≤ 1000 ∧
  ∀ v S L, LV S v L → Sm m L → PkI s S g l → (∀ k e, s.f k = some e → Not v k) → Q v S
theorem mono_made_Picks_Runs (xs : List AV) (s : Store) (Q Q' : AV → Store → Prop) (hq : ∀ r t, Q r t → Q' r t) : F_made_Picks_Runs xs s Q → F_made_Picks_Runs xs s Q' := fun ⟨g, l, m, a, b, c, d, e⟩ => ⟨g, l, m, a, b, c, d, fun v S L h1 h2 h3 h4 => hq _ _ (e v S L h1 h2 h3 h4)⟩
theorem ex_made_Picks_Runs (xs : List AV) (s : Store) (Q : AV → Store → Prop) : F_made_Picks_Runs xs s Q → ∃ r t, Q r t := fun ⟨g, l, m, _, b, c, _, e⟩ => ⟨_, _, e (.t .nilS) s [] lv_nil (.nil c) b fun _ _ _ => not_t⟩
set_option maxRecDepth 100000 in
set_option maxHeartbeats 4000000 in
theorem body_made_Picks_Runs (xs : List AV) (s : Store) (Q : AV → Store → Prop) (h : F_made_Picks_Runs xs s Q) : xs.length ≤ 42 ∧ avp K_made_Picks_Runs G_made_Picks_Runs (Ret K_made_Picks_Runs [.tmp 4] fun r s' => ∃ s'', Sub s'' s' ∧ Q r s'') (entry xs s) := by
  obtain ⟨g, l, m, rfl, H0, hm, hm2, hq⟩ := h
  refine ⟨by simp, ?_⟩
  unfold G_made_Picks_Runs
  simp only [vP.down, vS.down, vE.down, qA, qB, qC, qD, qE, qF, qG, reduceIte, reduceCtorEq, qH, qI, qJ, ↓avp_condG, ↓tf_arrow, ↓ft_arrow, k_made_Picks_Runs_made_Picks_Num.down, m_made_Picks_Num]
  refine num_any H0 (by omega) fun at0 S1 ha0 ha1 H1 => ?_
  have hm1 : IntKind.i64.wrap (m + 1) = m + 1 := IntWalk.i64_in _ (by omega)
  have hat : IntKind.i64.wrap (14 + at0) = 14 + at0 := IntWalk.i64_in _ (by omega)
  simp only [vP.down, vS.down, vE.down, qA, qB, qC, qD, qE, qF, qG, reduceIte, reduceCtorEq, qH, qI, qJ, ↓avp_condG, ↓tf_arrow, ↓ft_arrow, hm1, hat, k_made_Picks_Runs_made_Picks_Num.down, m_made_Picks_Num]
  refine num_any H1.refl' (by omega) fun i0 S2 hi0 hi1 H2 => ?_
  have H3 := H1.trans H2
  refine loop_weak hm_made_Picks_Runs (fun k σ => ∃ (i a : Int) (v : AV) (S : Store) (L : List TRun), k = i.toNat ∧ 0 ≤ i ∧ i ≤ m ∧ 14 ≤ a ∧ a ≤ 60 ∧ LV S v L ∧ Sm (m - i) L ∧ (∀ r ∈ L, r.To < a) ∧ PkI s S g l ∧ (∀ k e, s.f k = some e → Not v k) ∧
      σ = mkS [(0, .ptr g 0), (5, v), (6, .t (.int .i64 a)), (7, .t (.int .i64 i))] S)
    ⟨i0, 14 + at0, .t .nilS, S2, [], rfl, hi0, by omega, by omega, by omega, lv_nil, .nil (by omega), fun _ h => (by cases h), H3, fun _ _ _ => not_t, rfl⟩ (wk_to fewer_refl (by simp only [vP.down, vS.down, vE.down, qA, qB, qC, qD, qE, qF, qG, reduceIte, reduceCtorEq, qH, qI, qJ, ↓avp_condG, ↓tf_arrow, ↓ft_arrow, wP.down])) ?_
  rintro k _ ⟨i, a, v, S, L, rfl, hi, him, ha, ha2, hv, hL, hLa, H, hvs, rfl⟩
  have hend : ∃ s'', Sub s'' S ∧ Q v s'' := ⟨S, fun _ _ h => h, hq v S L hv ⟨hL.nf, hL.lo, hL.hi, by have := hL.len; omega⟩ H hvs⟩
  by_cases hlt : 0 < i
  case neg =>
    simp only [vP.down, vS.down, vE.down, qA, qB, qC, qD, qE, qF, qG, reduceIte, reduceCtorEq, qH, qI, qJ, ↓avp_condG, ↓tf_arrow, ↓ft_arrow, hlt, gt_iff_lt]
    simp only [vP.down, vS.down, vE.down, qA, qB, qC, qD, qE, qF, qG, reduceIte, reduceCtorEq, qH, qI, qJ, ↓avp_condG, ↓tf_arrow, ↓ft_arrow, vT.down]
    exact hend
  have w1 : IntKind.i64.wrap (a + 1) = a + 1 := IntWalk.i64_in _ (by omega)
  have wi : IntKind.i64.wrap (i - 1) = i - 1 := IntWalk.i64_in _ (by omega)
  simp only [vP.down, vS.down, vE.down, qA, qB, qC, qD, qE, qF, qG, reduceIte, reduceCtorEq, qH, qI, qJ, ↓avp_condG, ↓tf_arrow, ↓ft_arrow, hlt, gt_iff_lt, k_made_Picks_Runs_made_Picks_Num.down, m_made_Picks_Num]
  refine num_any H.refl' (by omega) fun c S1 hc0 hc1 I1 => ?_
  have H1' := H.trans I1
  have hvg : Not v g := by
    obtain ⟨_, b, _⟩ := H0
    exact hvs g _ b
  have hv1 : LV S1 v L := hv.stay fun j hj ⟨ro, hf⟩ => ⟨ro, I1.keep hf fun e => hj (e ▸ hvg)⟩
  have w2 : IntKind.i64.wrap (a + 1 + c) = a + 1 + c := IntWalk.i64_in _ (by omega)
  by_cases c54 : 54 < a + 1 + c
  · simp only [vP.down, vS.down, vE.down, qA, qB, qC, qD, qE, qF, qG, reduceIte, reduceCtorEq, qH, qI, qJ, ↓avp_condG, ↓tf_arrow, ↓ft_arrow, w1, w2, c54, gt_iff_lt]
    intro g8 hg8
    simp only [vP.down, vS.down, vE.down, qA, qB, qC, qD, qE, qF, qG, reduceIte, reduceCtorEq, qH, qI, qJ, ↓avp_condG, ↓tf_arrow, ↓ft_arrow, vT.down]
    exact ⟨_, fun _ _ h => h, hq v _ L (hv1.fresh hg8) ⟨hL.nf, hL.lo, hL.hi, by have := hL.len; omega⟩ (H1'.fresh hg8) hvs⟩
  simp only [vP.down, vS.down, vE.down, qA, qB, qC, qD, qE, qF, qG, reduceIte, reduceCtorEq, qH, qI, qJ, ↓avp_condG, ↓tf_arrow, ↓ft_arrow, w1, w2, c54, gt_iff_lt]
  intro g8 hg8
  simp only [vP.down, vS.down, vE.down, qA, qB, qC, qD, qE, qF, qG, reduceIte, reduceCtorEq, qH, qI, qJ, ↓avp_condG, ↓tf_arrow, ↓ft_arrow, k_made_Picks_Runs_made_Picks_Num.down, m_made_Picks_Num]
  intro g6 hg6
  have hLl : L.length ≤ 1000 := by have := hL.len; omega
  refine append_new ty_Lapi_Run ty_api_Run rfl (by decide) (hv1.fresh hg8) hg6 (shows_one (x := (⟨a, a + 1 + c⟩ : TRun)) rfl rfl rfl) (by simp; omega) (by simp; omega) fun v' S3 hv' kp => ?_
  have hn8 : Not v g8 := hv1.notnew hg8
  obtain ⟨f8, n8⟩ := kp g8 _ (Store.set_same _ _ _) hn8
  have hgs : ∀ k e, s.f k = some e → k ≠ g → S3.f k = some e ∧ Not v' k := fun k e hs hk => by
    have h1 := H1'.keep hs hk
    exact kp k e (by rw [Store.set_other _ _ (ne_of h1 hg8)]; exact h1) (hvs k e hs)
  have H3' : PkI s S3 g l ∧ Not v' g := by
    obtain ⟨n, b1, b2, b3, b4⟩ := H1'
    obtain ⟨k1, k2⟩ := kp g _ (by rw [Store.set_other _ _ (ne_of b1 hg8)]; exact b1) hvg
    exact ⟨⟨n, k1, b2, b3, fun k e hk hs => (hgs k e hs hk).1⟩, k2⟩
  have hvs' : ∀ k e, s.f k = some e → Not v' k := fun k e hs => by
    by_cases hk : k = g
    · rw [hk]; exact H3'.2
    · exact (hgs k e hs hk).2
  have w3 : IntKind.i64.wrap (a + 1 + c + 1) = a + 1 + c + 1 := IntWalk.i64_in _ (by omega)
  have hL' : Sm (m - (i - 1)) (L ++ [⟨a, a + 1 + c⟩]) := by
    refine ⟨⟨List.pairwise_append.2 ⟨hL.nf.pw, List.pairwise_singleton .., fun y hy z hz => ?_⟩, fun r hr => ?_⟩, fun r hr => ?_, fun r hr => ?_, ?_⟩
    · rw [List.mem_singleton.1 hz]; exact hLa y hy
    · rcases List.mem_append.1 hr with h | h
      · exact hL.nf.ne r h
      · rw [List.mem_singleton.1 h]; show a < a + 1 + c; omega
    · rcases List.mem_append.1 hr with h | h
      · exact hL.lo r h
      · rw [List.mem_singleton.1 h]; exact ha
    · rcases List.mem_append.1 hr with h | h
      · exact hL.hi r h
      · rw [List.mem_singleton.1 h]; show a + 1 + c ≤ 54; omega
    · have := hL.len
      rw [List.length_append, List.length_singleton]; omega
  have hLa' : ∀ (d : Int), 0 ≤ d → ∀ r ∈ L ++ [⟨a, a + 1 + c⟩], r.To < a + 1 + c + 1 + d := fun d hd r hr => by
    rcases List.mem_append.1 hr with h | h
    · have := hLa r h; omega
    · rw [List.mem_singleton.1 h]; show a + 1 + c < _; omega
  have hg8g : g8 ≠ g := H1'.ne hg8
  simp only [vP.down, vS.down, vE.down, qA, qB, qC, qD, qE, qF, qG, reduceIte, reduceCtorEq, qH, qI, qJ, ↓avp_condG, ↓tf_arrow, ↓ft_arrow, f8, w3, k_made_Picks_Runs_made_Picks_Num.down, m_made_Picks_Num]
  have w4 : ∀ d : Int, 0 ≤ d → d < 6 → IntKind.i64.wrap (a + 1 + c + 1 + d) = a + 1 + c + 1 + d := fun d h1 h2 => IntWalk.i64_in _ (by omega)
  constructor
  all_goals
    refine num_any H3'.1.refl' (by omega) fun d S4 hd0 hd1 I4 => ?_
    have f8' := I4.keep f8 hg8g
    have w4 := w4 d hd0 hd1
    simp only [vP.down, vS.down, vE.down, qA, qB, qC, qD, qE, qF, qG, reduceIte, reduceCtorEq, qH, qI, qJ, ↓avp_condG, ↓tf_arrow, ↓ft_arrow, f8', w3, w4]
    exact round_to (i - 1).toNat [(0, .ptr g 0), (5, v'), (6, .t (.int .i64 (a + 1 + c + 1 + d))), (7, .t (.int .i64 (i - 1)))] S4 (by omega) fewer_refl (by simp only [vP.down, vS.down, vE.down, qA, qB, qC, qD, qE, qF, qG, reduceIte, reduceCtorEq, qH, qI, qJ, ↓avp_condG, ↓tf_arrow, ↓ft_arrow, wP.down, wi])
      ⟨i - 1, a + 1 + c + 1 + d, v', S4, _, rfl, by omega, by omega, by omega, by omega, hv'.stay fun j hj ⟨ro, hf⟩ => ⟨ro, I4.keep hf fun e => hj (e ▸ H3'.2)⟩, hL', hLa' d hd0, H3'.1.trans I4, hvs', rfl⟩
noncomputable def c_made_Picks_Runs : Con := .gen m_made_Picks_Runs F_made_Picks_Runs
theorem ok_made_Picks_Runs : COk Try.prog 24 c_made_Picks_Runs := fn_gok sys_made_Picks_Runs mixed Try.func24 (by kernel_rfl) geq_made_Picks_Runs Try.ntmps24 (by rw [Try.results24]) mono_made_Picks_Runs ex_made_Picks_Runs body_made_Picks_Runs
end Go.Proofs.Ytofcmdkmhbbbjaa
namespace Go.Proofs.Ytofcmdkmhbbbjaa
open Go Go.Eng
set_option maxRecDepth 100000
theorem seg_mem {a : Int} {k : Nat} {i : Int} : i ∈ seg a k ↔ a ≤ i ∧ i < a + (k : Int) := by
  unfold seg
  rw [List.mem_map]
  constructor
  · rintro ⟨j, hj, rfl⟩
    have := List.mem_range.1 hj
    omega
  · rintro ⟨h1, h2⟩
    exact ⟨(i - a).toNat, List.mem_range.2 (by omega), by omega⟩
theorem seg_pw {a : Int} {k : Nat} : (seg a k).Pairwise (· < ·) := by
  unfold seg
  rw [List.pairwise_map]
  exact List.pairwise_lt_range.imp fun h => by omega
theorem secs_of : ∀ {l : List TRun}, Nf l → (secs l).Pairwise (· < ·) ∧ ∀ i, i ∈ secs l ↔ hasR l i = true
  | [], _ => ⟨.nil, fun i => by simp [secs, hasR]⟩
  | r :: t, h => by
    obtain ⟨h1, h2⟩ := secs_of h.tail
    have e : secs (r :: t) = seg r.From (r.To - r.From).toNat ++ secs t := rfl
    have hr := h.head
    rw [e]
    refine ⟨List.pairwise_append.2 ⟨seg_pw, h1, fun x hx y hy => ?_⟩, fun i => ?_⟩
    · have a1 := seg_mem.1 hx
      obtain ⟨q, hq, b1, b2⟩ := hasR_iff.1 ((h2 y).1 hy)
      have := hr.2 q hq
      omega
    · rw [List.mem_append, seg_mem, h2, hasR_cons, Bool.or_eq_true, inR_iff]
      have : r.From ≤ i ∧ i < r.From + ((r.To - r.From).toNat : Int) ↔ r.From ≤ i ∧ i < r.To := by omega
      rw [this]
theorem cntR_secs : ∀ {l : List TRun}, (∀ r ∈ l, r.From ≤ r.To) → cntR l = ((secs l).length : Int)
  | [], _ => rfl
  | r :: t, h => by
    have e : secs (r :: t) = seg r.From (r.To - r.From).toNat ++ secs t := rfl
    have e2 : cntR (r :: t) = (r.To - r.From) + cntR t := rfl
    have := h r (by simp)
    rw [e, e2, List.length_append, seg_len, cntR_secs fun q hq => h q (by simp [hq])]
    omega
theorem pw_ext : ∀ {l m : List Int}, l.Pairwise (· < ·) → m.Pairwise (· < ·) → (∀ x, x ∈ l ↔ x ∈ m) → l = m
  | [], [], _, _, _ => rfl
  | [], y :: m, _, _, h => by have := (h y).2 (by simp); cases this
  | x :: l, [], _, _, h => by have := (h x).1 (by simp); cases this
  | x :: l, y :: m, hl, hm, h => by
    obtain ⟨l1, l2⟩ := List.pairwise_cons.1 hl
    obtain ⟨m1, m2⟩ := List.pairwise_cons.1 hm
    have e : x = y := by
      rcases List.mem_cons.1 ((h x).1 (by simp)) with e | h1
      · exact e
      · rcases List.mem_cons.1 ((h y).2 (by simp)) with e | h2
        · exact e.symm
        · have := m1 x h1; have := l1 y h2; omega
    subst e
    rw [pw_ext l2 m2 fun z => ?_]
    have := h z
    simp only [List.mem_cons] at this
    constructor
    · intro hz
      have := l1 z hz
      exact (this |> fun _ => (‹z = x ∨ z ∈ l ↔ z = x ∨ z ∈ m›).1 (.inr hz)).resolve_left (by omega)
    · intro hz
      have := m1 z hz
      exact (this |> fun _ => (‹z = x ∨ z ∈ l ↔ z = x ∨ z ∈ m›).2 (.inr hz)).resolve_left (by omega)
def Wn (a : Int) (k : Nat) (l : List TRun) : Prop := ∀ i, hasR l i = true → a ≤ i ∧ i < a + (k : Int)
theorem secs_filter {l : List TRun} {a : Int} {k : Nat} (h : Nf l) (hw : Wn a k l) : secs l = (seg a k).filter (hasR l) := by
  obtain ⟨h1, h2⟩ := secs_of h
  refine pw_ext h1 (seg_pw.filter _) fun i => ?_
  rw [h2, List.mem_filter, seg_mem]
  exact ⟨fun hi => ⟨hw i hi, hi⟩, fun hi => hi.2⟩
theorem cntR_card {l : List TRun} {a : Int} {k : Nat} (h : Nf l) (hw : Wn a k l) : cntR l = (((seg a k).filter (hasR l)).length : Int) := by
  rw [cntR_secs fun r hr => Int.le_of_lt (h.ne r hr), secs_filter h hw]
theorem okB_of {l : List TRun} {a : Int} {k : Nat} (h : Nf l) (hw : Wn a k l) (ha : 0 ≤ a) (hk : a + (k : Int) ≤ 1073741824) : okB l := fun r hr => by
  have hne := h.ne r hr
  have h1 := hw r.From (hasR_iff.2 ⟨r, hr, Int.le_refl _, hne⟩)
  have h2 := hw (r.To - 1) (hasR_iff.2 ⟨r, hr, by omega, by omega⟩)
  omega
theorem where_has {h : How} {l m : List TRun} {i : Int} : hasR (whereL h l m) i = h.op (hasR l i) (hasR m i) := (whereL_set h l m).2 i
theorem where_nf {h : How} {l m : List TRun} : Nf (whereL h l m) := (whereL_set h l m).1
theorem whG_len {f : Bool → Bool → Bool} {l m : List TRun} : ∀ {e : List Int} {o : List TRun}, (whG f l m e o).length ≤ o.length + e.length
  | [], o => by simp [whG]
  | [a], o => by simp [whG]
  | a :: b :: t, o => by
    rw [whG]
    have := whG_len (f := f) (l := l) (m := m) (e := b :: t) (o := stepW f l m o a b)
    have := stepW_len (f := f) (l := l) (m := m) (o := o) (a := a) (b := b)
    simp only [List.length_cons] at *
    omega
theorem where_len (h : How) (l m : List TRun) : (whereL h l m).length ≤ 2 * (l.length + m.length) := by
  have h1 := whG_len (f := h.op) (l := l) (m := m) (e := edgesL l m) (o := [])
  have h2 := edgesL_len (l := l) (m := m)
  unfold whereL
  simp only [List.length_nil] at h1
  omega
theorem Sm.wn {m : Int} {l : List TRun} (h : Sm m l) : Wn 14 40 l := fun i hi => by
  obtain ⟨r, hr, h1, h2⟩ := hasR_iff.1 hi
  have := h.lo r hr
  have := h.hi r hr
  omega
end Go.Proofs.Ytofcmdkmhbbbjaa
namespace Go.Proofs.Ytofcmdkmhbbbjaa
open Go Go.Eng
set_option maxRecDepth 100000
end Go.Proofs.Ytofcmdkmhbbbjaa
namespace Go.Proofs.Ytofcmdkmhbbbjaa
open Go Go.Eng
set_option maxRecDepth 100000
theorem runs_any {s : Store} {g : Nat} {l : List Byt} {m : Int} {Q : AV → Store → Prop} (h : PkI s s g l) (h0 : 0 ≤ m) (h1 : m ≤ 1000) (hq : ∀ v S L, LV S v L → Sm m L → PkI s S g l → (∀ k e, s.f k = some e → Not v k) → Q v S) : F_made_Picks_Runs [.ptr g 0, .t (.int .i64 m)] s Q :=
  ⟨g, l, m, rfl, h, h0, h1, hq⟩
theorem pk_new {s : Store} {g : Nat} {l : List Byt} (hg : s.f g = none) (hl : l.length ≤ 1099511627776) : PkI (s.set g (some (pkE l 0))) (s.set g (some (pkE l 0))) g l := ⟨0, Store.set_same _ _ _, Nat.zero_le _, hl, fun _ _ _ h => h⟩
theorem mayR_ok : ∀ {l : List TRun} {a : Int}, -1 ≤ a → mayR a l = true → okB l ∧ Nf l ∧ ∀ r ∈ l, a < r.From
  | [], _, _, _ => ⟨fun _ h => (by cases h), .nil, fun _ h => by cases h⟩
  | r :: t, a, ha, h => by
    simp only [mayR, Bool.and_eq_true, decide_eq_true_eq] at h
    obtain ⟨⟨⟨h1, h2⟩, h3⟩, h4⟩ := h
    obtain ⟨i1, i2, i3⟩ := mayR_ok (by omega) h4
    refine ⟨fun q hq => ?_, ⟨List.pairwise_cons.2 ⟨i3, i2.pw⟩, fun q hq => ?_⟩, fun q hq => ?_⟩
    · rcases List.mem_cons.1 hq with rfl | hq
      · omega
      · exact i1 q hq
    · rcases List.mem_cons.1 hq with rfl | hq
      · exact h2
      · exact i2.ne q hq
    · rcases List.mem_cons.1 hq with rfl | hq
      · exact h1
      · have := i3 q hq; omega
theorem mayR_of : ∀ {l : List TRun} {a : Int}, Nf l → (∀ r ∈ l, a < r.From) → (∀ r ∈ l, r.To ≤ 1073741824) → mayR a l = true
  | [], _, _, _, _ => rfl
  | r :: t, a, h, hl, hm => by
    have h1 := hl r (by simp)
    have h2 := h.head
    have h3 := hm r (by simp)
    simp only [mayR, Bool.and_eq_true, decide_eq_true_eq]
    exact ⟨⟨⟨h1, h2.1⟩, h3⟩, mayR_of h.tail h2.2 fun q hq => hm q (by simp [hq])⟩
theorem Sm.may {m : Int} {l : List TRun} (h : Sm m l) : mayR (-1) l = true := mayR_of h.nf (fun r hr => by have := h.lo r hr; omega) fun r hr => by have := h.hi r hr; omega
theorem Sm.ok {m : Int} {l : List TRun} (h : Sm m l) : okB l := okB_of h.nf h.wn (by omega) (by omega)
theorem Wn.mono {a b : Int} {k n : Nat} {l : List TRun} (h : Wn a k l) (h1 : b ≤ a) (h2 : a + (k : Int) ≤ b + (n : Int)) : Wn b n l := fun i hi => by
  have := h i hi
  omega
theorem may_of {l : List TRun} {a : Int} {k : Nat} (h : Nf l) (hw : Wn a k l) (ha : 0 ≤ a) (hk : a + (k : Int) ≤ 1073741824) : mayR (-1) l = true :=
  mayR_of h (fun r hr => by have := okB_of h hw ha hk r hr; omega) fun r hr => (okB_of h hw ha hk r hr).2.2
end Go.Proofs.Ytofcmdkmhbbbjaa
