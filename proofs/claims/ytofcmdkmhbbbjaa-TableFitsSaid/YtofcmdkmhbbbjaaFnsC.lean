/-
  Plain facts: runs are sets of sectors, in one way alone.
-/
import Derived.Test.YtofcmdkmhbbbjaaFnsB
set_option linter.unusedSimpArgs false
set_option linter.unusedVariables false
open Nat renaming reduceEqDiff → qA, reduceAdd → qB, reduceSub → qC, reduceMul → qD, reduceLeDiff → qE, reduceLT → qF
open Int renaming reduceToNat → qG, reduceEq → qH, reduceLT → qI, reduceLE → qJ
namespace Go.Proofs.Ytofcmdkmhbbbjaa
open Go Go.Eng
set_option maxRecDepth 100000
theorem inR_iff {r : TRun} {i : Int} : inR r i = true ↔ r.From ≤ i ∧ i < r.To := by simp [inR]
theorem hasR_iff {l : List TRun} {i : Int} : hasR l i = true ↔ ∃ r ∈ l, r.From ≤ i ∧ i < r.To := by
  simp [hasR, List.any_eq_true, inR_iff]
structure Nf (l : List TRun) : Prop where
  pw : l.Pairwise fun x y => x.To < y.From
  ne : ∀ r ∈ l, r.From < r.To
theorem Nf.nil : Nf [] := ⟨.nil, fun _ h => by cases h⟩
theorem Nf.one {r : TRun} (h : r.From < r.To) : Nf [r] := ⟨List.pairwise_singleton .., fun x hx => by rw [List.mem_singleton.1 hx]; exact h⟩
theorem Nf.tail {x : TRun} {t : List TRun} (h : Nf (x :: t)) : Nf t := ⟨(List.pairwise_cons.1 h.pw).2, fun r hr => h.ne r (List.mem_cons_of_mem _ hr)⟩
theorem Nf.head {x : TRun} {t : List TRun} (h : Nf (x :: t)) : x.From < x.To ∧ ∀ y ∈ t, x.To < y.From := ⟨h.ne x (List.mem_cons_self ..), (List.pairwise_cons.1 h.pw).1⟩
theorem nf_low {x : TRun} {t : List TRun} (h : Nf (x :: t)) {i : Int} (hi : hasR (x :: t) i = true) : x.From ≤ i := by
  obtain ⟨r, hr, h1, h2⟩ := hasR_iff.1 hi
  rcases List.mem_cons.1 hr with rfl | hr
  · exact h1
  · have := h.head.2 r hr; have := h.head.1; omega
theorem nf_at {x : TRun} {t : List TRun} (h : Nf (x :: t)) : hasR (x :: t) x.From = true := hasR_iff.2 ⟨x, List.mem_cons_self .., Int.le_refl _, h.head.1⟩
theorem nf_end {x : TRun} {t : List TRun} (h : Nf (x :: t)) : hasR (x :: t) x.To = false := by
  rw [← Bool.not_eq_true, hasR_iff]
  rintro ⟨r, hr, h1, h2⟩
  rcases List.mem_cons.1 hr with rfl | hr
  · omega
  · have := h.head.2 r hr; omega
theorem nf_ext : ∀ {l m : List TRun}, Nf l → Nf m → (∀ i, hasR l i = hasR m i) → l = m
  | [], [], _, _, _ => rfl
  | [], y :: m, _, hm, h => by
    have := h y.From
    rw [nf_at hm] at this; cases this
  | x :: l, [], hl, _, h => by
    have := h x.From
    rw [nf_at hl] at this; cases this
  | x :: l, y :: m, hl, hm, h => by
    have e1 : x.From = y.From := by
      have h1 := nf_low hm (by rw [← h]; exact nf_at hl)
      have h2 := nf_low hl (by rw [h]; exact nf_at hm)
      omega
    have e2 : x.To = y.To := by
      have h1 := hl.head.1
      have h2 := hm.head.1
      by_cases c : x.To < y.To
      · have h3 := h x.To
        rw [nf_end hl] at h3
        have : hasR (y :: m) x.To = true := hasR_iff.2 ⟨y, List.mem_cons_self .., by omega, c⟩
        rw [this] at h3; cases h3
      · by_cases c2 : y.To < x.To
        · have h3 := h y.To
          rw [nf_end hm] at h3
          have : hasR (x :: l) y.To = true := hasR_iff.2 ⟨x, List.mem_cons_self .., by omega, c2⟩
          rw [this] at h3; cases h3
        · omega
    have hxy : x = y := run_ext ⟨e1, e2⟩
    subst hxy
    rw [nf_ext hl.tail hm.tail fun i => ?_]
    have h0 := h i
    rw [hasR_cons, hasR_cons] at h0
    by_cases c : inR x i = true
    · have : ∀ {t : List TRun}, Nf (x :: t) → hasR t i = false := fun {t} ht => by
        rw [← Bool.not_eq_true, hasR_iff]
        rintro ⟨r, hr, h1, h2⟩
        have := ht.head.2 r hr
        have := (inR_iff.1 c).2
        omega
      rw [this hl, this hm]
    · simp only [Bool.not_eq_true] at c
      rw [c, Bool.false_or, Bool.false_or] at h0
      exact h0
theorem behindL_nf {o : List TRun} {a b : Int} (ho : Nf o) (hb : ∀ r ∈ o, r.To ≤ a) (hab : a < b) :
    Nf (behindL o ⟨a, b⟩) ∧ (∀ r ∈ behindL o ⟨a, b⟩, r.To ≤ b) ∧ ∀ i, hasR (behindL o ⟨a, b⟩) i = (hasR o i || inR ⟨a, b⟩ i) := by
  rcases List.eq_nil_or_concat o with rfl | ⟨p, x, rfl⟩
  · exact ⟨.one hab, fun r hr => by rw [List.mem_singleton.1 hr]; exact Int.le_refl _, fun i => by show (inR _ i || false) = (false || inR _ i); rw [Bool.or_false, Bool.false_or]⟩
  simp only [List.concat_eq_append] at *
  have hlen : (p ++ [x]).length - 1 = p.length := by simp
  have hlast : (p ++ [x]).getD p.length default = x := by simp [List.getD_eq_getElem?_getD]
  have hx := hb x (by simp)
  have hxn := ho.ne x (by simp)
  have hpp := List.pairwise_append.1 ho.pw
  unfold behindL
  rw [hlen, hlast]
  by_cases c : x.To = a
  · rw [if_pos ⟨by simp, c⟩]
    have e : (p ++ [x]).set p.length ⟨x.From, b⟩ = p ++ [⟨x.From, b⟩] := by rw [List.set_append_right _ _ (Nat.le_refl _), Nat.sub_self]; rfl
    simp only [e]
    refine ⟨⟨List.pairwise_append.2 ⟨hpp.1, List.pairwise_singleton .., fun y hy z hz => ?_⟩, fun r hr => ?_⟩, fun r hr => ?_, fun i => ?_⟩
    · rw [List.mem_singleton.1 hz]; exact hpp.2.2 y hy x (by simp)
    · rcases List.mem_append.1 hr with hr | hr
      · exact ho.ne r (by simp [hr])
      · rw [List.mem_singleton.1 hr]; show x.From < b; omega
    · rcases List.mem_append.1 hr with hr | hr
      · have := hb r (by simp [hr]); omega
      · rw [List.mem_singleton.1 hr]; exact Int.le_refl _
    · rw [hasR_app, hasR_app]
      have : hasR [⟨x.From, b⟩] i = (hasR [x] i || inR ⟨a, b⟩ i) := by
        simp only [hasR, List.any_cons, List.any_nil, Bool.or_false, inR]
        rw [Bool.eq_iff_iff]
        simp only [Bool.or_eq_true, Bool.and_eq_true, decide_eq_true_eq]
        omega
      rw [this, Bool.or_assoc]
  · rw [if_neg (fun h => c h.2)]
    refine ⟨⟨List.pairwise_append.2 ⟨ho.pw, List.pairwise_singleton .., fun y hy z hz => ?_⟩, fun r hr => ?_⟩, fun r hr => ?_, fun i => ?_⟩
    · rw [List.mem_singleton.1 hz]
      show y.To < a
      rcases List.mem_append.1 hy with hy | hy
      · have := hpp.2.2 y hy x (by simp); omega
      · rw [List.mem_singleton.1 hy]; omega
    · rcases List.mem_append.1 hr with hr | hr
      · exact ho.ne r hr
      · rw [List.mem_singleton.1 hr]; exact hab
    · rcases List.mem_append.1 hr with hr | hr
      · have := hb r hr; omega
      · rw [List.mem_singleton.1 hr]; exact Int.le_refl _
    · rw [hasR_app]; simp [hasR]
def Told (e : List Int) (r : TRun) : Prop := r.From ∈ e ∧ r.To ∈ e
def Ahead (a : Int) (t : List Int) (r : TRun) : Prop := (r.From ≤ a ∨ r.From ∈ t) ∧ (r.To ≤ a ∨ r.To ∈ t)
theorem whG_has {f : Bool → Bool → Bool} (h0 : f false false = false) {l m : List TRun} : ∀ {t : List Int} {a : Int} {o : List TRun}, (a :: t).Pairwise (· < ·) → Nf o → (∀ r ∈ o, r.To ≤ a) → (∀ r ∈ l, Ahead a t r) → (∀ r ∈ m, Ahead a t r) →
    Nf (whG f l m (a :: t) o) ∧ (∀ i, a ≤ i → hasR (whG f l m (a :: t) o) i = f (hasR l i) (hasR m i)) ∧ ∀ i, i < a → hasR (whG f l m (a :: t) o) i = hasR o i
  | [], a, o, _, ho, hb, hl, hm => by
    have no : ∀ {l : List TRun}, (∀ r ∈ l, Ahead a [] r) → ∀ i, a ≤ i → hasR l i = false := fun {l} hl i hi => by
      rw [← Bool.not_eq_true, hasR_iff]
      rintro ⟨r, hr, h1, h2⟩
      have := (hl r hr).2
      simp only [List.not_mem_nil, or_false] at this
      omega
    refine ⟨ho, fun i hi => ?_, fun i _ => rfl⟩
    rw [no hl i hi, no hm i hi, h0]
    show hasR o i = false
    rw [← Bool.not_eq_true, hasR_iff]
    rintro ⟨r, hr, h1, h2⟩
    have := hb r hr
    omega
  | b :: t, a, o, he, ho, hb, hl, hm => by
    obtain ⟨he1, he2⟩ := List.pairwise_cons.1 he
    have hab : a < b := he1 b (by simp)
    have hbt : ∀ x ∈ t, b < x := (List.pairwise_cons.1 he2).1
    have next : ∀ {l : List TRun}, (∀ r ∈ l, Ahead a (b :: t) r) → ∀ r ∈ l, Ahead b t r := fun {l} hl r hr => by
      obtain ⟨h1, h2⟩ := hl r hr
      simp only [List.mem_cons] at h1 h2
      refine ⟨?_, ?_⟩
      · rcases h1 with h1 | h1 | h1
        · exact .inl (by omega)
        · exact .inl (by omega)
        · exact .inr h1
      · rcases h2 with h2 | h2 | h2
        · exact .inl (by omega)
        · exact .inl (by omega)
        · exact .inr h2
    have same : ∀ {l : List TRun}, (∀ r ∈ l, Ahead a (b :: t) r) → ∀ i, a ≤ i → i < b → hasR l i = hasR l a := fun {l} hl i h1 h2 => by
      rw [Bool.eq_iff_iff, hasR_iff, hasR_iff]
      have key : ∀ r ∈ l, (r.From ≤ i ∧ i < r.To ↔ r.From ≤ a ∧ a < r.To) := fun r hr => by
        obtain ⟨k1, k2⟩ := hl r hr
        simp only [List.mem_cons] at k1 k2
        have g1 : r.From ≤ a ∨ b ≤ r.From := by
          rcases k1 with k1 | k1 | k1
          · exact .inl k1
          · exact .inr (by omega)
          · exact .inr (by have := hbt _ k1; omega)
        have g2 : r.To ≤ a ∨ b ≤ r.To := by
          rcases k2 with k2 | k2 | k2
          · exact .inl k2
          · exact .inr (by omega)
          · exact .inr (by have := hbt _ k2; omega)
        omega
      exact ⟨fun ⟨r, hr, h⟩ => ⟨r, hr, (key r hr).1 h⟩, fun ⟨r, hr, h⟩ => ⟨r, hr, (key r hr).2 h⟩⟩
    have hs : Nf (stepW f l m o a b) ∧ (∀ r ∈ stepW f l m o a b, r.To ≤ b) ∧ ∀ i, hasR (stepW f l m o a b) i = (hasR o i || (f (hasR l a) (hasR m a) && inR ⟨a, b⟩ i)) := by
      unfold stepW
      cases hf : f (hasR l a) (hasR m a) with
      | true =>
        obtain ⟨q1, q2, q3⟩ := behindL_nf ho hb hab
        exact ⟨q1, q2, fun i => by rw [if_pos rfl, q3]; rfl⟩
      | false => exact ⟨ho, fun r hr => by have := hb r hr; omega, fun i => by simp⟩
    obtain ⟨r1, r2, r3⟩ := whG_has h0 he2 hs.1 hs.2.1 (next hl) (next hm)
    refine ⟨r1, fun i hi => ?_, fun i hi => ?_⟩
    · show hasR (whG f l m (b :: t) _) i = _
      by_cases c : b ≤ i
      · exact r2 i c
      · rw [r3 i (by omega), hs.2.2, same hl i hi (by omega), same hm i hi (by omega)]
        have e1 : inR ⟨a, b⟩ i = true := inR_iff.2 ⟨hi, by show i < b; omega⟩
        have e2 : hasR o i = false := by
          rw [← Bool.not_eq_true, hasR_iff]
          rintro ⟨r, hr, h1, h2⟩
          have := hb r hr
          omega
        rw [e1, e2, Bool.false_or, Bool.and_true]
    · show hasR (whG f l m (b :: t) _) i = _
      rw [r3 i (by omega), hs.2.2]
      have e1 : inR ⟨a, b⟩ i = false := by
        rw [← Bool.not_eq_true, inR_iff]
        show ¬ (a ≤ i ∧ i < b)
        omega
      rw [e1, Bool.and_false, Bool.or_false]
theorem whG_set {f : Bool → Bool → Bool} (h0 : f false false = false) {l m : List TRun} {e : List Int} (he : e.Pairwise (· < ·)) (hl : ∀ r ∈ l, Told e r) (hm : ∀ r ∈ m, Told e r) :
    Nf (whG f l m e []) ∧ ∀ i, hasR (whG f l m e []) i = f (hasR l i) (hasR m i) := by
  match e, he with
  | [], _ =>
    have no : ∀ {l : List TRun}, (∀ r ∈ l, Told [] r) → l = [] := fun {l} hl => by
      cases l with
      | nil => rfl
      | cons r t => have := (hl r (by simp)).1; cases this
    rw [no hl, no hm]
    exact ⟨.nil, fun i => h0.symm⟩
  | a :: t, he =>
    have ah : ∀ {l : List TRun}, (∀ r ∈ l, Told (a :: t) r) → ∀ r ∈ l, Ahead a t r := fun {l} hl r hr => by
      obtain ⟨h1, h2⟩ := hl r hr
      exact ⟨(List.mem_cons.1 h1).imp (fun h => by omega) id, (List.mem_cons.1 h2).imp (fun h => by omega) id⟩
    obtain ⟨r1, r2, r3⟩ := whG_has h0 he .nil (fun _ h => by cases h) (ah hl) (ah hm)
    refine ⟨r1, fun i => ?_⟩
    by_cases c : a ≤ i
    · exact r2 i c
    · rw [r3 i (by omega)]
      have no : ∀ {l : List TRun}, (∀ r ∈ l, Told (a :: t) r) → hasR l i = false := fun {l} hl => by
        rw [← Bool.not_eq_true, hasR_iff]
        rintro ⟨r, hr, h1, h2⟩
        rcases List.mem_cons.1 (hl r hr).1 with h | h
        · omega
        · have := (List.pairwise_cons.1 he).1 _ h; omega
      rw [no hl, no hm, h0]
      rfl
/-! ### The edges rise, and are all ends -/
theorem cpL_of {l : List Int} (h : l.Pairwise (· ≤ ·)) : (cpL l).Pairwise (· < ·) ∧ ∀ x, x ∈ cpL l ↔ x ∈ l := by
  have key : ∀ m, m ≤ l.length → (Lib.compactUpTo l.toArray m).Pairwise (· < ·) ∧ (∀ x ∈ Lib.compactUpTo l.toArray m, ∃ j, j < m ∧ x = l.getD j default) ∧ ∀ j, j < m → l.getD j default ∈ Lib.compactUpTo l.toArray m := by
    have hg : ∀ j, l.toArray[j]! = l.getD j default := fun j => by
      by_cases hj : j < l.length
      · rw [getElem!_pos _ j (by simpa using hj), List.getD_eq_getElem?_getD, List.getElem?_eq_getElem hj]; simp
      · rw [getElem!_neg _ j (by simpa using hj), List.getD_eq_getElem?_getD, List.getElem?_eq_none (by omega)]; rfl
    have up := up_of_pw h
    intro m
    induction m with
    | zero => intro _; exact ⟨by simp [Lib.compactUpTo], fun x hx => by simp [Lib.compactUpTo] at hx, fun j hj => by omega⟩
    | succ m ih =>
      intro hm
      obtain ⟨i1, i2, i3⟩ := ih (by omega)
      rw [Lib.compactUpTo_succ]
      by_cases hk : Lib.keeps l.toArray m = true
      · rw [if_pos hk, hg]
        have hlt : ∀ x ∈ Lib.compactUpTo l.toArray m, x < l.getD m default := fun x hx => by
          obtain ⟨j, hj, rfl⟩ := i2 x hx
          simp only [Lib.keeps, decide_eq_true_eq, hg] at hk
          have hne := hk.resolve_left (by omega)
          have a1 := up j (m - 1) (by omega) (by omega) (by omega)
          have a2 := up (m - 1) m (by omega) (by omega) (by omega)
          omega
        refine ⟨List.pairwise_append.2 ⟨i1, List.pairwise_singleton .., fun x hx y hy => by rw [List.mem_singleton.1 hy]; exact hlt x hx⟩, fun x hx => ?_, fun j hj => ?_⟩
        · rcases List.mem_append.1 hx with hx | hx
          · obtain ⟨j, hj, e⟩ := i2 x hx; exact ⟨j, by omega, e⟩
          · exact ⟨m, by omega, List.mem_singleton.1 hx⟩
        · by_cases hjm : j = m
          · subst hjm; simp
          · exact List.mem_append.2 (.inl (i3 j (by omega)))
      · rw [if_neg hk, List.append_nil]
        simp only [Lib.keeps, decide_eq_true_eq, hg, not_or, ne_eq, Decidable.not_not] at hk
        refine ⟨i1, fun x hx => by obtain ⟨j, hj, e⟩ := i2 x hx; exact ⟨j, by omega, e⟩, fun j hj => ?_⟩
        by_cases hjm : j = m
        · subst hjm; rw [hk.2]; exact i3 (j - 1) (by omega)
        · exact i3 j (by omega)
  obtain ⟨k1, k2, k3⟩ := key l.length (Nat.le_refl _)
  refine ⟨k1, fun x => ⟨fun hx => ?_, fun hx => ?_⟩⟩
  · obtain ⟨j, hj, rfl⟩ := k2 x hx
    rw [List.getD_eq_getElem?_getD, List.getElem?_eq_getElem hj]
    exact List.getElem_mem _
  · obtain ⟨j, hj, rfl⟩ := List.getElem_of_mem hx
    have := k3 j hj
    rwa [List.getD_eq_getElem?_getD, List.getElem?_eq_getElem hj, Option.getD_some] at this
theorem cps_of (l : List Int) : (cpL (sortL l)).Pairwise (· < ·) ∧ ∀ x, x ∈ cpL (sortL l) ↔ x ∈ l := by
  obtain ⟨h1, h2⟩ := cpL_of (sortL_pw l)
  exact ⟨h1, fun x => (h2 x).trans (sortL_perm l).mem_iff⟩
theorem edgesL_told {l m : List TRun} : (∀ r ∈ l, Told (edgesL l m) r) ∧ ∀ r ∈ m, Told (edgesL l m) r := by
  have h := (cps_of (endsOf (l ++ m))).2
  have key : ∀ r ∈ l ++ m, Told (edgesL l m) r := fun r hr => by
    refine ⟨(h _).2 ?_, (h _).2 ?_⟩ <;> exact List.mem_flatMap.2 ⟨r, hr, by simp⟩
  exact ⟨fun r hr => key r (List.mem_append.2 (.inl hr)), fun r hr => key r (List.mem_append.2 (.inr hr))⟩
theorem How.op0 (h : How) : h.op false false = false := by cases h <;> rfl
theorem whereL_set (h : How) (l m : List TRun) : Nf (whereL h l m) ∧ ∀ i, hasR (whereL h l m) i = h.op (hasR l i) (hasR m i) :=
  whG_set h.op0 (cps_of _).1 edgesL_told.1 edgesL_told.2
end Go.Proofs.Ytofcmdkmhbbbjaa
namespace Go.Proofs.Ytofcmdkmhbbbjaa
open Go Go.Eng
set_option maxRecDepth 100000
/-! ### Sectors as runs -/
theorem pw_len : ∀ {ys xs : List Int}, ys.Pairwise (· < ·) → (∀ y ∈ ys, y ∈ xs) → ys.length ≤ xs.length
  | [], _, _, _ => Nat.zero_le _
  | y :: t, xs, h, hs => by
    obtain ⟨h1, h2⟩ := List.pairwise_cons.1 h
    have hy := hs y (by simp)
    have := pw_len (ys := t) (xs := xs.erase y) h2 fun z hz => (List.mem_erase_of_ne (by have := h1 z hz; omega)).2 (hs z (by simp [hz]))
    rw [List.length_erase_of_mem hy] at this
    have : 0 < xs.length := List.length_pos_of_mem hy
    simp only [List.length_cons]
    omega
theorem nf_count {l : List TRun} {xs : List Int} (h : Nf l) (hs : ∀ i, hasR l i = true → i ∈ xs) : l.length ≤ xs.length := by
  have : (l.map (·.From)).Pairwise (· < ·) := by
    rw [List.pairwise_map]
    refine List.Pairwise.imp_of_mem (fun {a b} ha _ hab => ?_) h.pw
    have := h.ne a ha
    omega
  have := pw_len (xs := xs) this fun y hy => by
    obtain ⟨r, hr, rfl⟩ := List.mem_map.1 hy
    exact hs _ (hasR_iff.2 ⟨r, hr, Int.le_refl _, h.ne r hr⟩)
  simpa using this
def okS8 (a : Int) : Bool := decide (0 ≤ a) && decide (a < 1073741824)
theorem fold_ofStep : ∀ {e : List Int} {o : List TRun} {b : Int}, e.Pairwise (· < ·) → Nf o → (∀ r ∈ o, r.To ≤ b) → (∀ x ∈ e, b ≤ x) → Nf (e.foldl ofStep o) ∧ ∀ i, hasR (e.foldl ofStep o) i = (hasR o i || (e.contains i && okS8 i))
  | [], o, b, _, ho, _, _ => ⟨ho, fun i => by simp⟩
  | a :: t, o, b, he, ho, hb, hl => by
    obtain ⟨h1, h2⟩ := List.pairwise_cons.1 he
    have hba := hl a (by simp)
    rw [List.foldl_cons]
    by_cases c : 0 ≤ a ∧ a < 1073741824
    · obtain ⟨q1, q2, q3⟩ := behindL_nf (o := o) (a := a) (b := a + 1) ho (fun r hr => by have := hb r hr; omega) (by omega)
      have e : ofStep o a = behindL o ⟨a, a + 1⟩ := if_pos c
      rw [e]
      obtain ⟨r1, r2⟩ := fold_ofStep h2 q1 q2 (fun x hx => by have := h1 x hx; omega)
      refine ⟨r1, fun i => ?_⟩
      rw [r2, q3]
      have : inR ⟨a, a + 1⟩ i = (decide (i = a) && okS8 i) := by
        rw [Bool.eq_iff_iff, inR_iff]
        simp only [okS8, Bool.and_eq_true, decide_eq_true_eq]
        omega
      rw [this, List.contains_cons, Bool.or_assoc, ← Bool.and_or_distrib_right]
      congr 2
    · have e : ofStep o a = o := if_neg c
      rw [e]
      obtain ⟨r1, r2⟩ := fold_ofStep (b := b) h2 ho hb (fun x hx => by have := h1 x hx; omega)
      refine ⟨r1, fun i => ?_⟩
      rw [r2, List.contains_cons]
      by_cases hia : i = a
      · have : okS8 i = false := by
          rw [← Bool.not_eq_true]
          simp only [okS8, Bool.and_eq_true, decide_eq_true_eq]
          omega
        rw [this]; simp
      · have : (i == a) = false := by simpa using hia
        rw [this, Bool.false_or]
theorem ofL_set (l : List Int) : Nf (ofL l) ∧ ∀ i, hasR (ofL l) i = (l.contains i && okS8 i) := by
  obtain ⟨h1, h2⟩ := cps_of l
  obtain ⟨b, hb⟩ : ∃ b : Int, ∀ x ∈ cpL (sortL l), b ≤ x := by
    generalize cpL (sortL l) = e at h1
    match e, h1 with
    | [], _ => exact ⟨0, fun _ h => by cases h⟩
    | a :: t, h => exact ⟨a, fun x hx => by rcases List.mem_cons.1 hx with rfl | hx; exact Int.le_refl _; have := (List.pairwise_cons.1 h).1 x hx; omega⟩
  obtain ⟨r1, r2⟩ := fold_ofStep h1 .nil (fun _ h => by cases h) hb
  refine ⟨r1, fun i => ?_⟩
  show hasR ((cpL (sortL l)).foldl ofStep []) i = _
  rw [r2]
  have : (cpL (sortL l)).contains i = l.contains i := by
    rw [Bool.eq_iff_iff, List.contains_iff_mem, List.contains_iff_mem, h2]
  rw [this]; rfl
theorem ofL_len (l : List Int) : (ofL l).length ≤ l.length := nf_count (ofL_set l).1 fun i hi => by
  rw [(ofL_set l).2, Bool.and_eq_true] at hi
  exact List.contains_iff_mem.1 hi.1
end Go.Proofs.Ytofcmdkmhbbbjaa
namespace Go.Proofs.Ytofcmdkmhbbbjaa
open Go Go.Eng
set_option maxRecDepth 100000
def numV (l : List Byt) (n : Nat) (m : Int) : Int := if l.length ≤ n ∨ m < 1 then 0 else ((l.getD n default).v.toNat : Int).tmod m
def numN (l : List Byt) (n : Nat) (m : Int) : Nat := if l.length ≤ n ∨ m < 1 then n else n + 1
def pkE (l : List Byt) (n : Nat) : Entry := .box [.t (sl l), .t (.int .i64 (n : Int))] false
theorem numV_bd {l : List Byt} {n : Nat} {m : Int} (h : 1 ≤ m) : 0 ≤ numV l n m ∧ numV l n m < m := by
  unfold numV
  split
  · omega
  · refine ⟨Int.tmod_nonneg _ (by omega), Int.tmod_lt_of_pos _ (by omega)⟩
theorem numN_bd {l : List Byt} {n : Nat} {m : Int} (h : n ≤ l.length) : numN l n m ≤ l.length := by
  unfold numN
  split <;> omega
def G_made_Made : GCode := .seq (.region [⟨(some 2), none, .assign (.const (.pointer none))⟩]) (.seq (.region [⟨(some 3), none, .move (.tmp 0)⟩, ⟨(some 4), none, .build 77 #[(0, .tmp 3)]⟩, ⟨(some 5), none, .box 77 (.tmp 4)⟩, ⟨(some 2), none, .assign (.tmp 5)⟩]) (.ret))
noncomputable def l_made_Made : List (Nat × Con) := []
noncomputable abbrev K_made_Made : Ctx := ctx (cl l_made_Made)
theorem geq_made_Made : gof K_made_Made Try.f11 = some G_made_Made.strip := by kernel_rfl
theorem sys_made_Made : Go.Eng.Sys Try.prog K_made_Made := sys_of' (l := []) trivial
def q_made_Made (xs : List AV) : Prop := ∃ l : List Byt, xs = [.t (sl l)]
def e_made_Made (xs : List AV) : Entry := .box [xs.headD .unk, .t (.int .i64 0)] false
def mk_made_Made (g : Nat) : AV := .ptr g 0
theorem body_made_Made (xs : List AV) (h : q_made_Made xs) : xs.length ≤ 6 ∧ avp K_made_Made G_made_Made (Ret K_made_Made [.tmp 2] fun r s' => ∃ g, r = mk_made_Made g ∧ s'.f g = some (e_made_Made xs)) (entry xs .empty) := by
  obtain ⟨l, rfl⟩ := h
  refine ⟨by simp, ?_⟩
  unfold G_made_Made
  simp only [vP.down, vS.down, vE.down, qA, qB, qC, qD, qE, qF, qG, reduceIte, reduceCtorEq, qH, qI, qJ, ↓avp_condG, ↓tf_arrow, ↓ft_arrow]
  intro g hg
  simp only [vP.down, vS.down, vE.down, qA, qB, qC, qD, qE, qF, qG, reduceIte, reduceCtorEq, qH, qI, qJ, ↓avp_condG, ↓tf_arrow, ↓ft_arrow, vT.down]
  exact ⟨g, rfl, Store.set_same _ _ _⟩
noncomputable def c_made_Made : Con := newCon q_made_Made e_made_Made mk_made_Made
theorem ok_made_Made : COk Try.prog 11 c_made_Made := fn_nok sys_made_Made mixed Try.func11 (by kernel_rfl) geq_made_Made Try.ntmps11 (by rw [Try.results11]) body_made_Made
def G_made_Picks_Num : GCode := .seq (.region [⟨(some 4), none, .assign (.const (.int .i64 0))⟩]) (.seq (.seq (.region [⟨(some 5), none, .move (.tmp 0)⟩, ⟨(some 6), none, .nilCheck (.tmp 5)⟩, ⟨(some 7), none, .fieldAddr 77 (.tmp 6) 1⟩, ⟨(some 8), none, .load 3 (.tmp 7)⟩, ⟨(some 9), none, .move (.tmp 0)⟩, ⟨(some 10), none, .nilCheck (.tmp 9)⟩, ⟨(some 11), none, .fieldAddr 77 (.tmp 10) 0⟩, ⟨(some 12), none, .load 22 (.tmp 11)⟩, ⟨(some 13), none, .call ⟨.builtin .len, #[.tmp 12], #[22]⟩⟩, ⟨(some 14), none, .binOp .geq 3 (.tmp 8) (.tmp 13) 3⟩, ⟨(some 15), none, .move (.tmp 14)⟩, ⟨(some 16), (some (15, false)), .move (.tmp 1)⟩, ⟨(some 17), (some (15, false)), .binOp .lss 3 (.tmp 16) (.const (.int .i64 1)) 3⟩, ⟨(some 18), none, .pick (.tmp 15) (.const (.bool true)) (.tmp 17)⟩]) (.cond (.tmp 18) (.seq (.region [⟨(some 4), none, .assign (.const (.int .i64 0))⟩]) (.ret)) (.skip))) (.seq (.region [⟨(some 19), none, .move (.tmp 0)⟩, ⟨(some 20), none, .nilCheck (.tmp 19)⟩, ⟨(some 21), none, .fieldAddr 77 (.tmp 20) 1⟩, ⟨(some 22), none, .load 3 (.tmp 21)⟩, ⟨(some 23), none, .binOp .add 3 (.tmp 22) (.const (.int .i64 1)) 3⟩, ⟨(some 24), none, .nilCheck (.tmp 19)⟩, ⟨(some 25), none, .fieldAddr 77 (.tmp 24) 1⟩, ⟨none, none, .store 3 (.tmp 25) (.tmp 23)⟩]) (.seq (.region [⟨(some 26), none, .move (.tmp 0)⟩, ⟨(some 27), none, .nilCheck (.tmp 26)⟩, ⟨(some 28), none, .fieldAddr 77 (.tmp 27) 0⟩, ⟨(some 29), none, .load 22 (.tmp 28)⟩, ⟨(some 30), none, .move (.tmp 0)⟩, ⟨(some 31), none, .nilCheck (.tmp 30)⟩, ⟨(some 32), none, .fieldAddr 77 (.tmp 31) 1⟩, ⟨(some 33), none, .load 3 (.tmp 32)⟩, ⟨(some 34), none, .binOp .sub 3 (.tmp 33) (.const (.int .i64 1)) 3⟩, ⟨(some 35), none, .indexAddr 22 (.tmp 29) (.tmp 34)⟩, ⟨(some 36), none, .load 5 (.tmp 35)⟩, ⟨(some 37), none, .convert 5 3 (.tmp 36)⟩, ⟨(some 38), none, .move (.tmp 1)⟩, ⟨(some 39), none, .binOp .rem 3 (.tmp 37) (.tmp 38) 3⟩, ⟨(some 4), none, .assign (.tmp 39)⟩]) (.ret))))
noncomputable def l_made_Picks_Num : List (Nat × Con) := []
noncomputable abbrev K_made_Picks_Num : Ctx := ctx (cl l_made_Picks_Num)
theorem geq_made_Picks_Num : gof K_made_Picks_Num Try.f41 = some G_made_Picks_Num.strip := by kernel_rfl
theorem sys_made_Picks_Num : Go.Eng.Sys Try.prog K_made_Picks_Num := sys_of' (l := []) trivial
def m_made_Picks_Num : List Bool := [true, false]
def F_made_Picks_Num (xs : List AV) (s : Store) (Q : AV → Store → Prop) : Prop :=
  ∃ (g : Nat) (l : List Byt) (n : Nat) (m : Int), xs = [.ptr g 0, .t (.int .i64 m)] ∧ s.f g = some (pkE l n) ∧ l.length ≤ 1099511627776 ∧ n ≤ l.length ∧ Q (.t (.int .i64 (numV l n m))) (s.set g (some (pkE l (numN l n m))))
theorem mono_made_Picks_Num (xs : List AV) (s : Store) (Q Q' : AV → Store → Prop) (hq : ∀ r t, Q r t → Q' r t) : F_made_Picks_Num xs s Q → F_made_Picks_Num xs s Q' :=
  fun ⟨g, l, n, m, a, b, c, d, e⟩ => ⟨g, l, n, m, a, b, c, d, hq _ _ e⟩
theorem ex_made_Picks_Num (xs : List AV) (s : Store) (Q : AV → Store → Prop) : F_made_Picks_Num xs s Q → ∃ r t, Q r t := fun ⟨_, _, _, _, _, _, _, _, e⟩ => ⟨_, _, e⟩
theorem body_made_Picks_Num (xs : List AV) (s : Store) (Q : AV → Store → Prop) (h : F_made_Picks_Num xs s Q) : xs.length ≤ 40 ∧ avp K_made_Picks_Num G_made_Picks_Num (Ret K_made_Picks_Num [.tmp 4] fun r s' => ∃ s'', Sub s'' s' ∧ Q r s'') (entry xs s) := by
  obtain ⟨g, l, n, m, rfl, hg, hl, hn, hq⟩ := h
  refine ⟨by simp, ?_⟩
  unfold pkE at hg
  unfold G_made_Picks_Num
  by_cases hge : l.length ≤ n
  · have c1 : (l.length : Int) ≤ (n : Int) := by omega
    simp only [vP.down, vS.down, vE.down, qA, qB, qC, qD, qE, qF, qG, reduceIte, reduceCtorEq, qH, qI, qJ, ↓avp_condG, ↓tf_arrow, ↓ft_arrow, hg, c1, false_implies]
    simp only [vP.down, vS.down, vE.down, qA, qB, qC, qD, qE, qF, qG, reduceIte, reduceCtorEq, qH, qI, qJ, ↓avp_condG, ↓tf_arrow, ↓ft_arrow, vT.down]
    rw [numV, if_pos (.inl hge), numN, if_pos (.inl hge)] at hq
    refine ⟨_, fun k e hk => ?_, hq⟩
    rw [set_f] at hk
    by_cases hkg : k = g
    · subst hkg; rw [if_pos rfl] at hk; rw [hg]; exact hk
    · rwa [if_neg hkg] at hk
  have c1 : ¬ (l.length : Int) ≤ (n : Int) := by omega
  by_cases hm : m < 1
  · simp only [vP.down, vS.down, vE.down, qA, qB, qC, qD, qE, qF, qG, reduceIte, reduceCtorEq, qH, qI, qJ, ↓avp_condG, ↓tf_arrow, ↓ft_arrow, hg, c1, hm, false_implies]
    simp only [vP.down, vS.down, vE.down, qA, qB, qC, qD, qE, qF, qG, reduceIte, reduceCtorEq, qH, qI, qJ, ↓avp_condG, ↓tf_arrow, ↓ft_arrow, vT.down]
    rw [numV, if_pos (.inr hm), numN, if_pos (.inr hm)] at hq
    refine ⟨_, fun k e hk => ?_, hq⟩
    rw [set_f] at hk
    by_cases hkg : k = g
    · subst hkg; rw [if_pos rfl] at hk; rw [hg]; exact hk
    · rwa [if_neg hkg] at hk
  have hno : ¬ (l.length ≤ n ∨ m < 1) := fun h => h.elim hge hm
  rw [numV, if_neg hno, numN, if_neg hno] at hq
  have w1 : IntKind.i64.wrap ((n : Int) + 1) = ((n + 1 : Nat) : Int) := by rw [IntWalk.i64_in _ (by omega)]; rfl
  have w2 : IntKind.i64.wrap (((n + 1 : Nat) : Int) - 1) = (n : Int) := by rw [IntWalk.i64_in _ (by omega)]; omega
  have w3 : ∀ x : UInt8, IntKind.i64.wrap (x.toNat : Int) = (x.toNat : Int) := fun x => IntWalk.i64_in _ (by have := x.toNat_lt; omega)
  simp only [vP.down, vS.down, vE.down, qA, qB, qC, qD, qE, qF, qG, reduceIte, reduceCtorEq, qH, qI, qJ, ↓avp_condG, ↓tf_arrow, ↓ft_arrow, hg, c1, hm, w1, w2, w3, false_implies]
  ((repeat' with_reducible refine And.intro ?_ ?_) <;> try (first | omega | (simp only [List.length_take, List.length_drop, List.length_append, List.length_map, List.length_replicate] <;> omega)))
  simp only [vP.down, vS.down, vE.down, qA, qB, qC, qD, qE, qF, qG, reduceIte, reduceCtorEq, qH, qI, qJ, ↓avp_condG, ↓tf_arrow, ↓ft_arrow, vT.down]
  exact ⟨_, fun k e hk => hk, hq⟩
noncomputable def c_made_Picks_Num : Con := .gen m_made_Picks_Num F_made_Picks_Num
theorem ok_made_Picks_Num : COk Try.prog 41 c_made_Picks_Num := fn_gok sys_made_Picks_Num mixed Try.func41 (by kernel_rfl) geq_made_Picks_Num Try.ntmps41 (by rw [Try.results41]) mono_made_Picks_Num ex_made_Picks_Num body_made_Picks_Num
def PkI (s S : Store) (g : Nat) (l : List Byt) : Prop := ∃ n, S.f g = some (pkE l n) ∧ n ≤ l.length ∧ l.length ≤ 1099511627776 ∧ ∀ k e, k ≠ g → s.f k = some e → S.f k = some e
theorem PkI.refl' {s S : Store} {g : Nat} {l : List Byt} (h : PkI s S g l) : PkI S S g l := let ⟨n, a, b, c, _⟩ := h; ⟨n, a, b, c, fun _ _ _ h => h⟩
theorem PkI.trans {s S S' : Store} {g : Nat} {l : List Byt} (h : PkI s S g l) (h' : PkI S S' g l) : PkI s S' g l := let ⟨_, _, _, _, d⟩ := h; let ⟨n, a, b, c, d'⟩ := h'; ⟨n, a, b, c, fun k e hk hs => d' k e hk (d k e hk hs)⟩
theorem PkI.fresh {s S : Store} {g : Nat} {l : List Byt} (h : PkI s S g l) {k : Nat} {e : Option Entry} (hk : S.f k = none) : PkI s (S.set k e) g l := by
  obtain ⟨n, a, b, c, d⟩ := h
  refine ⟨n, ?_, b, c, fun j e' hj hs => ?_⟩
  · rw [Store.set_other _ _ (fun h => by rw [← h, a] at hk; cases hk)]; exact a
  · have := d j e' hj hs
    rw [Store.set_other _ _ (fun h => by rw [← h, this] at hk; cases hk)]; exact this
theorem PkI.box {s S : Store} {g : Nat} {l : List Byt} (h : PkI s S g l) {k : Nat} {e : Option Entry} (hk : s.f k = none) (hkg : k ≠ g) : PkI s (S.set k e) g l := by
  obtain ⟨n, a, b, c, d⟩ := h
  refine ⟨n, ?_, b, c, fun j e' hj hs => ?_⟩
  · rw [Store.set_other _ _ hkg.symm]; exact a
  · rw [Store.set_other _ _ (fun h => by rw [h, hk] at hs; cases hs)]; exact d j e' hj hs
theorem PkI.keep {s S : Store} {g : Nat} {l : List Byt} (h : PkI s S g l) {k : Nat} {e : Entry} (hk : s.f k = some e) (hkg : k ≠ g) : S.f k = some e := let ⟨_, _, _, _, d⟩ := h; d k e hkg hk
theorem PkI.ne {s S : Store} {g : Nat} {l : List Byt} (h : PkI s S g l) {k : Nat} (hk : S.f k = none) : k ≠ g := fun e => by
  obtain ⟨n, a, _⟩ := h
  rw [e, a] at hk; cases hk
theorem PkI.old {s S : Store} {g : Nat} {l : List Byt} (h : PkI s S g l) {k : Nat} (hk : S.f k = none) : s.f k = none := by
  cases hs : s.f k with
  | none => rfl
  | some e => have := h.keep hs (h.ne hk); rw [hk] at this; cases this
theorem num_any {s : Store} {g : Nat} {l : List Byt} {m : Int} {Q : AV → Store → Prop} (h : PkI s s g l) (hm : 1 ≤ m) (hq : ∀ v S, 0 ≤ v → v < m → PkI s S g l → Q (.t (.int .i64 v)) S) : F_made_Picks_Num [.ptr g 0, .t (.int .i64 m)] s Q := by
  obtain ⟨n, a, b, c, _⟩ := h
  refine ⟨g, l, n, m, rfl, a, c, b, ?_⟩
  obtain ⟨h1, h2⟩ := numV_bd (l := l) (n := n) hm
  exact hq _ _ h1 h2 ⟨_, Store.set_same _ _ _, numN_bd b, c, fun k e hk hs => by rw [Store.set_other _ _ hk]; exact hs⟩
structure Sm (m : Int) (L : List TRun) : Prop where
  nf : Nf L
  lo : ∀ r ∈ L, 14 ≤ r.From
  hi : ∀ r ∈ L, r.To ≤ 54
  len : (L.length : Int) ≤ m
theorem Sm.nil {m : Int} (h : 0 ≤ m) : Sm m [] := ⟨.nil, fun _ h => (by cases h), fun _ h => (by cases h), h⟩
end Go.Proofs.Ytofcmdkmhbbbjaa
namespace Go.Proofs.Ytofcmdkmhbbbjaa
open Go Go.Eng
set_option maxRecDepth 100000
theorem seg_mem {a : Int} {k : Nat} {i : Int} : i ∈ seg a k ↔ a ≤ i ∧ i < a + (k : Int) := by
  unfold seg
  rw [List.mem_map]
  constructor
  · rintro ⟨j, hj, rfl⟩
    have := List.mem_range.1 hj
    omega
  · rintro ⟨h1, h2⟩
    exact ⟨(i - a).toNat, List.mem_range.2 (by omega), by omega⟩
theorem seg_pw {a : Int} {k : Nat} : (seg a k).Pairwise (· < ·) := by
  unfold seg
  rw [List.pairwise_map]
  exact List.pairwise_lt_range.imp fun h => by omega
theorem secs_of : ∀ {l : List TRun}, Nf l → (secs l).Pairwise (· < ·) ∧ ∀ i, i ∈ secs l ↔ hasR l i = true
  | [], _ => ⟨.nil, fun i => by simp [secs, hasR]⟩
  | r :: t, h => by
    obtain ⟨h1, h2⟩ := secs_of h.tail
    have e : secs (r :: t) = seg r.From (r.To - r.From).toNat ++ secs t := rfl
    have hr := h.head
    rw [e]
    refine ⟨List.pairwise_append.2 ⟨seg_pw, h1, fun x hx y hy => ?_⟩, fun i => ?_⟩
    · have a1 := seg_mem.1 hx
      obtain ⟨q, hq, b1, b2⟩ := hasR_iff.1 ((h2 y).1 hy)
      have := hr.2 q hq
      omega
    · rw [List.mem_append, seg_mem, h2, hasR_cons, Bool.or_eq_true, inR_iff]
      have : r.From ≤ i ∧ i < r.From + ((r.To - r.From).toNat : Int) ↔ r.From ≤ i ∧ i < r.To := by omega
      rw [this]
theorem cntR_secs : ∀ {l : List TRun}, (∀ r ∈ l, r.From ≤ r.To) → cntR l = ((secs l).length : Int)
  | [], _ => rfl
  | r :: t, h => by
    have e : secs (r :: t) = seg r.From (r.To - r.From).toNat ++ secs t := rfl
    have e2 : cntR (r :: t) = (r.To - r.From) + cntR t := rfl
    have := h r (by simp)
    rw [e, e2, List.length_append, seg_len, cntR_secs fun q hq => h q (by simp [hq])]
    omega
theorem pw_ext : ∀ {l m : List Int}, l.Pairwise (· < ·) → m.Pairwise (· < ·) → (∀ x, x ∈ l ↔ x ∈ m) → l = m
  | [], [], _, _, _ => rfl
  | [], y :: m, _, _, h => by have := (h y).2 (by simp); cases this
  | x :: l, [], _, _, h => by have := (h x).1 (by simp); cases this
  | x :: l, y :: m, hl, hm, h => by
    obtain ⟨l1, l2⟩ := List.pairwise_cons.1 hl
    obtain ⟨m1, m2⟩ := List.pairwise_cons.1 hm
    have e : x = y := by
      rcases List.mem_cons.1 ((h x).1 (by simp)) with e | h1
      · exact e
      · rcases List.mem_cons.1 ((h y).2 (by simp)) with e | h2
        · exact e.symm
        · have := m1 x h1; have := l1 y h2; omega
    subst e
    rw [pw_ext l2 m2 fun z => ?_]
    have := h z
    simp only [List.mem_cons] at this
    constructor
    · intro hz
      have := l1 z hz
      exact (this |> fun _ => (‹z = x ∨ z ∈ l ↔ z = x ∨ z ∈ m›).1 (.inr hz)).resolve_left (by omega)
    · intro hz
      have := m1 z hz
      exact (this |> fun _ => (‹z = x ∨ z ∈ l ↔ z = x ∨ z ∈ m›).2 (.inr hz)).resolve_left (by omega)
def Wn (a : Int) (k : Nat) (l : List TRun) : Prop := ∀ i, hasR l i = true → a ≤ i ∧ i < a + (k : Int)
theorem secs_filter {l : List TRun} {a : Int} {k : Nat} (h : Nf l) (hw : Wn a k l) : secs l = (seg a k).filter (hasR l) := by
  obtain ⟨h1, h2⟩ := secs_of h
  refine pw_ext h1 (seg_pw.filter _) fun i => ?_
  rw [h2, List.mem_filter, seg_mem]
  exact ⟨fun hi => ⟨hw i hi, hi⟩, fun hi => hi.2⟩
theorem cntR_card {l : List TRun} {a : Int} {k : Nat} (h : Nf l) (hw : Wn a k l) : cntR l = (((seg a k).filter (hasR l)).length : Int) := by
  rw [cntR_secs fun r hr => Int.le_of_lt (h.ne r hr), secs_filter h hw]
theorem okB_of {l : List TRun} {a : Int} {k : Nat} (h : Nf l) (hw : Wn a k l) (ha : 0 ≤ a) (hk : a + (k : Int) ≤ 1073741824) : okB l := fun r hr => by
  have hne := h.ne r hr
  have h1 := hw r.From (hasR_iff.2 ⟨r, hr, Int.le_refl _, hne⟩)
  have h2 := hw (r.To - 1) (hasR_iff.2 ⟨r, hr, by omega, by omega⟩)
  omega
theorem where_has {h : How} {l m : List TRun} {i : Int} : hasR (whereL h l m) i = h.op (hasR l i) (hasR m i) := (whereL_set h l m).2 i
theorem where_nf {h : How} {l m : List TRun} : Nf (whereL h l m) := (whereL_set h l m).1
theorem whG_len {f : Bool → Bool → Bool} {l m : List TRun} : ∀ {e : List Int} {o : List TRun}, (whG f l m e o).length ≤ o.length + e.length
  | [], o => by simp [whG]
  | [a], o => by simp [whG]
  | a :: b :: t, o => by
    rw [whG]
    have := whG_len (f := f) (l := l) (m := m) (e := b :: t) (o := stepW f l m o a b)
    have := stepW_len (f := f) (l := l) (m := m) (o := o) (a := a) (b := b)
    simp only [List.length_cons] at *
    omega
theorem where_len (h : How) (l m : List TRun) : (whereL h l m).length ≤ 2 * (l.length + m.length) := by
  have h1 := whG_len (f := h.op) (l := l) (m := m) (e := edgesL l m) (o := [])
  have h2 := edgesL_len (l := l) (m := m)
  unfold whereL
  simp only [List.length_nil] at h1
  omega
theorem Sm.wn {m : Int} {l : List TRun} (h : Sm m l) : Wn 14 40 l := fun i hi => by
  obtain ⟨r, hr, h1, h2⟩ := hasR_iff.1 hi
  have := h.lo r hr
  have := h.hi r hr
  omega
end Go.Proofs.Ytofcmdkmhbbbjaa
namespace Go.Proofs.Ytofcmdkmhbbbjaa
open Go Go.Eng
set_option maxRecDepth 100000
end Go.Proofs.Ytofcmdkmhbbbjaa
namespace Go.Proofs.Ytofcmdkmhbbbjaa
open Go Go.Eng
set_option maxRecDepth 100000
theorem pk_new {s : Store} {g : Nat} {l : List Byt} (hg : s.f g = none) (hl : l.length ≤ 1099511627776) : PkI (s.set g (some (pkE l 0))) (s.set g (some (pkE l 0))) g l := ⟨0, Store.set_same _ _ _, Nat.zero_le _, hl, fun _ _ _ h => h⟩
theorem mayR_ok : ∀ {l : List TRun} {a : Int}, -1 ≤ a → mayR a l = true → okB l ∧ Nf l ∧ ∀ r ∈ l, a < r.From
  | [], _, _, _ => ⟨fun _ h => (by cases h), .nil, fun _ h => by cases h⟩
  | r :: t, a, ha, h => by
    simp only [mayR, Bool.and_eq_true, decide_eq_true_eq] at h
    obtain ⟨⟨⟨h1, h2⟩, h3⟩, h4⟩ := h
    obtain ⟨i1, i2, i3⟩ := mayR_ok (by omega) h4
    refine ⟨fun q hq => ?_, ⟨List.pairwise_cons.2 ⟨i3, i2.pw⟩, fun q hq => ?_⟩, fun q hq => ?_⟩
    · rcases List.mem_cons.1 hq with rfl | hq
      · omega
      · exact i1 q hq
    · rcases List.mem_cons.1 hq with rfl | hq
      · exact h2
      · exact i2.ne q hq
    · rcases List.mem_cons.1 hq with rfl | hq
      · exact h1
      · have := i3 q hq; omega
theorem mayR_of : ∀ {l : List TRun} {a : Int}, Nf l → (∀ r ∈ l, a < r.From) → (∀ r ∈ l, r.To ≤ 1073741824) → mayR a l = true
  | [], _, _, _, _ => rfl
  | r :: t, a, h, hl, hm => by
    have h1 := hl r (by simp)
    have h2 := h.head
    have h3 := hm r (by simp)
    simp only [mayR, Bool.and_eq_true, decide_eq_true_eq]
    exact ⟨⟨⟨h1, h2.1⟩, h3⟩, mayR_of h.tail h2.2 fun q hq => hm q (by simp [hq])⟩
theorem Sm.may {m : Int} {l : List TRun} (h : Sm m l) : mayR (-1) l = true := mayR_of h.nf (fun r hr => by have := h.lo r hr; omega) fun r hr => by have := h.hi r hr; omega
theorem Sm.ok {m : Int} {l : List TRun} (h : Sm m l) : okB l := okB_of h.nf h.wn (by omega) (by omega)
theorem Wn.mono {a b : Int} {k n : Nat} {l : List TRun} (h : Wn a k l) (h1 : b ≤ a) (h2 : a + (k : Int) ≤ b + (n : Int)) : Wn b n l := fun i hi => by
  have := h i hi
  omega
theorem may_of {l : List TRun} {a : Int} {k : Nat} (h : Nf l) (hw : Wn a k l) (ha : 0 ≤ a) (hk : a + (k : Int) ≤ 1073741824) : mayR (-1) l = true :=
  mayR_of h (fun r hr => by have := okB_of h hw ha hk r hr; omega) fun r hr => (okB_of h hw ha hk r hr).2.2
end Go.Proofs.Ytofcmdkmhbbbjaa
