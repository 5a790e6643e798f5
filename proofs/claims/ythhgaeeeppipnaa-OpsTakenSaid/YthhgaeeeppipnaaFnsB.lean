/-
  Steps as bytes: what is computed, and plain laws of it.
-/
import Derived.Test.YthhgaeeeppipnaaFnsA
set_option linter.unusedSimpArgs false
set_option linter.unusedVariables false
namespace Go.Proofs.Ythhgaeeeppipnaa
open Go Go.Eng
def fldT : List (Int × List Int) := [(1, [0, 1, 4]), (5, [0, 1, 4]), (2, [0, 4]), (7, [0, 4]), (8, [0, 4]), (3, [0, 4, 5]), (4, [0, 1, 4, 6]), (6, [0, 1, 2, 4]), (9, [1]), (15, [1]), (18, [1]), (19, [1]), (20, [1]), (10, [0]), (11, [0]), (12, [0]), (14, [0]), (13, [0, 1]), (21, [7]), (22, [1, 2, 3])]
def fldL (k : Int) : List Int := ((fldT.find? fun p => decide (p.1 = k)).map (·.2)).getD []
def fldP (l : List Int) : Prop := l = [0, 1, 4] ∨ l = [0, 4] ∨ l = [0, 4, 5] ∨ l = [0, 1, 4, 6] ∨ l = [0, 1, 2, 4] ∨ l = [1] ∨ l = [0] ∨ l = [0, 1] ∨ l = [7] ∨ l = [1, 2, 3] ∨ l = []
instance (l : List Int) : Decidable (fldP l) := by unfold fldP; exact inferInstance
theorem fldT_is : ∀ p ∈ fldT, fldP p.2 := by decide
theorem fldL_is (k : Int) : fldP (fldL k) := by
  unfold fldL
  cases h : fldT.find? fun p => decide (p.1 = k) with
  | none => decide
  | some p => exact fldT_is p (List.mem_of_find?_eq_some h)
theorem fldL_mem {k f : Int} (h : f ∈ fldL k) : 0 ≤ f ∧ f ≤ 7 := by
  rcases fldL_is k with e | e | e | e | e | e | e | e | e | e | e <;> rw [e] at h <;> simp at h <;> omega
theorem fldL_len (k : Int) : (fldL k).length ≤ 4 := by
  rcases fldL_is k with h | h | h | h | h | h | h | h | h | h | h <;> rw [h] <;> simp
def step0 : TStep := ⟨0, 0, 0, 0, 0, [], [], [], []⟩
def fm (f : Int) : List UInt8 := if f = 0 ∨ f = 1 ∨ f = 2 then [50] else [49]
def wd (f : Int) : Nat := if f = 0 ∨ f = 1 ∨ f = 2 then 2 else 1
def setN (s : TStep) (f n : Int) : TStep := if f = 0 then { s with ID := n } else if f = 1 then { s with N := n } else if f = 2 then { s with M := n } else { s with By := n }
def getN (s : TStep) (f : Int) : Int := if f = 0 then s.ID else if f = 1 then s.N else if f = 2 then s.M else s.By
def setX (s : TStep) (f : Int) (t : List UInt8) : TStep := if f = 4 then { s with Path := t } else if f = 5 then { s with To := t } else { s with Text := t }
def getX (s : TStep) (f : Int) : List UInt8 := if f = 4 then s.Path else if f = 5 then s.To else s.Text
def low2 (c : UInt8) : Int := ((c &&& 3).toNat : Int)
/-- A field taken; m: of the document. -/
def takeF (m : Bool) (s : TStep) (f : Int) (b : List UInt8) : TStep × List UInt8 × Bool :=
  if takeOk (fm f) b = false then (if m && decide (3 < f) && decide (f ≠ 7) then setX s f [] else s, [], false)
  else if f ≤ 3 then (setN s f ((takeL (fm f) b).getD 0 default), takeR (fm f) b, true)
  else if f = 7 ∧ 60 < (takeL (fm f) b).getD 0 default ∨ ((takeR (fm f) b).length : Int) < (takeL (fm f) b).getD 0 default then (if m && decide (3 < f) && decide (f ≠ 7) then setX s f [] else s, if m && decide (f = 7) then takeR (fm f) b else [], false)
  else if f = 7 then ({ s with Keep := s.Keep ++ ((takeR (fm f) b).take ((takeL (fm f) b).getD 0 default).toNat).map low2 }, (takeR (fm f) b).drop ((takeL (fm f) b).getD 0 default).toNat, true)
  else (setX s f ((takeR (fm f) b).take ((takeL (fm f) b).getD 0 default).toNat), (takeR (fm f) b).drop ((takeL (fm f) b).getD 0 default).toNat, true)
def takeFs (m : Bool) : List Int → TStep → List UInt8 → TStep × List UInt8 × Bool
  | [], s, b => (s, b, true)
  | f :: fs, s, b => if (takeF m s f b).2.2 = true then takeFs m fs (takeF m s f b).1 (takeF m s f b).2.1 else ((takeF m s f b).1, (takeF m s f b).2.1, false)
def oneS (m : Bool) (k : Int) (b : List UInt8) : TStep × List UInt8 × Bool := takeFs m (fldL k) { step0 with Kind := k } b
def takenS (b : List UInt8) : TStep × List UInt8 × Bool :=
  if takeOk [49] b = false then (step0, [], false)
  else if (oneS false (((takeL [49] b).getD 0 default).tmod 23) (takeR [49] b)).2.2 = true then oneS false (((takeL [49] b).getD 0 default).tmod 23) (takeR [49] b)
  else ((oneS false (((takeL [49] b).getD 0 default).tmod 23) (takeR [49] b)).1, [], false)
def putFld (s : TStep) (f : Int) : List UInt8 :=
  if f ≤ 3 then putF (fm f) [getN s f]
  else if f = 7 then putF (fm f) [(s.Keep.length : Int)] ++ (s.Keep.map fun k => putF (fm f) [k]).flatten
  else putF (fm f) [((getX s f).length : Int)] ++ getX s f
def putB (s : TStep) : List UInt8 := putF [49] [s.Kind] ++ ((fldL s.Kind).map (putFld s)).flatten
def putOne (x : TStep) : List UInt8 := if (takenS (putB x)).2.2 = true ∧ x.Kind ≠ 0 ∧ (takenS (putB x)).2.1 = [] ∧ x = (takenS (putB x)).1 then putB x else []
def putL (l : List TStep) : List UInt8 := (l.map putOne).flatten
def takeAll : Nat → List UInt8 → List TStep
  | 0, _ => []
  | n + 1, b => if b = [] then [] else if (takenS b).2.2 = true then (if 0 < (takenS b).1.Kind then (takenS b).1 :: takeAll n (takenS b).2.1 else takeAll n (takenS b).2.1) else []
def takeS (b : List UInt8) : List TStep := takeAll b.length b
def rputB (x : TStep) : List UInt8 := if x.Kind < 1 ∨ 22 < x.Kind ∨ 255 < x.Path.length ∨ 255 < x.To.length ∨ 255 < x.Text.length ∨ 60 < x.Keep.length then [] else putB x
def rputOne (x : TStep) : List UInt8 := if (takeS (rputB x)).length = 1 ∧ (takeS (rputB x)).getD 0 default = x then rputB x else []
def rputL (l : List TStep) : List UInt8 := (l.map rputOne).flatten

theorem tri {α β γ : Type} {a a' : α} {b b' : β} {c c' : γ} (h : (a, b, c) = (a', b', c')) : a = a' ∧ b = b' := by cases h; exact ⟨rfl, rfl⟩
theorem fm_1 : formOk [49] = true := rfl
theorem ok1 (b : List UInt8) : takeOk [49] b = decide (1 ≤ b.length) := by
  unfold takeOk; rw [fm_1, Bool.true_and, show (digs [49]).sum = 1 from rfl]
  exact decide_eq_decide.2 (by omega)
theorem ok2 (b : List UInt8) : takeOk [50] b = decide (2 ≤ b.length) := by
  unfold takeOk; rw [show formOk [50] = true from rfl, Bool.true_and, show (digs [50]).sum = 2 from rfl]
  exact decide_eq_decide.2 (by omega)
theorem fm_of (f : Int) : fm f = [50] ∧ wd f = 2 ∨ fm f = [49] ∧ wd f = 1 := by
  unfold fm wd; split <;> simp
theorem okF (f : Int) (b : List UInt8) : takeOk (fm f) b = decide (wd f ≤ b.length) := by
  rcases fm_of f with ⟨h, h'⟩ | ⟨h, h'⟩ <;> rw [h, h']
  · exact ok2 b
  · exact ok1 b
theorem numF {f : Int} {b : List UInt8} (h : wd f ≤ b.length) : (takeL (fm f) b).getD 0 default = num (b.take (wd f)) ∧ takeR (fm f) b = b.drop (wd f) := by
  have ho : takeOk (fm f) b = true := by rw [okF]; exact decide_eq_true h
  rw [takeL, if_pos ho, takeR, if_pos ho]
  rcases fm_of f with ⟨h, h'⟩ | ⟨h, h'⟩ <;> rw [h, h'] <;> exact ⟨rfl, rfl⟩
theorem putF_f (f n : Int) : putF (fm f) [n] = be (wd f) n := by
  rcases fm_of f with ⟨h, h'⟩ | ⟨h, h'⟩ <;> rw [h, h']
  · exact putF_one (k := 2) rfl (by omega) (by omega)
  · exact putF_one (k := 1) rfl (by omega) (by omega)
theorem putF1 (n : Int) : putF [49] [n] = be 1 n := putF_one (k := 1) rfl (by omega) (by omega)
def msk (f n : Int) : Int := n % 256 ^ wd f
theorem takeNum (f n : Int) (r : List UInt8) : takeOk (fm f) (be (wd f) n ++ r) = true ∧ (takeL (fm f) (be (wd f) n ++ r)).getD 0 default = msk f n ∧ takeR (fm f) (be (wd f) n ++ r) = r := by
  have hl := be_len (wd f) n
  have h1 : wd f ≤ (be (wd f) n ++ r).length := by rw [List.length_append, hl]; omega
  obtain ⟨a, b⟩ := numF h1
  refine ⟨by rw [okF]; exact decide_eq_true h1, ?_, ?_⟩
  · rw [a, List.take_left' hl, num_be]; rfl
  · rw [b, List.drop_left' hl]
theorem msk_bd (f n : Int) : 0 ≤ msk f n ∧ msk f n < 256 ^ wd f := ⟨Int.emod_nonneg _ (by have : (0 : Int) < 256 ^ wd f := Int.pow_pos (by decide); omega), Int.emod_lt_of_pos _ (Int.pow_pos (by decide))⟩
theorem msk_id {f n : Int} (h : 0 ≤ n) (h' : n < 256 ^ wd f) : msk f n = n := Int.emod_eq_of_lt h h'
theorem wd_one {f : Int} (h : 3 ≤ f) : wd f = 1 := if_neg (by omega)

/-- A field of a step, as it comes back. -/
def setF (s : TStep) (f : Int) (x : TStep) : TStep :=
  if f ≤ 3 then setN s f (msk f (getN x f)) else if f = 7 then { s with Keep := s.Keep ++ x.Keep.map fun k => k % 4 } else setX s f (getX x f)
def norm (x : TStep) : TStep := (fldL x.Kind).foldl (fun s f => setF s f x) { step0 with Kind := x.Kind }
def inL (x : TStep) : Prop := x.Path.length ≤ 255 ∧ x.To.length ≤ 255 ∧ x.Text.length ≤ 255 ∧ x.Keep.length ≤ 60
instance (x : TStep) : Decidable (inL x) := by unfold inL; exact inferInstance
def good (x : TStep) : Bool := decide (1 ≤ x.Kind) && decide (x.Kind ≤ 22) && decide (inL x) && decide (norm x = x)

theorem getX_len {x : TStep} (h : inL x) (f : Int) : (getX x f).length ≤ 255 := by
  obtain ⟨a, b, c, _⟩ := h
  unfold getX; repeat' split
  all_goals assumption
theorem low2_be (k : Int) : (be 1 k).map low2 = [k % 4] := by
  have h : be 1 k = [byt k] := rfl
  rw [h, List.map_singleton]
  unfold low2
  rw [UInt8.toNat_and, show (3 : UInt8).toNat = 2 ^ 2 - 1 from rfl, Nat.and_two_pow_sub_one_eq_mod]
  have := byt_nat k
  congr 1; omega
theorem keep_flat : ∀ l : List Int, ((l.map fun k => be 1 k).flatten).map low2 = l.map fun k => k % 4
  | [] => rfl
  | a :: r => by rw [List.map_cons, List.flatten_cons, List.map_append, low2_be, keep_flat r]; rfl
theorem keep_len : ∀ l : List Int, ((l.map fun k => be 1 k).flatten).length = l.length
  | [] => rfl
  | a :: r => by rw [List.map_cons, List.flatten_cons, List.length_append, be_len, keep_len r, List.length_cons]; omega
theorem takeF_put {m : Bool} {x : TStep} (hx : inL x) (s : TStep) (f : Int) (r : List UInt8) : takeF m s f (putFld x f ++ r) = (setF s f x, r, true) := by
  unfold putFld setF
  by_cases h3 : f ≤ 3
  · rw [if_pos h3, if_pos h3, putF_f]
    obtain ⟨a, b, c⟩ := takeNum f (getN x f) r
    unfold takeF
    rw [a, b, c, if_neg (by simp), if_pos h3]
  · rw [if_neg h3, if_neg h3]
    have hw := wd_one (f := f) (by omega)
    by_cases h7 : f = 7
    · rw [if_pos h7, if_pos h7, putF_f]
      obtain ⟨a, b, c⟩ := takeNum f (x.Keep.length : Int) (((x.Keep.map fun k => putF (fm f) [k]).flatten) ++ r)
      have hk : (x.Keep.map fun k => putF (fm f) [k]) = x.Keep.map fun k => be 1 k := by
        refine List.map_congr_left fun k _ => ?_
        rw [putF_f, hw]
      have hn : msk f (x.Keep.length : Int) = (x.Keep.length : Int) := msk_id (by omega) (by rw [hw]; have := hx.2.2.2; omega)
      rw [hn] at b
      rw [hk] at a b c ⊢
      have hl := keep_len x.Keep
      unfold takeF
      rw [List.append_assoc, a, b, c, if_neg (by simp), if_neg h3, if_neg (by have := hx.2.2.2; rw [List.length_append, hl]; omega), if_pos h7, Int.toNat_natCast, List.take_left' hl, List.drop_left' hl, keep_flat]
    · rw [if_neg h7, if_neg h7, putF_f]
      have hgl := getX_len hx f
      obtain ⟨a, b, c⟩ := takeNum f ((getX x f).length : Int) (getX x f ++ r)
      have hn : msk f ((getX x f).length : Int) = ((getX x f).length : Int) := msk_id (by omega) (by rw [hw]; omega)
      rw [hn] at b
      unfold takeF
      rw [List.append_assoc, a, b, c, if_neg (by simp), if_neg h3, if_neg (by rw [List.length_append]; omega), if_neg h7, Int.toNat_natCast, List.take_left' rfl, List.drop_left' rfl]
theorem takeFs_put {m : Bool} {x : TStep} (hx : inL x) : ∀ (fs : List Int) (s : TStep) (r : List UInt8), takeFs m fs s ((fs.map (putFld x)).flatten ++ r) = (fs.foldl (fun s f => setF s f x) s, r, true)
  | [], s, r => rfl
  | f :: fs, s, r => by
    rw [List.map_cons, List.flatten_cons, List.append_assoc, takeFs, takeF_put hx, if_pos rfl, takeFs_put hx fs]; rfl
theorem takenS_put {x : TStep} (hx : inL x) (h1 : 1 ≤ x.Kind) (h2 : x.Kind ≤ 22) (r : List UInt8) : takenS (putB x ++ r) = (norm x, r, true) := by
  have e : oneS false x.Kind (((fldL x.Kind).map (putFld x)).flatten ++ r) = (norm x, r, true) := takeFs_put hx _ _ _
  obtain ⟨a, b, c⟩ := takeNum 3 x.Kind (((fldL x.Kind).map (putFld x)).flatten ++ r)
  have hw : be (wd 3) x.Kind = putF [49] [x.Kind] := (putF1 _).symm
  rw [hw, ← List.append_assoc] at a b c
  change takeOk [49] _ = true at a
  change (takeL [49] _).getD 0 default = _ at b
  change takeR [49] _ = _ at c
  rw [msk_id (by omega) (by rw [wd_one (by omega)]; omega)] at b
  have ht : x.Kind.tmod 23 = x.Kind := by rw [Int.tmod_eq_emod_of_nonneg (by omega)]; omega
  have hput : putB x ++ r = putF [49] [x.Kind] ++ ((fldL x.Kind).map (putFld x)).flatten ++ r := rfl
  unfold takenS
  rw [hput, a, b, c, ht, e, if_neg (by simp), if_pos rfl]

/-! ### The two ways to take -/
theorem takeF_two (s : TStep) (f : Int) (b : List UInt8) : (takeF true s f b).2.2 = (takeF false s f b).2.2 ∧ ((takeF false s f b).2.2 = true → takeF true s f b = takeF false s f b) := by
  unfold takeF
  repeat' split
  all_goals simp_all
theorem takeFs_two : ∀ (fs : List Int) (s : TStep) (b : List UInt8), (takeFs true fs s b).2.2 = (takeFs false fs s b).2.2 ∧ ((takeFs false fs s b).2.2 = true → takeFs true fs s b = takeFs false fs s b)
  | [], s, b => ⟨rfl, fun _ => rfl⟩
  | f :: fs, s, b => by
    obtain ⟨h1, h3⟩ := takeF_two s f b
    by_cases h : (takeF false s f b).2.2 = true
    · have := takeFs_two fs (takeF false s f b).1 (takeF false s f b).2.1
      simp only [takeFs, h3 h, h, if_true]
      exact this
    · have h' : (takeF false s f b).2.2 = false := by simpa using h
      simp [takeFs, h1, h']
theorem takeF_ok {s s' : TStep} {f : Int} {b r : List UInt8} (h : takeF false s f b = (s', r, true)) : r.length ≤ b.length ∧ (∀ q, takeF false s f (b ++ q) = (s', r ++ q, true)) := by
  unfold takeF at h
  by_cases ho : takeOk (fm f) b = false
  · rw [if_pos ho] at h; simp at h
  rw [if_neg ho] at h
  have ho' : takeOk (fm f) b = true := by simpa using ho
  have hb : wd f ≤ b.length := by rw [okF] at ho'; simpa using ho'
  obtain ⟨n1, n2⟩ := numF hb
  have m1 : ∀ q : List UInt8, wd f ≤ (b ++ q).length := fun q => by rw [List.length_append]; omega
  have k1 : ∀ q, (takeL (fm f) (b ++ q)).getD 0 default = num (b.take (wd f)) := fun q => by rw [(numF (m1 q)).1, List.take_append_of_le_length hb]
  have k2 : ∀ q, takeR (fm f) (b ++ q) = b.drop (wd f) ++ q := fun q => by rw [(numF (m1 q)).2, List.drop_append_of_le_length hb]
  have k3 : ∀ q, ¬ takeOk (fm f) (b ++ q) = false := fun q => by rw [okF]; simp only [decide_eq_false_iff_not, Decidable.not_not]; exact m1 q
  rw [n1, n2] at h
  by_cases h3 : f ≤ 3
  · rw [if_pos h3] at h
    obtain ⟨h5, h6⟩ := tri h
    refine ⟨by rw [← h6, List.length_drop]; omega, fun q => ?_⟩
    unfold takeF
    rw [if_neg (k3 q), if_pos h3, k1, k2, h5, h6]
  rw [if_neg h3] at h
  split at h
  · simp at h
  next hc =>
  have hc' : ∀ q : List UInt8, ¬ (f = 7 ∧ 60 < num (b.take (wd f)) ∨ ((b.drop (wd f) ++ q).length : Int) < num (b.take (wd f))) := fun q hq => hc (hq.imp id fun h => by rw [List.length_append] at h; omega)
  have hle : (num (b.take (wd f))).toNat ≤ (b.drop (wd f)).length := by omega
  by_cases h7 : f = 7
  · rw [if_pos h7] at h
    obtain ⟨h5, h6⟩ := tri h
    refine ⟨by rw [← h6, List.length_drop, List.length_drop]; omega, fun q => ?_⟩
    unfold takeF
    rw [if_neg (k3 q), if_neg h3, k1, k2, if_neg (hc' q), if_pos h7, List.take_append_of_le_length hle, List.drop_append_of_le_length hle, h6, ← h5]
  rw [if_neg h7] at h
  obtain ⟨h5, h6⟩ := tri h
  refine ⟨by rw [← h6, List.length_drop, List.length_drop]; omega, fun q => ?_⟩
  unfold takeF
  rw [if_neg (k3 q), if_neg h3, k1, k2, if_neg (hc' q), if_neg h7, List.take_append_of_le_length hle, List.drop_append_of_le_length hle, h6, ← h5]
theorem takeFs_ok : ∀ (fs : List Int) {s s' : TStep} {b r : List UInt8}, takeFs false fs s b = (s', r, true) → r.length ≤ b.length ∧ ∀ q, takeFs false fs s (b ++ q) = (s', r ++ q, true)
  | [], s, s', b, r, h => by
    obtain ⟨rfl, rfl⟩ : s = s' ∧ b = r := by simpa [takeFs] using h
    exact ⟨Nat.le_refl _, fun q => rfl⟩
  | f :: fs, s, s', b, r, h => by
    rw [takeFs] at h
    split at h
    · next hk =>
      obtain ⟨h1, h2⟩ := takeF_ok (s' := (takeF false s f b).1) (r := (takeF false s f b).2.1) (f := f) (b := b) (s := s) (by rw [← hk])
      obtain ⟨h3, h4⟩ := takeFs_ok fs h
      refine ⟨by omega, fun q => ?_⟩
      rw [takeFs, h2 q, if_pos rfl]
      exact h4 q
    · simp at h
theorem takenS_ok {s : TStep} {b r : List UInt8} (h : takenS b = (s, r, true)) : r.length < b.length ∧ (∀ q, takenS (b ++ q) = (s, r ++ q, true)) ∧ ∃ k : Int, 0 ≤ k ∧ k < 23 ∧ 1 ≤ b.length ∧ k = (num (b.take 1)).tmod 23 ∧ oneS false k (b.drop 1) = (s, r, true) := by
  unfold takenS at h
  by_cases ho : takeOk [49] b = false
  · rw [if_pos ho] at h; simp at h
  rw [if_neg ho] at h
  have hb : 1 ≤ b.length := by rw [ok1] at ho; exact Classical.byContradiction fun h => ho (decide_eq_false h)
  obtain ⟨n1, n2⟩ := numF (f := 3) (b := b) hb
  change (takeL [49] b).getD 0 default = num (b.take 1) at n1
  change takeR [49] b = b.drop 1 at n2
  rw [n1, n2] at h
  split at h
  · next hk =>
    have hone := h
    obtain ⟨h1, h2⟩ := takeFs_ok _ h
    refine ⟨by rw [List.length_drop] at h1; omega, fun q => ?_, (num (b.take 1)).tmod 23, Int.tmod_nonneg _ (num_bd _ _ rfl).1, Int.tmod_lt_of_pos _ (by omega), hb, rfl, hone⟩
    have m1 : wd 3 ≤ (b ++ q).length := by rw [List.length_append]; change 1 ≤ _; omega
    obtain ⟨k1, k2⟩ := numF (f := 3) (b := b ++ q) m1
    change (takeL [49] (b ++ q)).getD 0 default = num ((b ++ q).take 1) at k1
    change takeR [49] (b ++ q) = (b ++ q).drop 1 at k2
    have e : oneS false ((num (b.take 1)).tmod 23) (b.drop 1 ++ q) = (s, r ++ q, true) := h2 q
    unfold takenS
    rw [k1, k2, List.take_append_of_le_length hb, List.drop_append_of_le_length hb, e, if_pos rfl, if_neg (by rw [ok1]; simp only [decide_eq_false_iff_not, Decidable.not_not]; exact m1)]
  · simp at h
end Go.Proofs.Ythhgaeeeppipnaa


namespace Go.Proofs.Ythhgaeeeppipnaa
open Go Go.Eng
theorem takeF_num {s s' : TStep} {f : Int} {b r : List UInt8} (h : takeF false s f b = (s', r, true)) (h3 : f ≤ 3) : ∃ n : Int, s' = setN s f n ∧ 0 ≤ n ∧ n < 256 ^ wd f ∧ b.length = wd f + r.length := by
  unfold takeF at h
  by_cases ho : takeOk (fm f) b = false
  · rw [if_pos ho] at h; simp at h
  rw [if_neg ho] at h
  have ho' : takeOk (fm f) b = true := by simpa using ho
  have hb : wd f ≤ b.length := by rw [okF] at ho'; simpa using ho'
  obtain ⟨n1, n2⟩ := numF hb
  rw [n1, n2, if_pos h3] at h
  obtain ⟨h5, h6⟩ := tri h
  have hbd := num_bd (wd f) (b.take (wd f)) (by rw [List.length_take]; omega)
  exact ⟨_, h5.symm, hbd.1, hbd.2, by rw [← h6, List.length_drop]; omega⟩
theorem takeF_txt {s s' : TStep} {f : Int} {b r : List UInt8} (h : takeF false s f b = (s', r, true)) (h3 : ¬ f ≤ 3) (h7 : f ≠ 7) : ∃ t : List UInt8, s' = setX s f t ∧ t.length ≤ 255 ∧ b.length = 1 + t.length + r.length := by
  unfold takeF at h
  by_cases ho : takeOk (fm f) b = false
  · rw [if_pos ho] at h; simp at h
  rw [if_neg ho, if_neg h3] at h
  have ho' : takeOk (fm f) b = true := by simpa using ho
  have hb : wd f ≤ b.length := by rw [okF] at ho'; simpa using ho'
  obtain ⟨n1, n2⟩ := numF hb
  have hbd := num_bd (wd f) (b.take (wd f)) (by rw [List.length_take]; omega)
  rw [n1, n2] at h
  rw [wd_one (by omega)] at *
  split at h
  · simp at h
  next hc =>
  have hc2 : ¬ (((b.drop 1).length : Int) < num (b.take 1)) := fun e => hc (.inr e)
  try rw [if_neg h7] at h
  obtain ⟨h5, h6⟩ := tri h
  rw [List.length_drop] at hc2
  refine ⟨_, h5.symm, by rw [List.length_take]; omega, ?_⟩
  rw [← h6]
  simp only [List.length_take, List.length_drop]
  omega
theorem takeF_keep {s s' : TStep} {b r : List UInt8} (h : takeF false s 7 b = (s', r, true)) : ∃ t : List UInt8, s' = { s with Keep := s.Keep ++ t.map low2 } ∧ t.length ≤ 60 ∧ b.length = 1 + t.length + r.length := by
  unfold takeF at h
  by_cases ho : takeOk (fm 7) b = false
  · rw [if_pos ho] at h; simp at h
  rw [if_neg ho, if_neg (by omega)] at h
  have ho' : takeOk (fm 7) b = true := by simpa using ho
  have hb : wd 7 ≤ b.length := by rw [okF] at ho'; simpa using ho'
  obtain ⟨n1, n2⟩ := numF hb
  have hbd := num_bd (wd 7) (b.take (wd 7)) (by rw [List.length_take]; omega)
  rw [n1, n2] at h
  rw [wd_one (by omega)] at *
  split at h
  · simp at h
  next hc =>
  have hc2 : ¬ (((b.drop 1).length : Int) < num (b.take 1)) := fun e => hc (.inr e)
  have hc3 : ¬ (60 < num (b.take 1)) := fun e => hc (.inl ⟨rfl, e⟩)
  try rw [if_pos rfl] at h
  obtain ⟨h5, h6⟩ := tri h
  rw [List.length_drop] at hc2
  refine ⟨_, h5.symm, by rw [List.length_take]; omega, ?_⟩
  rw [← h6]
  simp only [List.length_take, List.length_drop]
  omega
theorem takeFs_cons {f : Int} {fs : List Int} {s s' : TStep} {b r : List UInt8} (h : takeFs false (f :: fs) s b = (s', r, true)) : ∃ s1 r1, takeF false s f b = (s1, r1, true) ∧ takeFs false fs s1 r1 = (s', r, true) := by
  rw [takeFs] at h
  split at h
  · next hk => exact ⟨_, _, by rw [← hk], h⟩
  · simp at h
theorem takeFs_nil {s s' : TStep} {b r : List UInt8} (h : takeFs false [] s b = (s', r, true)) : s' = s ∧ r = b := by
  simp [takeFs] at h; exact ⟨h.1.symm, h.2.symm⟩
theorem low2_bd (c : UInt8) : 0 ≤ low2 c ∧ low2 c < 4 := by
  unfold low2
  rw [UInt8.toNat_and, show (3 : UInt8).toNat = 2 ^ 2 - 1 from rfl, Nat.and_two_pow_sub_one_eq_mod]
  omega
theorem low2_id (t : List UInt8) : (t.map low2).map (fun k => k % 4) = t.map low2 := by
  rw [List.map_map]
  refine List.map_congr_left fun c _ => ?_
  have := low2_bd c
  simp only [Function.comp_apply]; omega
theorem two6 : (256 : Int) ^ 2 = 65536 := rfl
theorem one6 : (256 : Int) ^ 1 = 256 := rfl
theorem keepB_len (l : List Int) : ((l.map fun k => putF (fm 7) [k]).flatten).length = l.length := by
  have : (l.map fun k => putF (fm 7) [k]) = l.map fun k => be 1 k := List.map_congr_left fun k _ => putF_f 7 k
  rw [this, keep_len]
theorem keepM_len (l : List Int) : ((l.map fun k => be (wd 7) k).flatten).length = l.length := keep_len l
theorem one_good {k : Int} {s : TStep} {b r : List UInt8} (h0 : 0 ≤ k) (h : oneS false k b = (s, r, true)) : s.Kind = k ∧ norm s = s ∧ inL s ∧ (putB s).length + r.length = b.length + 1 := by
  unfold oneS at h
  have fin : ∀ x : TStep, x.Kind = k → fldL x.Kind = fldL k := fun x e => by rw [e]
  rcases fldL_is k with e | e | e | e | e | e | e | e | e | e | e <;> rw [e] at h
  · obtain ⟨s1, r1, a1, h⟩ := takeFs_cons h
    obtain ⟨s2, r2, a2, h⟩ := takeFs_cons h
    obtain ⟨s3, r3, a3, h⟩ := takeFs_cons h
    obtain ⟨rfl, rfl⟩ := takeFs_nil h
    obtain ⟨n1, rfl, b1, c1, d1⟩ := takeF_num a1 (by omega)
    obtain ⟨n2, rfl, b2, c2, d2⟩ := takeF_num a2 (by omega)
    obtain ⟨t, rfl, b3, d3⟩ := takeF_txt a3 (by omega) (by omega)
    simp [wd, two6] at c1 c2 d1 d2
    refine ⟨rfl, ?_, ?_, ?_⟩
    · simp [norm, setX, setN, step0, e, setF, msk, getN, getX, wd, two6, Int.emod_eq_of_lt b1 c1, Int.emod_eq_of_lt b2 c2]
    · simp [inL, setX, setN, step0, b3]
    · simp [putB, setX, setN, step0, e, putFld, putF_f, putF1, be_len, getX, wd]; omega
  · obtain ⟨s1, r1, a1, h⟩ := takeFs_cons h
    obtain ⟨s3, r3, a3, h⟩ := takeFs_cons h
    obtain ⟨rfl, rfl⟩ := takeFs_nil h
    obtain ⟨n1, rfl, b1, c1, d1⟩ := takeF_num a1 (by omega)
    obtain ⟨t, rfl, b3, d3⟩ := takeF_txt a3 (by omega) (by omega)
    simp [wd, two6] at c1 d1
    refine ⟨rfl, ?_, ?_, ?_⟩
    · simp [norm, setX, setN, step0, e, setF, msk, getN, getX, wd, two6, Int.emod_eq_of_lt b1 c1]
    · simp [inL, setX, setN, step0, b3]
    · simp [putB, setX, setN, step0, e, putFld, putF_f, putF1, be_len, getX, wd]; omega
  · obtain ⟨s1, r1, a1, h⟩ := takeFs_cons h
    obtain ⟨s3, r3, a3, h⟩ := takeFs_cons h
    obtain ⟨s4, r4, a4, h⟩ := takeFs_cons h
    obtain ⟨rfl, rfl⟩ := takeFs_nil h
    obtain ⟨n1, rfl, b1, c1, d1⟩ := takeF_num a1 (by omega)
    obtain ⟨t, rfl, b3, d3⟩ := takeF_txt a3 (by omega) (by omega)
    obtain ⟨u, rfl, b4, d4⟩ := takeF_txt a4 (by omega) (by omega)
    simp [wd, two6] at c1 d1
    refine ⟨rfl, ?_, ?_, ?_⟩
    · simp [norm, setX, setN, step0, e, setF, msk, getN, getX, wd, two6, Int.emod_eq_of_lt b1 c1]
    · simp [inL, setX, setN, step0, b3, b4]
    · simp [putB, setX, setN, step0, e, putFld, putF_f, putF1, be_len, getX, wd]; omega
  · obtain ⟨s1, r1, a1, h⟩ := takeFs_cons h
    obtain ⟨s2, r2, a2, h⟩ := takeFs_cons h
    obtain ⟨s3, r3, a3, h⟩ := takeFs_cons h
    obtain ⟨s4, r4, a4, h⟩ := takeFs_cons h
    obtain ⟨rfl, rfl⟩ := takeFs_nil h
    obtain ⟨n1, rfl, b1, c1, d1⟩ := takeF_num a1 (by omega)
    obtain ⟨n2, rfl, b2, c2, d2⟩ := takeF_num a2 (by omega)
    obtain ⟨t, rfl, b3, d3⟩ := takeF_txt a3 (by omega) (by omega)
    obtain ⟨u, rfl, b4, d4⟩ := takeF_txt a4 (by omega) (by omega)
    simp [wd, two6] at c1 c2 d1 d2
    refine ⟨rfl, ?_, ?_, ?_⟩
    · simp [norm, setX, setN, step0, e, setF, msk, getN, getX, wd, two6, Int.emod_eq_of_lt b1 c1, Int.emod_eq_of_lt b2 c2]
    · simp [inL, setX, setN, step0, b3, b4]
    · simp [putB, setX, setN, step0, e, putFld, putF_f, putF1, be_len, getX, wd]; omega
  · obtain ⟨s1, r1, a1, h⟩ := takeFs_cons h
    obtain ⟨s2, r2, a2, h⟩ := takeFs_cons h
    obtain ⟨s4, r4, a4, h⟩ := takeFs_cons h
    obtain ⟨s3, r3, a3, h⟩ := takeFs_cons h
    obtain ⟨rfl, rfl⟩ := takeFs_nil h
    obtain ⟨n1, rfl, b1, c1, d1⟩ := takeF_num a1 (by omega)
    obtain ⟨n2, rfl, b2, c2, d2⟩ := takeF_num a2 (by omega)
    obtain ⟨n4, rfl, b4, c4, d4⟩ := takeF_num a4 (by omega)
    obtain ⟨t, rfl, b3, d3⟩ := takeF_txt a3 (by omega) (by omega)
    simp [wd, two6] at c1 c2 c4 d1 d2 d4
    refine ⟨rfl, ?_, ?_, ?_⟩
    · simp [norm, setX, setN, step0, e, setF, msk, getN, getX, wd, two6, Int.emod_eq_of_lt b1 c1, Int.emod_eq_of_lt b2 c2, Int.emod_eq_of_lt b4 c4]
    · simp [inL, setX, setN, step0, b3]
    · simp [putB, setX, setN, step0, e, putFld, putF_f, putF1, be_len, getX, wd]; omega
  · obtain ⟨s1, r1, a1, h⟩ := takeFs_cons h
    obtain ⟨rfl, rfl⟩ := takeFs_nil h
    obtain ⟨n1, rfl, b1, c1, d1⟩ := takeF_num a1 (by omega)
    simp [wd, two6] at c1 d1
    refine ⟨rfl, ?_, ?_, ?_⟩
    · simp [norm, setX, setN, step0, e, setF, msk, getN, getX, wd, two6, Int.emod_eq_of_lt b1 c1]
    · simp [inL, setX, setN, step0]
    · simp [putB, setX, setN, step0, e, putFld, putF_f, putF1, be_len, getX, wd]; omega
  · obtain ⟨s1, r1, a1, h⟩ := takeFs_cons h
    obtain ⟨rfl, rfl⟩ := takeFs_nil h
    obtain ⟨n1, rfl, b1, c1, d1⟩ := takeF_num a1 (by omega)
    simp [wd, two6] at c1 d1
    refine ⟨rfl, ?_, ?_, ?_⟩
    · simp [norm, setX, setN, step0, e, setF, msk, getN, getX, wd, two6, Int.emod_eq_of_lt b1 c1]
    · simp [inL, setX, setN, step0]
    · simp [putB, setX, setN, step0, e, putFld, putF_f, putF1, be_len, getX, wd]; omega
  · obtain ⟨s1, r1, a1, h⟩ := takeFs_cons h
    obtain ⟨s2, r2, a2, h⟩ := takeFs_cons h
    obtain ⟨rfl, rfl⟩ := takeFs_nil h
    obtain ⟨n1, rfl, b1, c1, d1⟩ := takeF_num a1 (by omega)
    obtain ⟨n2, rfl, b2, c2, d2⟩ := takeF_num a2 (by omega)
    simp [wd, two6] at c1 c2 d1 d2
    refine ⟨rfl, ?_, ?_, ?_⟩
    · simp [norm, setX, setN, step0, e, setF, msk, getN, getX, wd, two6, Int.emod_eq_of_lt b1 c1, Int.emod_eq_of_lt b2 c2]
    · simp [inL, setX, setN, step0]
    · simp [putB, setX, setN, step0, e, putFld, putF_f, putF1, be_len, getX, wd]; omega
  · obtain ⟨s1, r1, a1, h⟩ := takeFs_cons h
    obtain ⟨rfl, rfl⟩ := takeFs_nil h
    obtain ⟨t, rfl, b1, d1⟩ := takeF_keep a1
    refine ⟨rfl, ?_, ?_, ?_⟩
    · simp only [norm, step0, e, setF, List.foldl_cons, List.foldl_nil, List.nil_append, low2_id]; simp
    · simp [inL, step0, b1]
    · simp only [putB, step0, e, putFld, putF_f, putF1, List.map_cons, List.map_nil, List.flatten_cons, List.flatten_nil, List.append_nil, List.length_append, be_len, List.nil_append, if_true]
      rw [if_neg (by omega), List.length_append, be_len, keepM_len, wd_one (by omega), List.length_map]; omega
  · obtain ⟨s1, r1, a1, h⟩ := takeFs_cons h
    obtain ⟨s2, r2, a2, h⟩ := takeFs_cons h
    obtain ⟨s4, r4, a4, h⟩ := takeFs_cons h
    obtain ⟨rfl, rfl⟩ := takeFs_nil h
    obtain ⟨n1, rfl, b1, c1, d1⟩ := takeF_num a1 (by omega)
    obtain ⟨n2, rfl, b2, c2, d2⟩ := takeF_num a2 (by omega)
    obtain ⟨n4, rfl, b4, c4, d4⟩ := takeF_num a4 (by omega)
    simp [wd, two6] at c1 c2 c4 d1 d2 d4
    refine ⟨rfl, ?_, ?_, ?_⟩
    · simp [norm, setX, setN, step0, e, setF, msk, getN, getX, wd, two6, Int.emod_eq_of_lt b1 c1, Int.emod_eq_of_lt b2 c2, Int.emod_eq_of_lt b4 c4]
    · simp [inL, setX, setN, step0]
    · simp [putB, setX, setN, step0, e, putFld, putF_f, putF1, be_len, getX, wd]; omega
  · obtain ⟨rfl, rfl⟩ := takeFs_nil h
    refine ⟨rfl, ?_, ?_, ?_⟩
    · simp [norm, step0, e]
    · simp [inL, step0]
    · simp [putB, step0, e, putF1, be_len]; omega
theorem taken_good {s : TStep} {b r : List UInt8} (h : takenS b = (s, r, true)) (hk : 0 < s.Kind) : good s = true ∧ (putB s).length + r.length = b.length := by
  obtain ⟨_, _, k, h0, h1, h2, _, h4⟩ := takenS_ok h
  obtain ⟨a, c, d, e⟩ := one_good h0 h4
  rw [List.length_drop] at e
  refine ⟨?_, by omega⟩
  unfold good
  simp only [Bool.and_eq_true, decide_eq_true_eq]
  exact ⟨⟨⟨by omega, by omega⟩, d⟩, c⟩
theorem taken_kind {s : TStep} {b r : List UInt8} (h : takenS b = (s, r, true)) : 0 ≤ s.Kind ∧ s.Kind ≤ 22 ∧ inL s := by
  obtain ⟨_, _, k, h0, h1, h2, _, h4⟩ := takenS_ok h
  obtain ⟨a, c, d, e⟩ := one_good h0 h4
  exact ⟨by omega, by omega, d⟩
theorem trip {α β : Type} {x : α × β × Bool} (h : x.2.2 = true) : x = (x.1, x.2.1, true) := by rw [← h]
theorem takeAll_more : ∀ (n m : Nat) (b : List UInt8), b.length ≤ n → b.length ≤ m → takeAll n b = takeAll m b
  | 0, m, b, h, h' => by
    obtain rfl := List.length_eq_zero_iff.1 (Nat.le_zero.1 h)
    cases m with
    | zero => rfl
    | succ m => rw [takeAll, takeAll, if_pos rfl]
  | n + 1, 0, b, h, h' => by
    obtain rfl := List.length_eq_zero_iff.1 (Nat.le_zero.1 h')
    rw [takeAll, takeAll, if_pos rfl]
  | n + 1, m + 1, b, h, h' => by
    rw [takeAll, takeAll]
    by_cases hb : b = []
    · rw [if_pos hb, if_pos hb]
    rw [if_neg hb, if_neg hb]
    by_cases hk : (takenS b).2.2 = true
    · have := (takenS_ok (trip hk)).1
      rw [if_pos hk, if_pos hk, takeAll_more n m _ (by omega) (by omega)]
    · rw [if_neg hk, if_neg hk]
theorem takeS_nil : takeS [] = [] := rfl
theorem takeS_step {b : List UInt8} (hb : b ≠ []) : takeS b = if (takenS b).2.2 = true then (if 0 < (takenS b).1.Kind then (takenS b).1 :: takeS (takenS b).2.1 else takeS (takenS b).2.1) else [] := by
  unfold takeS
  have hl : b.length ≠ 0 := fun h => hb (List.length_eq_zero_iff.1 h)
  obtain ⟨n, hn⟩ : ∃ n, b.length = n + 1 := ⟨b.length - 1, by omega⟩
  rw [hn, takeAll, if_neg hb]
  by_cases hk : (takenS b).2.2 = true
  · have := (takenS_ok (trip hk)).1
    rw [if_pos hk, if_pos hk, takeAll_more n _ (takenS b).2.1 (by omega) (Nat.le_refl _)]
  · rw [if_neg hk, if_neg hk]
theorem good_of {x : TStep} (h : good x = true) : 1 ≤ x.Kind ∧ x.Kind ≤ 22 ∧ inL x ∧ norm x = x := by
  unfold good at h
  simp only [Bool.and_eq_true, decide_eq_true_eq] at h
  exact ⟨h.1.1.1, h.1.1.2, h.1.2, h.2⟩
theorem putB_ne (x : TStep) : putB x ≠ [] := fun h => by
  have := congrArg List.length h
  rw [putB, List.length_append, putF1, be_len] at this
  simp at this
theorem takeS_put {x : TStep} (h : good x = true) (r : List UInt8) : takeS (putB x ++ r) = x :: takeS r := by
  obtain ⟨a, b, c, d⟩ := good_of h
  rw [takeS_step (fun e => putB_ne x (List.append_eq_nil_iff.1 e).1), takenS_put c a b, if_pos rfl, d, if_pos (by dsimp only; omega)]
theorem putOne_good (x : TStep) : putOne x = if good x = true then putB x else [] := by
  unfold putOne
  by_cases h : good x = true
  · obtain ⟨a, b, c, d⟩ := good_of h
    have e := takenS_put c a b []
    rw [List.append_nil] at e
    rw [if_pos h, e, if_pos ⟨rfl, by omega, rfl, d.symm⟩]
  · rw [if_neg h, if_neg]
    rintro ⟨h1, h2, h3, h4⟩
    obtain ⟨k1, k2, k3⟩ := taken_kind (trip h1)
    rw [← h4] at k1 k2 k3
    exact h (by rw [h4]; exact (taken_good (trip h1) (by rw [← h4]; omega)).1)
theorem rputOne_good (x : TStep) : rputOne x = if good x = true then putB x else [] := by
  unfold rputOne rputB
  by_cases hc : x.Kind < 1 ∨ 22 < x.Kind ∨ 255 < x.Path.length ∨ 255 < x.To.length ∨ 255 < x.Text.length ∨ 60 < x.Keep.length
  · have hg : ¬ good x = true := fun h => by
      obtain ⟨a, b, ⟨c1, c2, c3, c4⟩, d⟩ := good_of h
      omega
    rw [if_pos hc, if_neg hg]
    simp [takeS_nil]
  rw [if_neg hc]
  have hi : inL x := ⟨by omega, by omega, by omega, by omega⟩
  have e := takenS_put hi (by omega) (by omega) []
  have e2 : takeS (putB x) = [norm x] := by
    rw [List.append_nil] at e
    have hk : (norm x).Kind = x.Kind := by
      have := takenS_ok (s := norm x) (b := putB x) (r := []) e
      obtain ⟨_, _, k, h0, h1, h2, h3, h4⟩ := this
      rw [(one_good h0 h4).1, h3]
      have hb : (putB x).take 1 = be 1 x.Kind := by rw [putB, putF1, List.take_left' (be_len _ _)]
      rw [hb, num_be, Int.tmod_eq_emod_of_nonneg (by omega)]
      omega
    rw [takeS_step (putB_ne x), e, if_pos rfl, if_pos (by dsimp only; omega), takeS_nil]
  rw [e2]
  by_cases h : good x = true
  · rw [if_pos h, if_pos ⟨rfl, (good_of h).2.2.2⟩]
  · rw [if_neg h, if_neg]
    rintro ⟨_, h2⟩
    refine h ?_
    unfold good
    simp only [Bool.and_eq_true, decide_eq_true_eq]
    exact ⟨⟨⟨by omega, by omega⟩, hi⟩, h2⟩
theorem rputL_eq (l : List TStep) : rputL l = putL l := by
  unfold rputL putL
  congr 1
  exact List.map_congr_left fun x _ => by rw [rputOne_good, putOne_good]
theorem putL_cons (x : TStep) (l : List TStep) : putL (x :: l) = putOne x ++ putL l := by simp [putL]
theorem putL_app (l m : List TStep) : putL (l ++ m) = putL l ++ putL m := by simp [putL]
theorem takeS_putL : ∀ (l : List TStep) (r : List UInt8), takeS (putL l ++ r) = l.filter good ++ takeS r
  | [], r => rfl
  | x :: l, r => by
    rw [putL_cons, putOne_good]
    by_cases h : good x = true
    · rw [if_pos h, List.append_assoc, takeS_put h, takeS_putL l, List.filter_cons_of_pos h]; rfl
    · rw [if_neg h, List.nil_append, takeS_putL l, List.filter_cons_of_neg h]
theorem takeS_good : ∀ (n : Nat) (b : List UInt8), b.length ≤ n → (takeS b).all good = true ∧ (putL (takeS b)).length ≤ b.length
  | 0, b, h => by
    obtain rfl := List.length_eq_zero_iff.1 (Nat.le_zero.1 h)
    exact ⟨rfl, Nat.le_refl _⟩
  | n + 1, b, h => by
    by_cases hb : b = []
    · subst hb; exact ⟨rfl, Nat.le_refl _⟩
    rw [takeS_step hb]
    by_cases hk : (takenS b).2.2 = true
    · have h1 := (takenS_ok (trip hk)).1
      obtain ⟨i1, i2⟩ := takeS_good n (takenS b).2.1 (by omega)
      rw [if_pos hk]
      by_cases h0 : 0 < (takenS b).1.Kind
      · obtain ⟨g1, g2⟩ := taken_good (trip hk) h0
        rw [if_pos h0, List.all_cons, g1, i1, putL_cons, putOne_good, if_pos g1, List.length_append]
        exact ⟨rfl, by omega⟩
      · rw [if_neg h0]
        exact ⟨i1, by omega⟩
    · rw [if_neg hk]
      exact ⟨rfl, Nat.zero_le _⟩
theorem filter_all {l : List TStep} (h : l.all good = true) : l.filter good = l := List.filter_eq_self.2 (List.all_eq_true.1 h)
theorem takeS_back {l : List TStep} (h : l.all good = true) : takeS (putL l) = l := by
  have := takeS_putL l []
  rw [List.append_nil, takeS_nil, List.append_nil, filter_all h] at this
  exact this
theorem takeS_zeros : ∀ (n : Nat) (b : List UInt8), takeS (List.replicate n 0 ++ b) = takeS b
  | 0, b => rfl
  | n + 1, b => by
    have e : takenS (0 :: (List.replicate n 0 ++ b)) = (step0, List.replicate n 0 ++ b, true) := by
      obtain ⟨n1, n2⟩ := numF (f := 3) (b := 0 :: (List.replicate n 0 ++ b)) (by rw [wd_one (by omega), List.length_cons]; omega)
      change (takeL [49] _).getD 0 default = num [0] at n1
      change takeR [49] _ = _ at n2
      unfold takenS
      rw [n1, n2, show num [0] = 0 from rfl, if_neg (by rw [ok1]; simp)]
      rfl
    rw [List.replicate_succ, List.cons_append, takeS_step (by simp), e, if_pos rfl]
    exact (if_neg (fun h : (0 : Int) < 0 => absurd h (by decide))).trans (takeS_zeros n b)
/-- What is cut off says the first steps. -/
theorem takeS_cut : ∀ (l : List TStep) (k : Nat), l.all good = true → k ≤ (putL l).length → ∃ j, j ≤ l.length ∧ takeS ((putL l).take k) = l.take j ∧ (j < l.length → k < (putL (l.take (j + 1))).length)
  | [], k, _, h => ⟨0, Nat.le_refl _, by simp [putL, takeS_nil], fun h => by simp at h⟩
  | x :: l, k, hg, h => by
    rw [List.all_cons, Bool.and_eq_true] at hg
    have hp : putOne x = putB x := by rw [putOne_good, if_pos hg.1]
    rw [putL_cons, hp] at h ⊢
    by_cases hk : (putB x).length ≤ k
    · obtain ⟨j, j1, j2, j3⟩ := takeS_cut l (k - (putB x).length) hg.2 (by rw [List.length_append] at h; omega)
      refine ⟨j + 1, by rw [List.length_cons]; omega, ?_, fun hj => ?_⟩
      · rw [List.take_append, List.take_of_length_le hk, takeS_put hg.1, j2, List.take_succ_cons]
      · rw [List.length_cons] at hj
        have := j3 (by omega)
        rw [List.take_succ_cons, putL_cons, hp, List.length_append]; omega
    · refine ⟨0, Nat.zero_le _, ?_, fun _ => ?_⟩
      · rw [List.take_append_of_le_length (by omega)]
        by_cases hz : (putB x).take k = []
        · rw [hz]; rfl
        rw [takeS_step hz]
        rw [if_neg, List.take_zero]
        intro ho
        obtain ⟨_, h2, _⟩ := takenS_ok (trip ho)
        have h3 := h2 ((putB x).drop k)
        rw [List.take_append_drop] at h3
        obtain ⟨a, b, c, d⟩ := good_of hg.1
        have h4 := takenS_put c a b []
        rw [List.append_nil, h3] at h4
        have h5 : _ ++ List.drop k (putB x) = [] := (Prod.mk.inj (Prod.mk.inj h4).2).1
        have h6 := congrArg List.length (List.append_eq_nil_iff.1 h5).2
        rw [List.length_drop, List.length_nil] at h6
        omega
      · rw [List.take_succ_cons, putL_cons, hp, List.length_append]; omega
end Go.Proofs.Ythhgaeeeppipnaa


namespace Go.Proofs.Ythhgaeeeppipnaa
open Go Go.Eng
def G_ops_fields_30 : GCode := .seq (.seq .weak (.region [⟨(some 42), none, .binOp .eql 3 (.tmp 3) (.const (.int .i64 22)) 3⟩, ⟨(some 41), none, .assign (.tmp 42)⟩])) (.cond (.tmp 41) (.seq (.region [⟨(some 43), none, .buildSlice 46 3 #[(0, .const (.int .i64 1)), (1, .const (.int .i64 2)), (2, .const (.int .i64 3))]⟩, ⟨(some 2), none, .assign (.tmp 43)⟩]) (.ret)) (.skip))
def G_ops_fields_28 : GCode := .seq (.seq .weak (.region [⟨(some 39), none, .binOp .eql 3 (.tmp 3) (.const (.int .i64 21)) 3⟩, ⟨(some 38), none, .assign (.tmp 39)⟩])) (.cond (.tmp 38) (.seq (.region [⟨(some 40), none, .buildSlice 46 1 #[(0, .const (.int .i64 7))]⟩, ⟨(some 2), none, .assign (.tmp 40)⟩]) (.ret)) (G_ops_fields_30))
def G_ops_fields_26 : GCode := .seq (.seq .weak (.region [⟨(some 36), none, .binOp .eql 3 (.tmp 3) (.const (.int .i64 13)) 3⟩, ⟨(some 35), none, .assign (.tmp 36)⟩])) (.cond (.tmp 35) (.seq (.region [⟨(some 37), none, .buildSlice 46 2 #[(0, .const (.int .i64 0)), (1, .const (.int .i64 1))]⟩, ⟨(some 2), none, .assign (.tmp 37)⟩]) (.ret)) (G_ops_fields_28))
def G_ops_fields_21 : GCode := .seq (.seq (.seq .weak (.region [⟨(some 30), none, .binOp .eql 3 (.tmp 3) (.const (.int .i64 10)) 3⟩, ⟨(some 29), none, .assign (.tmp 30)⟩])) (.cond (.tmp 29) (.skip) (.seq (.region [⟨(some 31), none, .binOp .eql 3 (.tmp 3) (.const (.int .i64 11)) 3⟩, ⟨(some 29), none, .assign (.tmp 31)⟩]) (.cond (.tmp 29) (.skip) (.seq (.region [⟨(some 32), none, .binOp .eql 3 (.tmp 3) (.const (.int .i64 12)) 3⟩, ⟨(some 29), none, .assign (.tmp 32)⟩]) (.cond (.tmp 29) (.skip) (.region [⟨(some 33), none, .binOp .eql 3 (.tmp 3) (.const (.int .i64 14)) 3⟩, ⟨(some 29), none, .assign (.tmp 33)⟩]))))))) (.cond (.tmp 29) (.seq (.region [⟨(some 34), none, .buildSlice 46 1 #[(0, .const (.int .i64 0))]⟩, ⟨(some 2), none, .assign (.tmp 34)⟩]) (.ret)) (G_ops_fields_26))
def G_ops_fields_15 : GCode := .seq (.seq (.seq .weak (.region [⟨(some 23), none, .binOp .eql 3 (.tmp 3) (.const (.int .i64 9)) 3⟩, ⟨(some 22), none, .assign (.tmp 23)⟩])) (.cond (.tmp 22) (.skip) (.seq (.region [⟨(some 24), none, .binOp .eql 3 (.tmp 3) (.const (.int .i64 15)) 3⟩, ⟨(some 22), none, .assign (.tmp 24)⟩]) (.cond (.tmp 22) (.skip) (.seq (.region [⟨(some 25), none, .binOp .eql 3 (.tmp 3) (.const (.int .i64 18)) 3⟩, ⟨(some 22), none, .assign (.tmp 25)⟩]) (.cond (.tmp 22) (.skip) (.seq (.region [⟨(some 26), none, .binOp .eql 3 (.tmp 3) (.const (.int .i64 19)) 3⟩, ⟨(some 22), none, .assign (.tmp 26)⟩]) (.cond (.tmp 22) (.skip) (.region [⟨(some 27), none, .binOp .eql 3 (.tmp 3) (.const (.int .i64 20)) 3⟩, ⟨(some 22), none, .assign (.tmp 27)⟩]))))))))) (.cond (.tmp 22) (.seq (.region [⟨(some 28), none, .buildSlice 46 1 #[(0, .const (.int .i64 1))]⟩, ⟨(some 2), none, .assign (.tmp 28)⟩]) (.ret)) (G_ops_fields_21))
def G_ops_fields_13 : GCode := .seq (.seq .weak (.region [⟨(some 20), none, .binOp .eql 3 (.tmp 3) (.const (.int .i64 6)) 3⟩, ⟨(some 19), none, .assign (.tmp 20)⟩])) (.cond (.tmp 19) (.seq (.region [⟨(some 21), none, .buildSlice 46 4 #[(0, .const (.int .i64 0)), (1, .const (.int .i64 1)), (2, .const (.int .i64 2)), (3, .const (.int .i64 4))]⟩, ⟨(some 2), none, .assign (.tmp 21)⟩]) (.ret)) (G_ops_fields_15))
def G_ops_fields_11 : GCode := .seq (.seq .weak (.region [⟨(some 17), none, .binOp .eql 3 (.tmp 3) (.const (.int .i64 4)) 3⟩, ⟨(some 16), none, .assign (.tmp 17)⟩])) (.cond (.tmp 16) (.seq (.region [⟨(some 18), none, .buildSlice 46 4 #[(0, .const (.int .i64 0)), (1, .const (.int .i64 1)), (2, .const (.int .i64 4)), (3, .const (.int .i64 6))]⟩, ⟨(some 2), none, .assign (.tmp 18)⟩]) (.ret)) (G_ops_fields_13))
def G_ops_fields_9 : GCode := .seq (.seq .weak (.region [⟨(some 14), none, .binOp .eql 3 (.tmp 3) (.const (.int .i64 3)) 3⟩, ⟨(some 13), none, .assign (.tmp 14)⟩])) (.cond (.tmp 13) (.seq (.region [⟨(some 15), none, .buildSlice 46 3 #[(0, .const (.int .i64 0)), (1, .const (.int .i64 4)), (2, .const (.int .i64 5))]⟩, ⟨(some 2), none, .assign (.tmp 15)⟩]) (.ret)) (G_ops_fields_11))
def G_ops_fields_5 : GCode := .seq (.seq (.seq .weak (.region [⟨(some 9), none, .binOp .eql 3 (.tmp 3) (.const (.int .i64 2)) 3⟩, ⟨(some 8), none, .assign (.tmp 9)⟩])) (.cond (.tmp 8) (.skip) (.seq (.region [⟨(some 10), none, .binOp .eql 3 (.tmp 3) (.const (.int .i64 7)) 3⟩, ⟨(some 8), none, .assign (.tmp 10)⟩]) (.cond (.tmp 8) (.skip) (.region [⟨(some 11), none, .binOp .eql 3 (.tmp 3) (.const (.int .i64 8)) 3⟩, ⟨(some 8), none, .assign (.tmp 11)⟩]))))) (.cond (.tmp 8) (.seq (.region [⟨(some 12), none, .buildSlice 46 2 #[(0, .const (.int .i64 0)), (1, .const (.int .i64 4))]⟩, ⟨(some 2), none, .assign (.tmp 12)⟩]) (.ret)) (G_ops_fields_9))
def G_ops_fields : GCode := .seq (.region [⟨(some 2), none, .assign (.const (.slice none 0 0))⟩]) (.seq (.seq (.region [⟨(some 3), none, .move (.tmp 0)⟩]) (.block 0 (.seq (.seq (.region [⟨(some 5), none, .binOp .eql 3 (.tmp 3) (.const (.int .i64 1)) 3⟩, ⟨(some 4), none, .assign (.tmp 5)⟩]) (.cond (.tmp 4) (.skip) (.region [⟨(some 6), none, .binOp .eql 3 (.tmp 3) (.const (.int .i64 5)) 3⟩, ⟨(some 4), none, .assign (.tmp 6)⟩]))) (.cond (.tmp 4) (.seq (.region [⟨(some 7), none, .buildSlice 46 3 #[(0, .const (.int .i64 0)), (1, .const (.int .i64 1)), (2, .const (.int .i64 4))]⟩, ⟨(some 2), none, .assign (.tmp 7)⟩]) (.ret)) (G_ops_fields_5))))) (.seq (.region [⟨(some 2), none, .assign (.const (.slice none 0 0))⟩]) (.ret)))
noncomputable def l_ops_fields : List (Nat × Con) := []
noncomputable abbrev K_ops_fields : Ctx := ctx (cl l_ops_fields)
theorem geq_ops_fields : gof K_ops_fields Try.f20 = some G_ops_fields.strip := by kernel_rfl
theorem sys_ops_fields : Go.Eng.Sys Try.prog K_ops_fields := sys_of' (l := []) trivial
theorem hm_ops_fields : ConMono K_ops_fields := conMono_of sys_ops_fields.con
def A_ops_fields := Arms.cons (argT Int) Arms.nil
def p_ops_fields (x : Int × Unit) : Prop := True
def r_ops_fields (x : Int × Unit) : AV := .t (sl (fldL x.1))
theorem fldL_no {k : Int} (h : fldT.all (fun p => decide (k ≠ p.1)) = true) : fldL k = [] := by
  unfold fldL
  have : (fldT.find? fun p => decide (p.1 = k)) = none := by
    rw [List.find?_eq_none]
    intro p hp hk
    have := List.all_eq_true.1 h p hp
    simp only [decide_eq_true_eq] at this hk
    exact this hk.symm
  rw [this]; rfl
theorem fl_put {S : Store} {σ' : St} (g : Nat) (l : List Int) (hs : σ'.st = S.set g (some (.row 1 (l.map Cell.enc) false))) (hg : σ'.get 2 = .tok g 1 0 l.length) : Frz1 σ'.st (σ'.get 2) (sl l) := by
  rw [hs, hg]; exact (lv_at (α := Int) rfl (Store.set_same _ _ _)).frz
def FlQ (k : Int) (Q : Exit → St → Prop) : Prop := (∀ σ', Frz1 σ'.st (σ'.get 2) (sl (fldL k)) → Q .ret σ') ∧ (fldL k = [] → ∀ σ', Q .normal σ')
set_option maxRecDepth 10000 in
theorem fl_30 {k : Int} (n1 : ¬ k = 1) (n5 : ¬ k = 5) (n2 : ¬ k = 2) (n7 : ¬ k = 7) (n8 : ¬ k = 8) (n3 : ¬ k = 3) (n4 : ¬ k = 4) (n6 : ¬ k = 6) (n9 : ¬ k = 9) (n15 : ¬ k = 15) (n18 : ¬ k = 18) (n19 : ¬ k = 19) (n20 : ¬ k = 20) (n10 : ¬ k = 10) (n11 : ¬ k = 11) (n12 : ¬ k = 12) (n14 : ¬ k = 14) (n13 : ¬ k = 13) (n21 : ¬ k = 21) {Q : Exit → St → Prop} (hQ : FlQ k Q) {σ : St} (hσ : Wk σ (mkS [(3, .t (.int .i64 k))] .empty)) : avp K_ops_fields G_ops_fields_30 Q σ := by
  by_cases n22 : k = 22
  · subst n22
    clear n1 n5 n2 n7 n8 n3 n4 n6 n9 n15 n18 n19 n20 n10 n11 n12 n14 n13 n21
    unfold G_ops_fields_30
    simp only [avp_seq]
    refine ⟨_, hσ, ?_⟩
    simp only [vR.down, vr20.down, vr40.down, vr50.down, vr60.down, vr70.down, vr80.down, vr90.down, vr100.down, vr110.down, vr120.down, vr130.down, vS.down, vE.down, List.drop_succ_cons, List.drop_zero, List.take_succ_cons, List.take_zero, Nat.zero_add, Nat.reduceEqDiff, Nat.reduceAdd, Nat.reduceSub, Nat.reduceMul, Nat.reduceLeDiff, Nat.reduceLT, ne_eq, not_false_eq_true, not_true_eq_false, Int.reduceToNat, reduceIte, reduceCtorEq, true_and, and_true, implies_true, forall_const, List.map_cons, List.map_nil, Option.map_some, Option.map_none, Option.bind_some, Option.bind_some, List.append_nil, List.nil_append, List.length_cons, List.length_nil, List.getD_cons_zero, List.headD_cons, List.getD_cons_succ, Bool.false_eq_true, Nat.zero_lt_succ, vr30.down, Option.toList_some, Option.toList_none, List.cons_append, getD_byt, Int.toNat_natCast, decide_eq_true_eq, decide_eq_false_iff_not, Bool.not_eq_true', Bool.not_eq_false', Bool.and_eq_true, Bool.or_eq_true, Bool.or_eq_false_iff, Bool.and_eq_false_imp, Decidable.not_not, List.length_map, beq_true, beq_false, imp_self, and_self, Option.isSome_some, List.toList_toArray, decide_true, decide_false, Bool.and_true, Bool.true_and, Bool.and_false, Bool.false_and, Bool.or_true, Bool.true_or, Bool.or_false, Bool.false_or, Bool.not_true, Bool.not_false, Int.reduceEq, Int.reduceLT, Int.reduceLE, Int.cast_ofNat_Int, eq_self, Nat.reduceLeDiff, Nat.le_refl, Bool.not_not, ↓avp_condG, condG_bool, ↓tf_arrow, ↓ft_arrow, false_implies]
    intro g hg
    exact hQ.1 _ (fl_put g [1, 2, 3] rfl rfl)
  unfold G_ops_fields_30
  simp only [avp_seq]
  refine ⟨_, hσ, ?_⟩
  simp only [vR.down, vr20.down, vr40.down, vr50.down, vr60.down, vr70.down, vr80.down, vr90.down, vr100.down, vr110.down, vr120.down, vr130.down, vS.down, vE.down, List.drop_succ_cons, List.drop_zero, List.take_succ_cons, List.take_zero, Nat.zero_add, Nat.reduceEqDiff, Nat.reduceAdd, Nat.reduceSub, Nat.reduceMul, Nat.reduceLeDiff, Nat.reduceLT, ne_eq, not_false_eq_true, not_true_eq_false, Int.reduceToNat, reduceIte, reduceCtorEq, true_and, and_true, implies_true, forall_const, List.map_cons, List.map_nil, Option.map_some, Option.map_none, Option.bind_some, Option.bind_some, List.append_nil, List.nil_append, List.length_cons, List.length_nil, List.getD_cons_zero, List.headD_cons, List.getD_cons_succ, Bool.false_eq_true, Nat.zero_lt_succ, vr30.down, Option.toList_some, Option.toList_none, List.cons_append, getD_byt, Int.toNat_natCast, decide_eq_true_eq, decide_eq_false_iff_not, Bool.not_eq_true', Bool.not_eq_false', Bool.and_eq_true, Bool.or_eq_true, Bool.or_eq_false_iff, Bool.and_eq_false_imp, Decidable.not_not, List.length_map, beq_true, beq_false, imp_self, and_self, Option.isSome_some, List.toList_toArray, decide_true, decide_false, Bool.and_true, Bool.true_and, Bool.and_false, Bool.false_and, Bool.or_true, Bool.true_or, Bool.or_false, Bool.false_or, Bool.not_true, Bool.not_false, Int.reduceEq, Int.reduceLT, Int.reduceLE, Int.cast_ofNat_Int, eq_self, Nat.reduceLeDiff, Nat.le_refl, Bool.not_not, ↓avp_condG, condG_bool, ↓tf_arrow, ↓ft_arrow, n22, false_implies]
  exact hQ.2 (fldL_no (by simp [fldT, n1, n5, n2, n7, n8, n3, n4, n6, n9, n15, n18, n19, n20, n10, n11, n12, n14, n13, n21, n22])) _
set_option maxRecDepth 10000 in
theorem fl_28 {k : Int} (n1 : ¬ k = 1) (n5 : ¬ k = 5) (n2 : ¬ k = 2) (n7 : ¬ k = 7) (n8 : ¬ k = 8) (n3 : ¬ k = 3) (n4 : ¬ k = 4) (n6 : ¬ k = 6) (n9 : ¬ k = 9) (n15 : ¬ k = 15) (n18 : ¬ k = 18) (n19 : ¬ k = 19) (n20 : ¬ k = 20) (n10 : ¬ k = 10) (n11 : ¬ k = 11) (n12 : ¬ k = 12) (n14 : ¬ k = 14) (n13 : ¬ k = 13) {Q : Exit → St → Prop} (hQ : FlQ k Q) {σ : St} (hσ : Wk σ (mkS [(3, .t (.int .i64 k))] .empty)) : avp K_ops_fields G_ops_fields_28 Q σ := by
  by_cases n21 : k = 21
  · subst n21
    clear n1 n5 n2 n7 n8 n3 n4 n6 n9 n15 n18 n19 n20 n10 n11 n12 n14 n13
    unfold G_ops_fields_28
    simp only [avp_seq]
    refine ⟨_, hσ, ?_⟩
    simp only [vR.down, vr20.down, vr40.down, vr50.down, vr60.down, vr70.down, vr80.down, vr90.down, vr100.down, vr110.down, vr120.down, vr130.down, vS.down, vE.down, List.drop_succ_cons, List.drop_zero, List.take_succ_cons, List.take_zero, Nat.zero_add, Nat.reduceEqDiff, Nat.reduceAdd, Nat.reduceSub, Nat.reduceMul, Nat.reduceLeDiff, Nat.reduceLT, ne_eq, not_false_eq_true, not_true_eq_false, Int.reduceToNat, reduceIte, reduceCtorEq, true_and, and_true, implies_true, forall_const, List.map_cons, List.map_nil, Option.map_some, Option.map_none, Option.bind_some, Option.bind_some, List.append_nil, List.nil_append, List.length_cons, List.length_nil, List.getD_cons_zero, List.headD_cons, List.getD_cons_succ, Bool.false_eq_true, Nat.zero_lt_succ, vr30.down, Option.toList_some, Option.toList_none, List.cons_append, getD_byt, Int.toNat_natCast, decide_eq_true_eq, decide_eq_false_iff_not, Bool.not_eq_true', Bool.not_eq_false', Bool.and_eq_true, Bool.or_eq_true, Bool.or_eq_false_iff, Bool.and_eq_false_imp, Decidable.not_not, List.length_map, beq_true, beq_false, imp_self, and_self, Option.isSome_some, List.toList_toArray, decide_true, decide_false, Bool.and_true, Bool.true_and, Bool.and_false, Bool.false_and, Bool.or_true, Bool.true_or, Bool.or_false, Bool.false_or, Bool.not_true, Bool.not_false, Int.reduceEq, Int.reduceLT, Int.reduceLE, Int.cast_ofNat_Int, eq_self, Nat.reduceLeDiff, Nat.le_refl, Bool.not_not, ↓avp_condG, condG_bool, ↓tf_arrow, ↓ft_arrow, false_implies]
    intro g hg
    exact hQ.1 _ (fl_put g [7] rfl rfl)
  unfold G_ops_fields_28
  simp only [avp_seq]
  refine ⟨_, hσ, ?_⟩
  simp only [vR.down, vr20.down, vr40.down, vr50.down, vr60.down, vr70.down, vr80.down, vr90.down, vr100.down, vr110.down, vr120.down, vr130.down, vS.down, vE.down, List.drop_succ_cons, List.drop_zero, List.take_succ_cons, List.take_zero, Nat.zero_add, Nat.reduceEqDiff, Nat.reduceAdd, Nat.reduceSub, Nat.reduceMul, Nat.reduceLeDiff, Nat.reduceLT, ne_eq, not_false_eq_true, not_true_eq_false, Int.reduceToNat, reduceIte, reduceCtorEq, true_and, and_true, implies_true, forall_const, List.map_cons, List.map_nil, Option.map_some, Option.map_none, Option.bind_some, Option.bind_some, List.append_nil, List.nil_append, List.length_cons, List.length_nil, List.getD_cons_zero, List.headD_cons, List.getD_cons_succ, Bool.false_eq_true, Nat.zero_lt_succ, vr30.down, Option.toList_some, Option.toList_none, List.cons_append, getD_byt, Int.toNat_natCast, decide_eq_true_eq, decide_eq_false_iff_not, Bool.not_eq_true', Bool.not_eq_false', Bool.and_eq_true, Bool.or_eq_true, Bool.or_eq_false_iff, Bool.and_eq_false_imp, Decidable.not_not, List.length_map, beq_true, beq_false, imp_self, and_self, Option.isSome_some, List.toList_toArray, decide_true, decide_false, Bool.and_true, Bool.true_and, Bool.and_false, Bool.false_and, Bool.or_true, Bool.true_or, Bool.or_false, Bool.false_or, Bool.not_true, Bool.not_false, Int.reduceEq, Int.reduceLT, Int.reduceLE, Int.cast_ofNat_Int, eq_self, Nat.reduceLeDiff, Nat.le_refl, Bool.not_not, ↓avp_condG, condG_bool, ↓tf_arrow, ↓ft_arrow, n21, false_implies]
  exact fl_30 n1 n5 n2 n7 n8 n3 n4 n6 n9 n15 n18 n19 n20 n10 n11 n12 n14 n13 n21 hQ (wk_to fewer_refl (by simp only [vR.down, vr20.down, vr40.down, vr50.down, vr60.down, vr70.down, vr80.down, vr90.down, vr100.down, vr110.down, vr120.down, vr130.down, vS.down, vE.down, List.drop_succ_cons, List.drop_zero, List.take_succ_cons, List.take_zero, Nat.zero_add, Nat.reduceEqDiff, Nat.reduceAdd, Nat.reduceSub, Nat.reduceMul, Nat.reduceLeDiff, Nat.reduceLT, ne_eq, not_false_eq_true, not_true_eq_false, Int.reduceToNat, reduceIte, reduceCtorEq, true_and, and_true, implies_true, forall_const, List.map_cons, List.map_nil, Option.map_some, Option.map_none, Option.bind_some, Option.bind_some, List.append_nil, List.nil_append, List.length_cons, List.length_nil, List.getD_cons_zero, List.headD_cons, List.getD_cons_succ, Bool.false_eq_true, Nat.zero_lt_succ, vr30.down, Option.toList_some, Option.toList_none, List.cons_append, getD_byt, Int.toNat_natCast, decide_eq_true_eq, decide_eq_false_iff_not, Bool.not_eq_true', Bool.not_eq_false', Bool.and_eq_true, Bool.or_eq_true, Bool.or_eq_false_iff, Bool.and_eq_false_imp, Decidable.not_not, List.length_map, beq_true, beq_false, imp_self, and_self, Option.isSome_some, List.toList_toArray, decide_true, decide_false, Bool.and_true, Bool.true_and, Bool.and_false, Bool.false_and, Bool.or_true, Bool.true_or, Bool.or_false, Bool.false_or, Bool.not_true, Bool.not_false, Int.reduceEq, Int.reduceLT, Int.reduceLE, Int.cast_ofNat_Int, eq_self, Nat.reduceLeDiff, Nat.le_refl, Bool.not_not, ↓avp_condG, condG_bool, ↓tf_arrow, ↓ft_arrow, wkAll_cons, wkAll_nil, w2_refl, w2_nil, w2_emp, empty_none]))
set_option maxRecDepth 10000 in
theorem fl_26 {k : Int} (n1 : ¬ k = 1) (n5 : ¬ k = 5) (n2 : ¬ k = 2) (n7 : ¬ k = 7) (n8 : ¬ k = 8) (n3 : ¬ k = 3) (n4 : ¬ k = 4) (n6 : ¬ k = 6) (n9 : ¬ k = 9) (n15 : ¬ k = 15) (n18 : ¬ k = 18) (n19 : ¬ k = 19) (n20 : ¬ k = 20) (n10 : ¬ k = 10) (n11 : ¬ k = 11) (n12 : ¬ k = 12) (n14 : ¬ k = 14) {Q : Exit → St → Prop} (hQ : FlQ k Q) {σ : St} (hσ : Wk σ (mkS [(3, .t (.int .i64 k))] .empty)) : avp K_ops_fields G_ops_fields_26 Q σ := by
  by_cases n13 : k = 13
  · subst n13
    clear n1 n5 n2 n7 n8 n3 n4 n6 n9 n15 n18 n19 n20 n10 n11 n12 n14
    unfold G_ops_fields_26
    simp only [avp_seq]
    refine ⟨_, hσ, ?_⟩
    simp only [vR.down, vr20.down, vr40.down, vr50.down, vr60.down, vr70.down, vr80.down, vr90.down, vr100.down, vr110.down, vr120.down, vr130.down, vS.down, vE.down, List.drop_succ_cons, List.drop_zero, List.take_succ_cons, List.take_zero, Nat.zero_add, Nat.reduceEqDiff, Nat.reduceAdd, Nat.reduceSub, Nat.reduceMul, Nat.reduceLeDiff, Nat.reduceLT, ne_eq, not_false_eq_true, not_true_eq_false, Int.reduceToNat, reduceIte, reduceCtorEq, true_and, and_true, implies_true, forall_const, List.map_cons, List.map_nil, Option.map_some, Option.map_none, Option.bind_some, Option.bind_some, List.append_nil, List.nil_append, List.length_cons, List.length_nil, List.getD_cons_zero, List.headD_cons, List.getD_cons_succ, Bool.false_eq_true, Nat.zero_lt_succ, vr30.down, Option.toList_some, Option.toList_none, List.cons_append, getD_byt, Int.toNat_natCast, decide_eq_true_eq, decide_eq_false_iff_not, Bool.not_eq_true', Bool.not_eq_false', Bool.and_eq_true, Bool.or_eq_true, Bool.or_eq_false_iff, Bool.and_eq_false_imp, Decidable.not_not, List.length_map, beq_true, beq_false, imp_self, and_self, Option.isSome_some, List.toList_toArray, decide_true, decide_false, Bool.and_true, Bool.true_and, Bool.and_false, Bool.false_and, Bool.or_true, Bool.true_or, Bool.or_false, Bool.false_or, Bool.not_true, Bool.not_false, Int.reduceEq, Int.reduceLT, Int.reduceLE, Int.cast_ofNat_Int, eq_self, Nat.reduceLeDiff, Nat.le_refl, Bool.not_not, ↓avp_condG, condG_bool, ↓tf_arrow, ↓ft_arrow, false_implies]
    intro g hg
    exact hQ.1 _ (fl_put g [0, 1] rfl rfl)
  unfold G_ops_fields_26
  simp only [avp_seq]
  refine ⟨_, hσ, ?_⟩
  simp only [vR.down, vr20.down, vr40.down, vr50.down, vr60.down, vr70.down, vr80.down, vr90.down, vr100.down, vr110.down, vr120.down, vr130.down, vS.down, vE.down, List.drop_succ_cons, List.drop_zero, List.take_succ_cons, List.take_zero, Nat.zero_add, Nat.reduceEqDiff, Nat.reduceAdd, Nat.reduceSub, Nat.reduceMul, Nat.reduceLeDiff, Nat.reduceLT, ne_eq, not_false_eq_true, not_true_eq_false, Int.reduceToNat, reduceIte, reduceCtorEq, true_and, and_true, implies_true, forall_const, List.map_cons, List.map_nil, Option.map_some, Option.map_none, Option.bind_some, Option.bind_some, List.append_nil, List.nil_append, List.length_cons, List.length_nil, List.getD_cons_zero, List.headD_cons, List.getD_cons_succ, Bool.false_eq_true, Nat.zero_lt_succ, vr30.down, Option.toList_some, Option.toList_none, List.cons_append, getD_byt, Int.toNat_natCast, decide_eq_true_eq, decide_eq_false_iff_not, Bool.not_eq_true', Bool.not_eq_false', Bool.and_eq_true, Bool.or_eq_true, Bool.or_eq_false_iff, Bool.and_eq_false_imp, Decidable.not_not, List.length_map, beq_true, beq_false, imp_self, and_self, Option.isSome_some, List.toList_toArray, decide_true, decide_false, Bool.and_true, Bool.true_and, Bool.and_false, Bool.false_and, Bool.or_true, Bool.true_or, Bool.or_false, Bool.false_or, Bool.not_true, Bool.not_false, Int.reduceEq, Int.reduceLT, Int.reduceLE, Int.cast_ofNat_Int, eq_self, Nat.reduceLeDiff, Nat.le_refl, Bool.not_not, ↓avp_condG, condG_bool, ↓tf_arrow, ↓ft_arrow, n13, false_implies]
  exact fl_28 n1 n5 n2 n7 n8 n3 n4 n6 n9 n15 n18 n19 n20 n10 n11 n12 n14 n13 hQ (wk_to fewer_refl (by simp only [vR.down, vr20.down, vr40.down, vr50.down, vr60.down, vr70.down, vr80.down, vr90.down, vr100.down, vr110.down, vr120.down, vr130.down, vS.down, vE.down, List.drop_succ_cons, List.drop_zero, List.take_succ_cons, List.take_zero, Nat.zero_add, Nat.reduceEqDiff, Nat.reduceAdd, Nat.reduceSub, Nat.reduceMul, Nat.reduceLeDiff, Nat.reduceLT, ne_eq, not_false_eq_true, not_true_eq_false, Int.reduceToNat, reduceIte, reduceCtorEq, true_and, and_true, implies_true, forall_const, List.map_cons, List.map_nil, Option.map_some, Option.map_none, Option.bind_some, Option.bind_some, List.append_nil, List.nil_append, List.length_cons, List.length_nil, List.getD_cons_zero, List.headD_cons, List.getD_cons_succ, Bool.false_eq_true, Nat.zero_lt_succ, vr30.down, Option.toList_some, Option.toList_none, List.cons_append, getD_byt, Int.toNat_natCast, decide_eq_true_eq, decide_eq_false_iff_not, Bool.not_eq_true', Bool.not_eq_false', Bool.and_eq_true, Bool.or_eq_true, Bool.or_eq_false_iff, Bool.and_eq_false_imp, Decidable.not_not, List.length_map, beq_true, beq_false, imp_self, and_self, Option.isSome_some, List.toList_toArray, decide_true, decide_false, Bool.and_true, Bool.true_and, Bool.and_false, Bool.false_and, Bool.or_true, Bool.true_or, Bool.or_false, Bool.false_or, Bool.not_true, Bool.not_false, Int.reduceEq, Int.reduceLT, Int.reduceLE, Int.cast_ofNat_Int, eq_self, Nat.reduceLeDiff, Nat.le_refl, Bool.not_not, ↓avp_condG, condG_bool, ↓tf_arrow, ↓ft_arrow, wkAll_cons, wkAll_nil, w2_refl, w2_nil, w2_emp, empty_none]))
set_option maxRecDepth 10000 in
theorem fl_21 {k : Int} (n1 : ¬ k = 1) (n5 : ¬ k = 5) (n2 : ¬ k = 2) (n7 : ¬ k = 7) (n8 : ¬ k = 8) (n3 : ¬ k = 3) (n4 : ¬ k = 4) (n6 : ¬ k = 6) (n9 : ¬ k = 9) (n15 : ¬ k = 15) (n18 : ¬ k = 18) (n19 : ¬ k = 19) (n20 : ¬ k = 20) {Q : Exit → St → Prop} (hQ : FlQ k Q) {σ : St} (hσ : Wk σ (mkS [(3, .t (.int .i64 k))] .empty)) : avp K_ops_fields G_ops_fields_21 Q σ := by
  by_cases n10 : k = 10
  · subst n10
    clear n1 n5 n2 n7 n8 n3 n4 n6 n9 n15 n18 n19 n20
    unfold G_ops_fields_21
    simp only [avp_seq]
    refine ⟨_, hσ, ?_⟩
    simp only [vR.down, vr20.down, vr40.down, vr50.down, vr60.down, vr70.down, vr80.down, vr90.down, vr100.down, vr110.down, vr120.down, vr130.down, vS.down, vE.down, List.drop_succ_cons, List.drop_zero, List.take_succ_cons, List.take_zero, Nat.zero_add, Nat.reduceEqDiff, Nat.reduceAdd, Nat.reduceSub, Nat.reduceMul, Nat.reduceLeDiff, Nat.reduceLT, ne_eq, not_false_eq_true, not_true_eq_false, Int.reduceToNat, reduceIte, reduceCtorEq, true_and, and_true, implies_true, forall_const, List.map_cons, List.map_nil, Option.map_some, Option.map_none, Option.bind_some, Option.bind_some, List.append_nil, List.nil_append, List.length_cons, List.length_nil, List.getD_cons_zero, List.headD_cons, List.getD_cons_succ, Bool.false_eq_true, Nat.zero_lt_succ, vr30.down, Option.toList_some, Option.toList_none, List.cons_append, getD_byt, Int.toNat_natCast, decide_eq_true_eq, decide_eq_false_iff_not, Bool.not_eq_true', Bool.not_eq_false', Bool.and_eq_true, Bool.or_eq_true, Bool.or_eq_false_iff, Bool.and_eq_false_imp, Decidable.not_not, List.length_map, beq_true, beq_false, imp_self, and_self, Option.isSome_some, List.toList_toArray, decide_true, decide_false, Bool.and_true, Bool.true_and, Bool.and_false, Bool.false_and, Bool.or_true, Bool.true_or, Bool.or_false, Bool.false_or, Bool.not_true, Bool.not_false, Int.reduceEq, Int.reduceLT, Int.reduceLE, Int.cast_ofNat_Int, eq_self, Nat.reduceLeDiff, Nat.le_refl, Bool.not_not, ↓avp_condG, condG_bool, ↓tf_arrow, ↓ft_arrow, false_implies]
    intro g hg
    exact hQ.1 _ (fl_put g [0] rfl rfl)
  by_cases n11 : k = 11
  · subst n11
    clear n1 n5 n2 n7 n8 n3 n4 n6 n9 n15 n18 n19 n20
    unfold G_ops_fields_21
    simp only [avp_seq]
    refine ⟨_, hσ, ?_⟩
    simp only [vR.down, vr20.down, vr40.down, vr50.down, vr60.down, vr70.down, vr80.down, vr90.down, vr100.down, vr110.down, vr120.down, vr130.down, vS.down, vE.down, List.drop_succ_cons, List.drop_zero, List.take_succ_cons, List.take_zero, Nat.zero_add, Nat.reduceEqDiff, Nat.reduceAdd, Nat.reduceSub, Nat.reduceMul, Nat.reduceLeDiff, Nat.reduceLT, ne_eq, not_false_eq_true, not_true_eq_false, Int.reduceToNat, reduceIte, reduceCtorEq, true_and, and_true, implies_true, forall_const, List.map_cons, List.map_nil, Option.map_some, Option.map_none, Option.bind_some, Option.bind_some, List.append_nil, List.nil_append, List.length_cons, List.length_nil, List.getD_cons_zero, List.headD_cons, List.getD_cons_succ, Bool.false_eq_true, Nat.zero_lt_succ, vr30.down, Option.toList_some, Option.toList_none, List.cons_append, getD_byt, Int.toNat_natCast, decide_eq_true_eq, decide_eq_false_iff_not, Bool.not_eq_true', Bool.not_eq_false', Bool.and_eq_true, Bool.or_eq_true, Bool.or_eq_false_iff, Bool.and_eq_false_imp, Decidable.not_not, List.length_map, beq_true, beq_false, imp_self, and_self, Option.isSome_some, List.toList_toArray, decide_true, decide_false, Bool.and_true, Bool.true_and, Bool.and_false, Bool.false_and, Bool.or_true, Bool.true_or, Bool.or_false, Bool.false_or, Bool.not_true, Bool.not_false, Int.reduceEq, Int.reduceLT, Int.reduceLE, Int.cast_ofNat_Int, eq_self, Nat.reduceLeDiff, Nat.le_refl, Bool.not_not, ↓avp_condG, condG_bool, ↓tf_arrow, ↓ft_arrow, false_implies]
    intro g hg
    exact hQ.1 _ (fl_put g [0] rfl rfl)
  by_cases n12 : k = 12
  · subst n12
    clear n1 n5 n2 n7 n8 n3 n4 n6 n9 n15 n18 n19 n20
    unfold G_ops_fields_21
    simp only [avp_seq]
    refine ⟨_, hσ, ?_⟩
    simp only [vR.down, vr20.down, vr40.down, vr50.down, vr60.down, vr70.down, vr80.down, vr90.down, vr100.down, vr110.down, vr120.down, vr130.down, vS.down, vE.down, List.drop_succ_cons, List.drop_zero, List.take_succ_cons, List.take_zero, Nat.zero_add, Nat.reduceEqDiff, Nat.reduceAdd, Nat.reduceSub, Nat.reduceMul, Nat.reduceLeDiff, Nat.reduceLT, ne_eq, not_false_eq_true, not_true_eq_false, Int.reduceToNat, reduceIte, reduceCtorEq, true_and, and_true, implies_true, forall_const, List.map_cons, List.map_nil, Option.map_some, Option.map_none, Option.bind_some, Option.bind_some, List.append_nil, List.nil_append, List.length_cons, List.length_nil, List.getD_cons_zero, List.headD_cons, List.getD_cons_succ, Bool.false_eq_true, Nat.zero_lt_succ, vr30.down, Option.toList_some, Option.toList_none, List.cons_append, getD_byt, Int.toNat_natCast, decide_eq_true_eq, decide_eq_false_iff_not, Bool.not_eq_true', Bool.not_eq_false', Bool.and_eq_true, Bool.or_eq_true, Bool.or_eq_false_iff, Bool.and_eq_false_imp, Decidable.not_not, List.length_map, beq_true, beq_false, imp_self, and_self, Option.isSome_some, List.toList_toArray, decide_true, decide_false, Bool.and_true, Bool.true_and, Bool.and_false, Bool.false_and, Bool.or_true, Bool.true_or, Bool.or_false, Bool.false_or, Bool.not_true, Bool.not_false, Int.reduceEq, Int.reduceLT, Int.reduceLE, Int.cast_ofNat_Int, eq_self, Nat.reduceLeDiff, Nat.le_refl, Bool.not_not, ↓avp_condG, condG_bool, ↓tf_arrow, ↓ft_arrow, false_implies]
    intro g hg
    exact hQ.1 _ (fl_put g [0] rfl rfl)
  by_cases n14 : k = 14
  · subst n14
    clear n1 n5 n2 n7 n8 n3 n4 n6 n9 n15 n18 n19 n20
    unfold G_ops_fields_21
    simp only [avp_seq]
    refine ⟨_, hσ, ?_⟩
    simp only [vR.down, vr20.down, vr40.down, vr50.down, vr60.down, vr70.down, vr80.down, vr90.down, vr100.down, vr110.down, vr120.down, vr130.down, vS.down, vE.down, List.drop_succ_cons, List.drop_zero, List.take_succ_cons, List.take_zero, Nat.zero_add, Nat.reduceEqDiff, Nat.reduceAdd, Nat.reduceSub, Nat.reduceMul, Nat.reduceLeDiff, Nat.reduceLT, ne_eq, not_false_eq_true, not_true_eq_false, Int.reduceToNat, reduceIte, reduceCtorEq, true_and, and_true, implies_true, forall_const, List.map_cons, List.map_nil, Option.map_some, Option.map_none, Option.bind_some, Option.bind_some, List.append_nil, List.nil_append, List.length_cons, List.length_nil, List.getD_cons_zero, List.headD_cons, List.getD_cons_succ, Bool.false_eq_true, Nat.zero_lt_succ, vr30.down, Option.toList_some, Option.toList_none, List.cons_append, getD_byt, Int.toNat_natCast, decide_eq_true_eq, decide_eq_false_iff_not, Bool.not_eq_true', Bool.not_eq_false', Bool.and_eq_true, Bool.or_eq_true, Bool.or_eq_false_iff, Bool.and_eq_false_imp, Decidable.not_not, List.length_map, beq_true, beq_false, imp_self, and_self, Option.isSome_some, List.toList_toArray, decide_true, decide_false, Bool.and_true, Bool.true_and, Bool.and_false, Bool.false_and, Bool.or_true, Bool.true_or, Bool.or_false, Bool.false_or, Bool.not_true, Bool.not_false, Int.reduceEq, Int.reduceLT, Int.reduceLE, Int.cast_ofNat_Int, eq_self, Nat.reduceLeDiff, Nat.le_refl, Bool.not_not, ↓avp_condG, condG_bool, ↓tf_arrow, ↓ft_arrow, false_implies]
    intro g hg
    exact hQ.1 _ (fl_put g [0] rfl rfl)
  unfold G_ops_fields_21
  simp only [avp_seq]
  refine ⟨_, hσ, ?_⟩
  simp only [vR.down, vr20.down, vr40.down, vr50.down, vr60.down, vr70.down, vr80.down, vr90.down, vr100.down, vr110.down, vr120.down, vr130.down, vS.down, vE.down, List.drop_succ_cons, List.drop_zero, List.take_succ_cons, List.take_zero, Nat.zero_add, Nat.reduceEqDiff, Nat.reduceAdd, Nat.reduceSub, Nat.reduceMul, Nat.reduceLeDiff, Nat.reduceLT, ne_eq, not_false_eq_true, not_true_eq_false, Int.reduceToNat, reduceIte, reduceCtorEq, true_and, and_true, implies_true, forall_const, List.map_cons, List.map_nil, Option.map_some, Option.map_none, Option.bind_some, Option.bind_some, List.append_nil, List.nil_append, List.length_cons, List.length_nil, List.getD_cons_zero, List.headD_cons, List.getD_cons_succ, Bool.false_eq_true, Nat.zero_lt_succ, vr30.down, Option.toList_some, Option.toList_none, List.cons_append, getD_byt, Int.toNat_natCast, decide_eq_true_eq, decide_eq_false_iff_not, Bool.not_eq_true', Bool.not_eq_false', Bool.and_eq_true, Bool.or_eq_true, Bool.or_eq_false_iff, Bool.and_eq_false_imp, Decidable.not_not, List.length_map, beq_true, beq_false, imp_self, and_self, Option.isSome_some, List.toList_toArray, decide_true, decide_false, Bool.and_true, Bool.true_and, Bool.and_false, Bool.false_and, Bool.or_true, Bool.true_or, Bool.or_false, Bool.false_or, Bool.not_true, Bool.not_false, Int.reduceEq, Int.reduceLT, Int.reduceLE, Int.cast_ofNat_Int, eq_self, Nat.reduceLeDiff, Nat.le_refl, Bool.not_not, ↓avp_condG, condG_bool, ↓tf_arrow, ↓ft_arrow, n10, n11, n12, n14, false_implies]
  exact fl_26 n1 n5 n2 n7 n8 n3 n4 n6 n9 n15 n18 n19 n20 n10 n11 n12 n14 hQ (wk_to fewer_refl (by simp only [vR.down, vr20.down, vr40.down, vr50.down, vr60.down, vr70.down, vr80.down, vr90.down, vr100.down, vr110.down, vr120.down, vr130.down, vS.down, vE.down, List.drop_succ_cons, List.drop_zero, List.take_succ_cons, List.take_zero, Nat.zero_add, Nat.reduceEqDiff, Nat.reduceAdd, Nat.reduceSub, Nat.reduceMul, Nat.reduceLeDiff, Nat.reduceLT, ne_eq, not_false_eq_true, not_true_eq_false, Int.reduceToNat, reduceIte, reduceCtorEq, true_and, and_true, implies_true, forall_const, List.map_cons, List.map_nil, Option.map_some, Option.map_none, Option.bind_some, Option.bind_some, List.append_nil, List.nil_append, List.length_cons, List.length_nil, List.getD_cons_zero, List.headD_cons, List.getD_cons_succ, Bool.false_eq_true, Nat.zero_lt_succ, vr30.down, Option.toList_some, Option.toList_none, List.cons_append, getD_byt, Int.toNat_natCast, decide_eq_true_eq, decide_eq_false_iff_not, Bool.not_eq_true', Bool.not_eq_false', Bool.and_eq_true, Bool.or_eq_true, Bool.or_eq_false_iff, Bool.and_eq_false_imp, Decidable.not_not, List.length_map, beq_true, beq_false, imp_self, and_self, Option.isSome_some, List.toList_toArray, decide_true, decide_false, Bool.and_true, Bool.true_and, Bool.and_false, Bool.false_and, Bool.or_true, Bool.true_or, Bool.or_false, Bool.false_or, Bool.not_true, Bool.not_false, Int.reduceEq, Int.reduceLT, Int.reduceLE, Int.cast_ofNat_Int, eq_self, Nat.reduceLeDiff, Nat.le_refl, Bool.not_not, ↓avp_condG, condG_bool, ↓tf_arrow, ↓ft_arrow, wkAll_cons, wkAll_nil, w2_refl, w2_nil, w2_emp, empty_none]))
set_option maxRecDepth 10000 in
theorem fl_15 {k : Int} (n1 : ¬ k = 1) (n5 : ¬ k = 5) (n2 : ¬ k = 2) (n7 : ¬ k = 7) (n8 : ¬ k = 8) (n3 : ¬ k = 3) (n4 : ¬ k = 4) (n6 : ¬ k = 6) {Q : Exit → St → Prop} (hQ : FlQ k Q) {σ : St} (hσ : Wk σ (mkS [(3, .t (.int .i64 k))] .empty)) : avp K_ops_fields G_ops_fields_15 Q σ := by
  by_cases n9 : k = 9
  · subst n9
    clear n1 n5 n2 n7 n8 n3 n4 n6
    unfold G_ops_fields_15
    simp only [avp_seq]
    refine ⟨_, hσ, ?_⟩
    simp only [vR.down, vr20.down, vr40.down, vr50.down, vr60.down, vr70.down, vr80.down, vr90.down, vr100.down, vr110.down, vr120.down, vr130.down, vS.down, vE.down, List.drop_succ_cons, List.drop_zero, List.take_succ_cons, List.take_zero, Nat.zero_add, Nat.reduceEqDiff, Nat.reduceAdd, Nat.reduceSub, Nat.reduceMul, Nat.reduceLeDiff, Nat.reduceLT, ne_eq, not_false_eq_true, not_true_eq_false, Int.reduceToNat, reduceIte, reduceCtorEq, true_and, and_true, implies_true, forall_const, List.map_cons, List.map_nil, Option.map_some, Option.map_none, Option.bind_some, Option.bind_some, List.append_nil, List.nil_append, List.length_cons, List.length_nil, List.getD_cons_zero, List.headD_cons, List.getD_cons_succ, Bool.false_eq_true, Nat.zero_lt_succ, vr30.down, Option.toList_some, Option.toList_none, List.cons_append, getD_byt, Int.toNat_natCast, decide_eq_true_eq, decide_eq_false_iff_not, Bool.not_eq_true', Bool.not_eq_false', Bool.and_eq_true, Bool.or_eq_true, Bool.or_eq_false_iff, Bool.and_eq_false_imp, Decidable.not_not, List.length_map, beq_true, beq_false, imp_self, and_self, Option.isSome_some, List.toList_toArray, decide_true, decide_false, Bool.and_true, Bool.true_and, Bool.and_false, Bool.false_and, Bool.or_true, Bool.true_or, Bool.or_false, Bool.false_or, Bool.not_true, Bool.not_false, Int.reduceEq, Int.reduceLT, Int.reduceLE, Int.cast_ofNat_Int, eq_self, Nat.reduceLeDiff, Nat.le_refl, Bool.not_not, ↓avp_condG, condG_bool, ↓tf_arrow, ↓ft_arrow, false_implies]
    intro g hg
    exact hQ.1 _ (fl_put g [1] rfl rfl)
  by_cases n15 : k = 15
  · subst n15
    clear n1 n5 n2 n7 n8 n3 n4 n6
    unfold G_ops_fields_15
    simp only [avp_seq]
    refine ⟨_, hσ, ?_⟩
    simp only [vR.down, vr20.down, vr40.down, vr50.down, vr60.down, vr70.down, vr80.down, vr90.down, vr100.down, vr110.down, vr120.down, vr130.down, vS.down, vE.down, List.drop_succ_cons, List.drop_zero, List.take_succ_cons, List.take_zero, Nat.zero_add, Nat.reduceEqDiff, Nat.reduceAdd, Nat.reduceSub, Nat.reduceMul, Nat.reduceLeDiff, Nat.reduceLT, ne_eq, not_false_eq_true, not_true_eq_false, Int.reduceToNat, reduceIte, reduceCtorEq, true_and, and_true, implies_true, forall_const, List.map_cons, List.map_nil, Option.map_some, Option.map_none, Option.bind_some, Option.bind_some, List.append_nil, List.nil_append, List.length_cons, List.length_nil, List.getD_cons_zero, List.headD_cons, List.getD_cons_succ, Bool.false_eq_true, Nat.zero_lt_succ, vr30.down, Option.toList_some, Option.toList_none, List.cons_append, getD_byt, Int.toNat_natCast, decide_eq_true_eq, decide_eq_false_iff_not, Bool.not_eq_true', Bool.not_eq_false', Bool.and_eq_true, Bool.or_eq_true, Bool.or_eq_false_iff, Bool.and_eq_false_imp, Decidable.not_not, List.length_map, beq_true, beq_false, imp_self, and_self, Option.isSome_some, List.toList_toArray, decide_true, decide_false, Bool.and_true, Bool.true_and, Bool.and_false, Bool.false_and, Bool.or_true, Bool.true_or, Bool.or_false, Bool.false_or, Bool.not_true, Bool.not_false, Int.reduceEq, Int.reduceLT, Int.reduceLE, Int.cast_ofNat_Int, eq_self, Nat.reduceLeDiff, Nat.le_refl, Bool.not_not, ↓avp_condG, condG_bool, ↓tf_arrow, ↓ft_arrow, false_implies]
    intro g hg
    exact hQ.1 _ (fl_put g [1] rfl rfl)
  by_cases n18 : k = 18
  · subst n18
    clear n1 n5 n2 n7 n8 n3 n4 n6
    unfold G_ops_fields_15
    simp only [avp_seq]
    refine ⟨_, hσ, ?_⟩
    simp only [vR.down, vr20.down, vr40.down, vr50.down, vr60.down, vr70.down, vr80.down, vr90.down, vr100.down, vr110.down, vr120.down, vr130.down, vS.down, vE.down, List.drop_succ_cons, List.drop_zero, List.take_succ_cons, List.take_zero, Nat.zero_add, Nat.reduceEqDiff, Nat.reduceAdd, Nat.reduceSub, Nat.reduceMul, Nat.reduceLeDiff, Nat.reduceLT, ne_eq, not_false_eq_true, not_true_eq_false, Int.reduceToNat, reduceIte, reduceCtorEq, true_and, and_true, implies_true, forall_const, List.map_cons, List.map_nil, Option.map_some, Option.map_none, Option.bind_some, Option.bind_some, List.append_nil, List.nil_append, List.length_cons, List.length_nil, List.getD_cons_zero, List.headD_cons, List.getD_cons_succ, Bool.false_eq_true, Nat.zero_lt_succ, vr30.down, Option.toList_some, Option.toList_none, List.cons_append, getD_byt, Int.toNat_natCast, decide_eq_true_eq, decide_eq_false_iff_not, Bool.not_eq_true', Bool.not_eq_false', Bool.and_eq_true, Bool.or_eq_true, Bool.or_eq_false_iff, Bool.and_eq_false_imp, Decidable.not_not, List.length_map, beq_true, beq_false, imp_self, and_self, Option.isSome_some, List.toList_toArray, decide_true, decide_false, Bool.and_true, Bool.true_and, Bool.and_false, Bool.false_and, Bool.or_true, Bool.true_or, Bool.or_false, Bool.false_or, Bool.not_true, Bool.not_false, Int.reduceEq, Int.reduceLT, Int.reduceLE, Int.cast_ofNat_Int, eq_self, Nat.reduceLeDiff, Nat.le_refl, Bool.not_not, ↓avp_condG, condG_bool, ↓tf_arrow, ↓ft_arrow, false_implies]
    intro g hg
    exact hQ.1 _ (fl_put g [1] rfl rfl)
  by_cases n19 : k = 19
  · subst n19
    clear n1 n5 n2 n7 n8 n3 n4 n6
    unfold G_ops_fields_15
    simp only [avp_seq]
    refine ⟨_, hσ, ?_⟩
    simp only [vR.down, vr20.down, vr40.down, vr50.down, vr60.down, vr70.down, vr80.down, vr90.down, vr100.down, vr110.down, vr120.down, vr130.down, vS.down, vE.down, List.drop_succ_cons, List.drop_zero, List.take_succ_cons, List.take_zero, Nat.zero_add, Nat.reduceEqDiff, Nat.reduceAdd, Nat.reduceSub, Nat.reduceMul, Nat.reduceLeDiff, Nat.reduceLT, ne_eq, not_false_eq_true, not_true_eq_false, Int.reduceToNat, reduceIte, reduceCtorEq, true_and, and_true, implies_true, forall_const, List.map_cons, List.map_nil, Option.map_some, Option.map_none, Option.bind_some, Option.bind_some, List.append_nil, List.nil_append, List.length_cons, List.length_nil, List.getD_cons_zero, List.headD_cons, List.getD_cons_succ, Bool.false_eq_true, Nat.zero_lt_succ, vr30.down, Option.toList_some, Option.toList_none, List.cons_append, getD_byt, Int.toNat_natCast, decide_eq_true_eq, decide_eq_false_iff_not, Bool.not_eq_true', Bool.not_eq_false', Bool.and_eq_true, Bool.or_eq_true, Bool.or_eq_false_iff, Bool.and_eq_false_imp, Decidable.not_not, List.length_map, beq_true, beq_false, imp_self, and_self, Option.isSome_some, List.toList_toArray, decide_true, decide_false, Bool.and_true, Bool.true_and, Bool.and_false, Bool.false_and, Bool.or_true, Bool.true_or, Bool.or_false, Bool.false_or, Bool.not_true, Bool.not_false, Int.reduceEq, Int.reduceLT, Int.reduceLE, Int.cast_ofNat_Int, eq_self, Nat.reduceLeDiff, Nat.le_refl, Bool.not_not, ↓avp_condG, condG_bool, ↓tf_arrow, ↓ft_arrow, false_implies]
    intro g hg
    exact hQ.1 _ (fl_put g [1] rfl rfl)
  by_cases n20 : k = 20
  · subst n20
    clear n1 n5 n2 n7 n8 n3 n4 n6
    unfold G_ops_fields_15
    simp only [avp_seq]
    refine ⟨_, hσ, ?_⟩
    simp only [vR.down, vr20.down, vr40.down, vr50.down, vr60.down, vr70.down, vr80.down, vr90.down, vr100.down, vr110.down, vr120.down, vr130.down, vS.down, vE.down, List.drop_succ_cons, List.drop_zero, List.take_succ_cons, List.take_zero, Nat.zero_add, Nat.reduceEqDiff, Nat.reduceAdd, Nat.reduceSub, Nat.reduceMul, Nat.reduceLeDiff, Nat.reduceLT, ne_eq, not_false_eq_true, not_true_eq_false, Int.reduceToNat, reduceIte, reduceCtorEq, true_and, and_true, implies_true, forall_const, List.map_cons, List.map_nil, Option.map_some, Option.map_none, Option.bind_some, Option.bind_some, List.append_nil, List.nil_append, List.length_cons, List.length_nil, List.getD_cons_zero, List.headD_cons, List.getD_cons_succ, Bool.false_eq_true, Nat.zero_lt_succ, vr30.down, Option.toList_some, Option.toList_none, List.cons_append, getD_byt, Int.toNat_natCast, decide_eq_true_eq, decide_eq_false_iff_not, Bool.not_eq_true', Bool.not_eq_false', Bool.and_eq_true, Bool.or_eq_true, Bool.or_eq_false_iff, Bool.and_eq_false_imp, Decidable.not_not, List.length_map, beq_true, beq_false, imp_self, and_self, Option.isSome_some, List.toList_toArray, decide_true, decide_false, Bool.and_true, Bool.true_and, Bool.and_false, Bool.false_and, Bool.or_true, Bool.true_or, Bool.or_false, Bool.false_or, Bool.not_true, Bool.not_false, Int.reduceEq, Int.reduceLT, Int.reduceLE, Int.cast_ofNat_Int, eq_self, Nat.reduceLeDiff, Nat.le_refl, Bool.not_not, ↓avp_condG, condG_bool, ↓tf_arrow, ↓ft_arrow, false_implies]
    intro g hg
    exact hQ.1 _ (fl_put g [1] rfl rfl)
  unfold G_ops_fields_15
  simp only [avp_seq]
  refine ⟨_, hσ, ?_⟩
  simp only [vR.down, vr20.down, vr40.down, vr50.down, vr60.down, vr70.down, vr80.down, vr90.down, vr100.down, vr110.down, vr120.down, vr130.down, vS.down, vE.down, List.drop_succ_cons, List.drop_zero, List.take_succ_cons, List.take_zero, Nat.zero_add, Nat.reduceEqDiff, Nat.reduceAdd, Nat.reduceSub, Nat.reduceMul, Nat.reduceLeDiff, Nat.reduceLT, ne_eq, not_false_eq_true, not_true_eq_false, Int.reduceToNat, reduceIte, reduceCtorEq, true_and, and_true, implies_true, forall_const, List.map_cons, List.map_nil, Option.map_some, Option.map_none, Option.bind_some, Option.bind_some, List.append_nil, List.nil_append, List.length_cons, List.length_nil, List.getD_cons_zero, List.headD_cons, List.getD_cons_succ, Bool.false_eq_true, Nat.zero_lt_succ, vr30.down, Option.toList_some, Option.toList_none, List.cons_append, getD_byt, Int.toNat_natCast, decide_eq_true_eq, decide_eq_false_iff_not, Bool.not_eq_true', Bool.not_eq_false', Bool.and_eq_true, Bool.or_eq_true, Bool.or_eq_false_iff, Bool.and_eq_false_imp, Decidable.not_not, List.length_map, beq_true, beq_false, imp_self, and_self, Option.isSome_some, List.toList_toArray, decide_true, decide_false, Bool.and_true, Bool.true_and, Bool.and_false, Bool.false_and, Bool.or_true, Bool.true_or, Bool.or_false, Bool.false_or, Bool.not_true, Bool.not_false, Int.reduceEq, Int.reduceLT, Int.reduceLE, Int.cast_ofNat_Int, eq_self, Nat.reduceLeDiff, Nat.le_refl, Bool.not_not, ↓avp_condG, condG_bool, ↓tf_arrow, ↓ft_arrow, n9, n15, n18, n19, n20, false_implies]
  exact fl_21 n1 n5 n2 n7 n8 n3 n4 n6 n9 n15 n18 n19 n20 hQ (wk_to fewer_refl (by simp only [vR.down, vr20.down, vr40.down, vr50.down, vr60.down, vr70.down, vr80.down, vr90.down, vr100.down, vr110.down, vr120.down, vr130.down, vS.down, vE.down, List.drop_succ_cons, List.drop_zero, List.take_succ_cons, List.take_zero, Nat.zero_add, Nat.reduceEqDiff, Nat.reduceAdd, Nat.reduceSub, Nat.reduceMul, Nat.reduceLeDiff, Nat.reduceLT, ne_eq, not_false_eq_true, not_true_eq_false, Int.reduceToNat, reduceIte, reduceCtorEq, true_and, and_true, implies_true, forall_const, List.map_cons, List.map_nil, Option.map_some, Option.map_none, Option.bind_some, Option.bind_some, List.append_nil, List.nil_append, List.length_cons, List.length_nil, List.getD_cons_zero, List.headD_cons, List.getD_cons_succ, Bool.false_eq_true, Nat.zero_lt_succ, vr30.down, Option.toList_some, Option.toList_none, List.cons_append, getD_byt, Int.toNat_natCast, decide_eq_true_eq, decide_eq_false_iff_not, Bool.not_eq_true', Bool.not_eq_false', Bool.and_eq_true, Bool.or_eq_true, Bool.or_eq_false_iff, Bool.and_eq_false_imp, Decidable.not_not, List.length_map, beq_true, beq_false, imp_self, and_self, Option.isSome_some, List.toList_toArray, decide_true, decide_false, Bool.and_true, Bool.true_and, Bool.and_false, Bool.false_and, Bool.or_true, Bool.true_or, Bool.or_false, Bool.false_or, Bool.not_true, Bool.not_false, Int.reduceEq, Int.reduceLT, Int.reduceLE, Int.cast_ofNat_Int, eq_self, Nat.reduceLeDiff, Nat.le_refl, Bool.not_not, ↓avp_condG, condG_bool, ↓tf_arrow, ↓ft_arrow, wkAll_cons, wkAll_nil, w2_refl, w2_nil, w2_emp, empty_none]))
set_option maxRecDepth 10000 in
theorem fl_13 {k : Int} (n1 : ¬ k = 1) (n5 : ¬ k = 5) (n2 : ¬ k = 2) (n7 : ¬ k = 7) (n8 : ¬ k = 8) (n3 : ¬ k = 3) (n4 : ¬ k = 4) {Q : Exit → St → Prop} (hQ : FlQ k Q) {σ : St} (hσ : Wk σ (mkS [(3, .t (.int .i64 k))] .empty)) : avp K_ops_fields G_ops_fields_13 Q σ := by
  by_cases n6 : k = 6
  · subst n6
    clear n1 n5 n2 n7 n8 n3 n4
    unfold G_ops_fields_13
    simp only [avp_seq]
    refine ⟨_, hσ, ?_⟩
    simp only [vR.down, vr20.down, vr40.down, vr50.down, vr60.down, vr70.down, vr80.down, vr90.down, vr100.down, vr110.down, vr120.down, vr130.down, vS.down, vE.down, List.drop_succ_cons, List.drop_zero, List.take_succ_cons, List.take_zero, Nat.zero_add, Nat.reduceEqDiff, Nat.reduceAdd, Nat.reduceSub, Nat.reduceMul, Nat.reduceLeDiff, Nat.reduceLT, ne_eq, not_false_eq_true, not_true_eq_false, Int.reduceToNat, reduceIte, reduceCtorEq, true_and, and_true, implies_true, forall_const, List.map_cons, List.map_nil, Option.map_some, Option.map_none, Option.bind_some, Option.bind_some, List.append_nil, List.nil_append, List.length_cons, List.length_nil, List.getD_cons_zero, List.headD_cons, List.getD_cons_succ, Bool.false_eq_true, Nat.zero_lt_succ, vr30.down, Option.toList_some, Option.toList_none, List.cons_append, getD_byt, Int.toNat_natCast, decide_eq_true_eq, decide_eq_false_iff_not, Bool.not_eq_true', Bool.not_eq_false', Bool.and_eq_true, Bool.or_eq_true, Bool.or_eq_false_iff, Bool.and_eq_false_imp, Decidable.not_not, List.length_map, beq_true, beq_false, imp_self, and_self, Option.isSome_some, List.toList_toArray, decide_true, decide_false, Bool.and_true, Bool.true_and, Bool.and_false, Bool.false_and, Bool.or_true, Bool.true_or, Bool.or_false, Bool.false_or, Bool.not_true, Bool.not_false, Int.reduceEq, Int.reduceLT, Int.reduceLE, Int.cast_ofNat_Int, eq_self, Nat.reduceLeDiff, Nat.le_refl, Bool.not_not, ↓avp_condG, condG_bool, ↓tf_arrow, ↓ft_arrow, false_implies]
    intro g hg
    exact hQ.1 _ (fl_put g [0, 1, 2, 4] rfl rfl)
  unfold G_ops_fields_13
  simp only [avp_seq]
  refine ⟨_, hσ, ?_⟩
  simp only [vR.down, vr20.down, vr40.down, vr50.down, vr60.down, vr70.down, vr80.down, vr90.down, vr100.down, vr110.down, vr120.down, vr130.down, vS.down, vE.down, List.drop_succ_cons, List.drop_zero, List.take_succ_cons, List.take_zero, Nat.zero_add, Nat.reduceEqDiff, Nat.reduceAdd, Nat.reduceSub, Nat.reduceMul, Nat.reduceLeDiff, Nat.reduceLT, ne_eq, not_false_eq_true, not_true_eq_false, Int.reduceToNat, reduceIte, reduceCtorEq, true_and, and_true, implies_true, forall_const, List.map_cons, List.map_nil, Option.map_some, Option.map_none, Option.bind_some, Option.bind_some, List.append_nil, List.nil_append, List.length_cons, List.length_nil, List.getD_cons_zero, List.headD_cons, List.getD_cons_succ, Bool.false_eq_true, Nat.zero_lt_succ, vr30.down, Option.toList_some, Option.toList_none, List.cons_append, getD_byt, Int.toNat_natCast, decide_eq_true_eq, decide_eq_false_iff_not, Bool.not_eq_true', Bool.not_eq_false', Bool.and_eq_true, Bool.or_eq_true, Bool.or_eq_false_iff, Bool.and_eq_false_imp, Decidable.not_not, List.length_map, beq_true, beq_false, imp_self, and_self, Option.isSome_some, List.toList_toArray, decide_true, decide_false, Bool.and_true, Bool.true_and, Bool.and_false, Bool.false_and, Bool.or_true, Bool.true_or, Bool.or_false, Bool.false_or, Bool.not_true, Bool.not_false, Int.reduceEq, Int.reduceLT, Int.reduceLE, Int.cast_ofNat_Int, eq_self, Nat.reduceLeDiff, Nat.le_refl, Bool.not_not, ↓avp_condG, condG_bool, ↓tf_arrow, ↓ft_arrow, n6, false_implies]
  exact fl_15 n1 n5 n2 n7 n8 n3 n4 n6 hQ (wk_to fewer_refl (by simp only [vR.down, vr20.down, vr40.down, vr50.down, vr60.down, vr70.down, vr80.down, vr90.down, vr100.down, vr110.down, vr120.down, vr130.down, vS.down, vE.down, List.drop_succ_cons, List.drop_zero, List.take_succ_cons, List.take_zero, Nat.zero_add, Nat.reduceEqDiff, Nat.reduceAdd, Nat.reduceSub, Nat.reduceMul, Nat.reduceLeDiff, Nat.reduceLT, ne_eq, not_false_eq_true, not_true_eq_false, Int.reduceToNat, reduceIte, reduceCtorEq, true_and, and_true, implies_true, forall_const, List.map_cons, List.map_nil, Option.map_some, Option.map_none, Option.bind_some, Option.bind_some, List.append_nil, List.nil_append, List.length_cons, List.length_nil, List.getD_cons_zero, List.headD_cons, List.getD_cons_succ, Bool.false_eq_true, Nat.zero_lt_succ, vr30.down, Option.toList_some, Option.toList_none, List.cons_append, getD_byt, Int.toNat_natCast, decide_eq_true_eq, decide_eq_false_iff_not, Bool.not_eq_true', Bool.not_eq_false', Bool.and_eq_true, Bool.or_eq_true, Bool.or_eq_false_iff, Bool.and_eq_false_imp, Decidable.not_not, List.length_map, beq_true, beq_false, imp_self, and_self, Option.isSome_some, List.toList_toArray, decide_true, decide_false, Bool.and_true, Bool.true_and, Bool.and_false, Bool.false_and, Bool.or_true, Bool.true_or, Bool.or_false, Bool.false_or, Bool.not_true, Bool.not_false, Int.reduceEq, Int.reduceLT, Int.reduceLE, Int.cast_ofNat_Int, eq_self, Nat.reduceLeDiff, Nat.le_refl, Bool.not_not, ↓avp_condG, condG_bool, ↓tf_arrow, ↓ft_arrow, wkAll_cons, wkAll_nil, w2_refl, w2_nil, w2_emp, empty_none]))
set_option maxRecDepth 10000 in
theorem fl_11 {k : Int} (n1 : ¬ k = 1) (n5 : ¬ k = 5) (n2 : ¬ k = 2) (n7 : ¬ k = 7) (n8 : ¬ k = 8) (n3 : ¬ k = 3) {Q : Exit → St → Prop} (hQ : FlQ k Q) {σ : St} (hσ : Wk σ (mkS [(3, .t (.int .i64 k))] .empty)) : avp K_ops_fields G_ops_fields_11 Q σ := by
  by_cases n4 : k = 4
  · subst n4
    clear n1 n5 n2 n7 n8 n3
    unfold G_ops_fields_11
    simp only [avp_seq]
    refine ⟨_, hσ, ?_⟩
    simp only [vR.down, vr20.down, vr40.down, vr50.down, vr60.down, vr70.down, vr80.down, vr90.down, vr100.down, vr110.down, vr120.down, vr130.down, vS.down, vE.down, List.drop_succ_cons, List.drop_zero, List.take_succ_cons, List.take_zero, Nat.zero_add, Nat.reduceEqDiff, Nat.reduceAdd, Nat.reduceSub, Nat.reduceMul, Nat.reduceLeDiff, Nat.reduceLT, ne_eq, not_false_eq_true, not_true_eq_false, Int.reduceToNat, reduceIte, reduceCtorEq, true_and, and_true, implies_true, forall_const, List.map_cons, List.map_nil, Option.map_some, Option.map_none, Option.bind_some, Option.bind_some, List.append_nil, List.nil_append, List.length_cons, List.length_nil, List.getD_cons_zero, List.headD_cons, List.getD_cons_succ, Bool.false_eq_true, Nat.zero_lt_succ, vr30.down, Option.toList_some, Option.toList_none, List.cons_append, getD_byt, Int.toNat_natCast, decide_eq_true_eq, decide_eq_false_iff_not, Bool.not_eq_true', Bool.not_eq_false', Bool.and_eq_true, Bool.or_eq_true, Bool.or_eq_false_iff, Bool.and_eq_false_imp, Decidable.not_not, List.length_map, beq_true, beq_false, imp_self, and_self, Option.isSome_some, List.toList_toArray, decide_true, decide_false, Bool.and_true, Bool.true_and, Bool.and_false, Bool.false_and, Bool.or_true, Bool.true_or, Bool.or_false, Bool.false_or, Bool.not_true, Bool.not_false, Int.reduceEq, Int.reduceLT, Int.reduceLE, Int.cast_ofNat_Int, eq_self, Nat.reduceLeDiff, Nat.le_refl, Bool.not_not, ↓avp_condG, condG_bool, ↓tf_arrow, ↓ft_arrow, false_implies]
    intro g hg
    exact hQ.1 _ (fl_put g [0, 1, 4, 6] rfl rfl)
  unfold G_ops_fields_11
  simp only [avp_seq]
  refine ⟨_, hσ, ?_⟩
  simp only [vR.down, vr20.down, vr40.down, vr50.down, vr60.down, vr70.down, vr80.down, vr90.down, vr100.down, vr110.down, vr120.down, vr130.down, vS.down, vE.down, List.drop_succ_cons, List.drop_zero, List.take_succ_cons, List.take_zero, Nat.zero_add, Nat.reduceEqDiff, Nat.reduceAdd, Nat.reduceSub, Nat.reduceMul, Nat.reduceLeDiff, Nat.reduceLT, ne_eq, not_false_eq_true, not_true_eq_false, Int.reduceToNat, reduceIte, reduceCtorEq, true_and, and_true, implies_true, forall_const, List.map_cons, List.map_nil, Option.map_some, Option.map_none, Option.bind_some, Option.bind_some, List.append_nil, List.nil_append, List.length_cons, List.length_nil, List.getD_cons_zero, List.headD_cons, List.getD_cons_succ, Bool.false_eq_true, Nat.zero_lt_succ, vr30.down, Option.toList_some, Option.toList_none, List.cons_append, getD_byt, Int.toNat_natCast, decide_eq_true_eq, decide_eq_false_iff_not, Bool.not_eq_true', Bool.not_eq_false', Bool.and_eq_true, Bool.or_eq_true, Bool.or_eq_false_iff, Bool.and_eq_false_imp, Decidable.not_not, List.length_map, beq_true, beq_false, imp_self, and_self, Option.isSome_some, List.toList_toArray, decide_true, decide_false, Bool.and_true, Bool.true_and, Bool.and_false, Bool.false_and, Bool.or_true, Bool.true_or, Bool.or_false, Bool.false_or, Bool.not_true, Bool.not_false, Int.reduceEq, Int.reduceLT, Int.reduceLE, Int.cast_ofNat_Int, eq_self, Nat.reduceLeDiff, Nat.le_refl, Bool.not_not, ↓avp_condG, condG_bool, ↓tf_arrow, ↓ft_arrow, n4, false_implies]
  exact fl_13 n1 n5 n2 n7 n8 n3 n4 hQ (wk_to fewer_refl (by simp only [vR.down, vr20.down, vr40.down, vr50.down, vr60.down, vr70.down, vr80.down, vr90.down, vr100.down, vr110.down, vr120.down, vr130.down, vS.down, vE.down, List.drop_succ_cons, List.drop_zero, List.take_succ_cons, List.take_zero, Nat.zero_add, Nat.reduceEqDiff, Nat.reduceAdd, Nat.reduceSub, Nat.reduceMul, Nat.reduceLeDiff, Nat.reduceLT, ne_eq, not_false_eq_true, not_true_eq_false, Int.reduceToNat, reduceIte, reduceCtorEq, true_and, and_true, implies_true, forall_const, List.map_cons, List.map_nil, Option.map_some, Option.map_none, Option.bind_some, Option.bind_some, List.append_nil, List.nil_append, List.length_cons, List.length_nil, List.getD_cons_zero, List.headD_cons, List.getD_cons_succ, Bool.false_eq_true, Nat.zero_lt_succ, vr30.down, Option.toList_some, Option.toList_none, List.cons_append, getD_byt, Int.toNat_natCast, decide_eq_true_eq, decide_eq_false_iff_not, Bool.not_eq_true', Bool.not_eq_false', Bool.and_eq_true, Bool.or_eq_true, Bool.or_eq_false_iff, Bool.and_eq_false_imp, Decidable.not_not, List.length_map, beq_true, beq_false, imp_self, and_self, Option.isSome_some, List.toList_toArray, decide_true, decide_false, Bool.and_true, Bool.true_and, Bool.and_false, Bool.false_and, Bool.or_true, Bool.true_or, Bool.or_false, Bool.false_or, Bool.not_true, Bool.not_false, Int.reduceEq, Int.reduceLT, Int.reduceLE, Int.cast_ofNat_Int, eq_self, Nat.reduceLeDiff, Nat.le_refl, Bool.not_not, ↓avp_condG, condG_bool, ↓tf_arrow, ↓ft_arrow, wkAll_cons, wkAll_nil, w2_refl, w2_nil, w2_emp, empty_none]))
set_option maxRecDepth 10000 in
theorem fl_9 {k : Int} (n1 : ¬ k = 1) (n5 : ¬ k = 5) (n2 : ¬ k = 2) (n7 : ¬ k = 7) (n8 : ¬ k = 8) {Q : Exit → St → Prop} (hQ : FlQ k Q) {σ : St} (hσ : Wk σ (mkS [(3, .t (.int .i64 k))] .empty)) : avp K_ops_fields G_ops_fields_9 Q σ := by
  by_cases n3 : k = 3
  · subst n3
    clear n1 n5 n2 n7 n8
    unfold G_ops_fields_9
    simp only [avp_seq]
    refine ⟨_, hσ, ?_⟩
    simp only [vR.down, vr20.down, vr40.down, vr50.down, vr60.down, vr70.down, vr80.down, vr90.down, vr100.down, vr110.down, vr120.down, vr130.down, vS.down, vE.down, List.drop_succ_cons, List.drop_zero, List.take_succ_cons, List.take_zero, Nat.zero_add, Nat.reduceEqDiff, Nat.reduceAdd, Nat.reduceSub, Nat.reduceMul, Nat.reduceLeDiff, Nat.reduceLT, ne_eq, not_false_eq_true, not_true_eq_false, Int.reduceToNat, reduceIte, reduceCtorEq, true_and, and_true, implies_true, forall_const, List.map_cons, List.map_nil, Option.map_some, Option.map_none, Option.bind_some, Option.bind_some, List.append_nil, List.nil_append, List.length_cons, List.length_nil, List.getD_cons_zero, List.headD_cons, List.getD_cons_succ, Bool.false_eq_true, Nat.zero_lt_succ, vr30.down, Option.toList_some, Option.toList_none, List.cons_append, getD_byt, Int.toNat_natCast, decide_eq_true_eq, decide_eq_false_iff_not, Bool.not_eq_true', Bool.not_eq_false', Bool.and_eq_true, Bool.or_eq_true, Bool.or_eq_false_iff, Bool.and_eq_false_imp, Decidable.not_not, List.length_map, beq_true, beq_false, imp_self, and_self, Option.isSome_some, List.toList_toArray, decide_true, decide_false, Bool.and_true, Bool.true_and, Bool.and_false, Bool.false_and, Bool.or_true, Bool.true_or, Bool.or_false, Bool.false_or, Bool.not_true, Bool.not_false, Int.reduceEq, Int.reduceLT, Int.reduceLE, Int.cast_ofNat_Int, eq_self, Nat.reduceLeDiff, Nat.le_refl, Bool.not_not, ↓avp_condG, condG_bool, ↓tf_arrow, ↓ft_arrow, false_implies]
    intro g hg
    exact hQ.1 _ (fl_put g [0, 4, 5] rfl rfl)
  unfold G_ops_fields_9
  simp only [avp_seq]
  refine ⟨_, hσ, ?_⟩
  simp only [vR.down, vr20.down, vr40.down, vr50.down, vr60.down, vr70.down, vr80.down, vr90.down, vr100.down, vr110.down, vr120.down, vr130.down, vS.down, vE.down, List.drop_succ_cons, List.drop_zero, List.take_succ_cons, List.take_zero, Nat.zero_add, Nat.reduceEqDiff, Nat.reduceAdd, Nat.reduceSub, Nat.reduceMul, Nat.reduceLeDiff, Nat.reduceLT, ne_eq, not_false_eq_true, not_true_eq_false, Int.reduceToNat, reduceIte, reduceCtorEq, true_and, and_true, implies_true, forall_const, List.map_cons, List.map_nil, Option.map_some, Option.map_none, Option.bind_some, Option.bind_some, List.append_nil, List.nil_append, List.length_cons, List.length_nil, List.getD_cons_zero, List.headD_cons, List.getD_cons_succ, Bool.false_eq_true, Nat.zero_lt_succ, vr30.down, Option.toList_some, Option.toList_none, List.cons_append, getD_byt, Int.toNat_natCast, decide_eq_true_eq, decide_eq_false_iff_not, Bool.not_eq_true', Bool.not_eq_false', Bool.and_eq_true, Bool.or_eq_true, Bool.or_eq_false_iff, Bool.and_eq_false_imp, Decidable.not_not, List.length_map, beq_true, beq_false, imp_self, and_self, Option.isSome_some, List.toList_toArray, decide_true, decide_false, Bool.and_true, Bool.true_and, Bool.and_false, Bool.false_and, Bool.or_true, Bool.true_or, Bool.or_false, Bool.false_or, Bool.not_true, Bool.not_false, Int.reduceEq, Int.reduceLT, Int.reduceLE, Int.cast_ofNat_Int, eq_self, Nat.reduceLeDiff, Nat.le_refl, Bool.not_not, ↓avp_condG, condG_bool, ↓tf_arrow, ↓ft_arrow, n3, false_implies]
  exact fl_11 n1 n5 n2 n7 n8 n3 hQ (wk_to fewer_refl (by simp only [vR.down, vr20.down, vr40.down, vr50.down, vr60.down, vr70.down, vr80.down, vr90.down, vr100.down, vr110.down, vr120.down, vr130.down, vS.down, vE.down, List.drop_succ_cons, List.drop_zero, List.take_succ_cons, List.take_zero, Nat.zero_add, Nat.reduceEqDiff, Nat.reduceAdd, Nat.reduceSub, Nat.reduceMul, Nat.reduceLeDiff, Nat.reduceLT, ne_eq, not_false_eq_true, not_true_eq_false, Int.reduceToNat, reduceIte, reduceCtorEq, true_and, and_true, implies_true, forall_const, List.map_cons, List.map_nil, Option.map_some, Option.map_none, Option.bind_some, Option.bind_some, List.append_nil, List.nil_append, List.length_cons, List.length_nil, List.getD_cons_zero, List.headD_cons, List.getD_cons_succ, Bool.false_eq_true, Nat.zero_lt_succ, vr30.down, Option.toList_some, Option.toList_none, List.cons_append, getD_byt, Int.toNat_natCast, decide_eq_true_eq, decide_eq_false_iff_not, Bool.not_eq_true', Bool.not_eq_false', Bool.and_eq_true, Bool.or_eq_true, Bool.or_eq_false_iff, Bool.and_eq_false_imp, Decidable.not_not, List.length_map, beq_true, beq_false, imp_self, and_self, Option.isSome_some, List.toList_toArray, decide_true, decide_false, Bool.and_true, Bool.true_and, Bool.and_false, Bool.false_and, Bool.or_true, Bool.true_or, Bool.or_false, Bool.false_or, Bool.not_true, Bool.not_false, Int.reduceEq, Int.reduceLT, Int.reduceLE, Int.cast_ofNat_Int, eq_self, Nat.reduceLeDiff, Nat.le_refl, Bool.not_not, ↓avp_condG, condG_bool, ↓tf_arrow, ↓ft_arrow, wkAll_cons, wkAll_nil, w2_refl, w2_nil, w2_emp, empty_none]))
set_option maxRecDepth 10000 in
theorem fl_5 {k : Int} (n1 : ¬ k = 1) (n5 : ¬ k = 5) {Q : Exit → St → Prop} (hQ : FlQ k Q) {σ : St} (hσ : Wk σ (mkS [(3, .t (.int .i64 k))] .empty)) : avp K_ops_fields G_ops_fields_5 Q σ := by
  by_cases n2 : k = 2
  · subst n2
    clear n1 n5
    unfold G_ops_fields_5
    simp only [avp_seq]
    refine ⟨_, hσ, ?_⟩
    simp only [vR.down, vr20.down, vr40.down, vr50.down, vr60.down, vr70.down, vr80.down, vr90.down, vr100.down, vr110.down, vr120.down, vr130.down, vS.down, vE.down, List.drop_succ_cons, List.drop_zero, List.take_succ_cons, List.take_zero, Nat.zero_add, Nat.reduceEqDiff, Nat.reduceAdd, Nat.reduceSub, Nat.reduceMul, Nat.reduceLeDiff, Nat.reduceLT, ne_eq, not_false_eq_true, not_true_eq_false, Int.reduceToNat, reduceIte, reduceCtorEq, true_and, and_true, implies_true, forall_const, List.map_cons, List.map_nil, Option.map_some, Option.map_none, Option.bind_some, Option.bind_some, List.append_nil, List.nil_append, List.length_cons, List.length_nil, List.getD_cons_zero, List.headD_cons, List.getD_cons_succ, Bool.false_eq_true, Nat.zero_lt_succ, vr30.down, Option.toList_some, Option.toList_none, List.cons_append, getD_byt, Int.toNat_natCast, decide_eq_true_eq, decide_eq_false_iff_not, Bool.not_eq_true', Bool.not_eq_false', Bool.and_eq_true, Bool.or_eq_true, Bool.or_eq_false_iff, Bool.and_eq_false_imp, Decidable.not_not, List.length_map, beq_true, beq_false, imp_self, and_self, Option.isSome_some, List.toList_toArray, decide_true, decide_false, Bool.and_true, Bool.true_and, Bool.and_false, Bool.false_and, Bool.or_true, Bool.true_or, Bool.or_false, Bool.false_or, Bool.not_true, Bool.not_false, Int.reduceEq, Int.reduceLT, Int.reduceLE, Int.cast_ofNat_Int, eq_self, Nat.reduceLeDiff, Nat.le_refl, Bool.not_not, ↓avp_condG, condG_bool, ↓tf_arrow, ↓ft_arrow, false_implies]
    intro g hg
    exact hQ.1 _ (fl_put g [0, 4] rfl rfl)
  by_cases n7 : k = 7
  · subst n7
    clear n1 n5
    unfold G_ops_fields_5
    simp only [avp_seq]
    refine ⟨_, hσ, ?_⟩
    simp only [vR.down, vr20.down, vr40.down, vr50.down, vr60.down, vr70.down, vr80.down, vr90.down, vr100.down, vr110.down, vr120.down, vr130.down, vS.down, vE.down, List.drop_succ_cons, List.drop_zero, List.take_succ_cons, List.take_zero, Nat.zero_add, Nat.reduceEqDiff, Nat.reduceAdd, Nat.reduceSub, Nat.reduceMul, Nat.reduceLeDiff, Nat.reduceLT, ne_eq, not_false_eq_true, not_true_eq_false, Int.reduceToNat, reduceIte, reduceCtorEq, true_and, and_true, implies_true, forall_const, List.map_cons, List.map_nil, Option.map_some, Option.map_none, Option.bind_some, Option.bind_some, List.append_nil, List.nil_append, List.length_cons, List.length_nil, List.getD_cons_zero, List.headD_cons, List.getD_cons_succ, Bool.false_eq_true, Nat.zero_lt_succ, vr30.down, Option.toList_some, Option.toList_none, List.cons_append, getD_byt, Int.toNat_natCast, decide_eq_true_eq, decide_eq_false_iff_not, Bool.not_eq_true', Bool.not_eq_false', Bool.and_eq_true, Bool.or_eq_true, Bool.or_eq_false_iff, Bool.and_eq_false_imp, Decidable.not_not, List.length_map, beq_true, beq_false, imp_self, and_self, Option.isSome_some, List.toList_toArray, decide_true, decide_false, Bool.and_true, Bool.true_and, Bool.and_false, Bool.false_and, Bool.or_true, Bool.true_or, Bool.or_false, Bool.false_or, Bool.not_true, Bool.not_false, Int.reduceEq, Int.reduceLT, Int.reduceLE, Int.cast_ofNat_Int, eq_self, Nat.reduceLeDiff, Nat.le_refl, Bool.not_not, ↓avp_condG, condG_bool, ↓tf_arrow, ↓ft_arrow, false_implies]
    intro g hg
    exact hQ.1 _ (fl_put g [0, 4] rfl rfl)
  by_cases n8 : k = 8
  · subst n8
    clear n1 n5
    unfold G_ops_fields_5
    simp only [avp_seq]
    refine ⟨_, hσ, ?_⟩
    simp only [vR.down, vr20.down, vr40.down, vr50.down, vr60.down, vr70.down, vr80.down, vr90.down, vr100.down, vr110.down, vr120.down, vr130.down, vS.down, vE.down, List.drop_succ_cons, List.drop_zero, List.take_succ_cons, List.take_zero, Nat.zero_add, Nat.reduceEqDiff, Nat.reduceAdd, Nat.reduceSub, Nat.reduceMul, Nat.reduceLeDiff, Nat.reduceLT, ne_eq, not_false_eq_true, not_true_eq_false, Int.reduceToNat, reduceIte, reduceCtorEq, true_and, and_true, implies_true, forall_const, List.map_cons, List.map_nil, Option.map_some, Option.map_none, Option.bind_some, Option.bind_some, List.append_nil, List.nil_append, List.length_cons, List.length_nil, List.getD_cons_zero, List.headD_cons, List.getD_cons_succ, Bool.false_eq_true, Nat.zero_lt_succ, vr30.down, Option.toList_some, Option.toList_none, List.cons_append, getD_byt, Int.toNat_natCast, decide_eq_true_eq, decide_eq_false_iff_not, Bool.not_eq_true', Bool.not_eq_false', Bool.and_eq_true, Bool.or_eq_true, Bool.or_eq_false_iff, Bool.and_eq_false_imp, Decidable.not_not, List.length_map, beq_true, beq_false, imp_self, and_self, Option.isSome_some, List.toList_toArray, decide_true, decide_false, Bool.and_true, Bool.true_and, Bool.and_false, Bool.false_and, Bool.or_true, Bool.true_or, Bool.or_false, Bool.false_or, Bool.not_true, Bool.not_false, Int.reduceEq, Int.reduceLT, Int.reduceLE, Int.cast_ofNat_Int, eq_self, Nat.reduceLeDiff, Nat.le_refl, Bool.not_not, ↓avp_condG, condG_bool, ↓tf_arrow, ↓ft_arrow, false_implies]
    intro g hg
    exact hQ.1 _ (fl_put g [0, 4] rfl rfl)
  unfold G_ops_fields_5
  simp only [avp_seq]
  refine ⟨_, hσ, ?_⟩
  simp only [vR.down, vr20.down, vr40.down, vr50.down, vr60.down, vr70.down, vr80.down, vr90.down, vr100.down, vr110.down, vr120.down, vr130.down, vS.down, vE.down, List.drop_succ_cons, List.drop_zero, List.take_succ_cons, List.take_zero, Nat.zero_add, Nat.reduceEqDiff, Nat.reduceAdd, Nat.reduceSub, Nat.reduceMul, Nat.reduceLeDiff, Nat.reduceLT, ne_eq, not_false_eq_true, not_true_eq_false, Int.reduceToNat, reduceIte, reduceCtorEq, true_and, and_true, implies_true, forall_const, List.map_cons, List.map_nil, Option.map_some, Option.map_none, Option.bind_some, Option.bind_some, List.append_nil, List.nil_append, List.length_cons, List.length_nil, List.getD_cons_zero, List.headD_cons, List.getD_cons_succ, Bool.false_eq_true, Nat.zero_lt_succ, vr30.down, Option.toList_some, Option.toList_none, List.cons_append, getD_byt, Int.toNat_natCast, decide_eq_true_eq, decide_eq_false_iff_not, Bool.not_eq_true', Bool.not_eq_false', Bool.and_eq_true, Bool.or_eq_true, Bool.or_eq_false_iff, Bool.and_eq_false_imp, Decidable.not_not, List.length_map, beq_true, beq_false, imp_self, and_self, Option.isSome_some, List.toList_toArray, decide_true, decide_false, Bool.and_true, Bool.true_and, Bool.and_false, Bool.false_and, Bool.or_true, Bool.true_or, Bool.or_false, Bool.false_or, Bool.not_true, Bool.not_false, Int.reduceEq, Int.reduceLT, Int.reduceLE, Int.cast_ofNat_Int, eq_self, Nat.reduceLeDiff, Nat.le_refl, Bool.not_not, ↓avp_condG, condG_bool, ↓tf_arrow, ↓ft_arrow, n2, n7, n8, false_implies]
  exact fl_9 n1 n5 n2 n7 n8 hQ (wk_to fewer_refl (by simp only [vR.down, vr20.down, vr40.down, vr50.down, vr60.down, vr70.down, vr80.down, vr90.down, vr100.down, vr110.down, vr120.down, vr130.down, vS.down, vE.down, List.drop_succ_cons, List.drop_zero, List.take_succ_cons, List.take_zero, Nat.zero_add, Nat.reduceEqDiff, Nat.reduceAdd, Nat.reduceSub, Nat.reduceMul, Nat.reduceLeDiff, Nat.reduceLT, ne_eq, not_false_eq_true, not_true_eq_false, Int.reduceToNat, reduceIte, reduceCtorEq, true_and, and_true, implies_true, forall_const, List.map_cons, List.map_nil, Option.map_some, Option.map_none, Option.bind_some, Option.bind_some, List.append_nil, List.nil_append, List.length_cons, List.length_nil, List.getD_cons_zero, List.headD_cons, List.getD_cons_succ, Bool.false_eq_true, Nat.zero_lt_succ, vr30.down, Option.toList_some, Option.toList_none, List.cons_append, getD_byt, Int.toNat_natCast, decide_eq_true_eq, decide_eq_false_iff_not, Bool.not_eq_true', Bool.not_eq_false', Bool.and_eq_true, Bool.or_eq_true, Bool.or_eq_false_iff, Bool.and_eq_false_imp, Decidable.not_not, List.length_map, beq_true, beq_false, imp_self, and_self, Option.isSome_some, List.toList_toArray, decide_true, decide_false, Bool.and_true, Bool.true_and, Bool.and_false, Bool.false_and, Bool.or_true, Bool.true_or, Bool.or_false, Bool.false_or, Bool.not_true, Bool.not_false, Int.reduceEq, Int.reduceLT, Int.reduceLE, Int.cast_ofNat_Int, eq_self, Nat.reduceLeDiff, Nat.le_refl, Bool.not_not, ↓avp_condG, condG_bool, ↓tf_arrow, ↓ft_arrow, wkAll_cons, wkAll_nil, w2_refl, w2_nil, w2_emp, empty_none]))
set_option maxRecDepth 10000 in
theorem body_ops_fields (x : Int × Unit) (hp : p_ops_fields x) : avp K_ops_fields G_ops_fields (Ret K_ops_fields [.tmp 2] fun v s => Frz s v (r_ops_fields x)) (entry (A_ops_fields.enc x) .empty) := by
  obtain ⟨k, ⟨⟩⟩ := x
  change avp _ _ (Ret _ _ fun v s => Frz s v (.t (sl (fldL k)))) (entry [.t (.int .i64 k)] .empty)
  by_cases n1 : k = 1
  · subst n1
    unfold G_ops_fields
    simp only [vR.down, vr20.down, vr40.down, vr50.down, vr60.down, vr70.down, vr80.down, vr90.down, vr100.down, vr110.down, vr120.down, vr130.down, vS.down, vE.down, List.drop_succ_cons, List.drop_zero, List.take_succ_cons, List.take_zero, Nat.zero_add, Nat.reduceEqDiff, Nat.reduceAdd, Nat.reduceSub, Nat.reduceMul, Nat.reduceLeDiff, Nat.reduceLT, ne_eq, not_false_eq_true, not_true_eq_false, Int.reduceToNat, reduceIte, reduceCtorEq, true_and, and_true, implies_true, forall_const, List.map_cons, List.map_nil, Option.map_some, Option.map_none, Option.bind_some, Option.bind_some, List.append_nil, List.nil_append, List.length_cons, List.length_nil, List.getD_cons_zero, List.headD_cons, List.getD_cons_succ, Bool.false_eq_true, Nat.zero_lt_succ, vr30.down, Option.toList_some, Option.toList_none, List.cons_append, getD_byt, Int.toNat_natCast, decide_eq_true_eq, decide_eq_false_iff_not, Bool.not_eq_true', Bool.not_eq_false', Bool.and_eq_true, Bool.or_eq_true, Bool.or_eq_false_iff, Bool.and_eq_false_imp, Decidable.not_not, List.length_map, beq_true, beq_false, imp_self, and_self, Option.isSome_some, List.toList_toArray, decide_true, decide_false, Bool.and_true, Bool.true_and, Bool.and_false, Bool.false_and, Bool.or_true, Bool.true_or, Bool.or_false, Bool.false_or, Bool.not_true, Bool.not_false, Int.reduceEq, Int.reduceLT, Int.reduceLE, Int.cast_ofNat_Int, eq_self, Nat.reduceLeDiff, Nat.le_refl, Bool.not_not, ↓avp_condG, condG_bool, ↓tf_arrow, ↓ft_arrow, false_implies]
    intro g hg
    simp only [vR.down, vr20.down, vr40.down, vr50.down, vr60.down, vr70.down, vr80.down, vr90.down, vr100.down, vr110.down, vr120.down, vr130.down, vS.down, vE.down, List.drop_succ_cons, List.drop_zero, List.take_succ_cons, List.take_zero, Nat.zero_add, Nat.reduceEqDiff, Nat.reduceAdd, Nat.reduceSub, Nat.reduceMul, Nat.reduceLeDiff, Nat.reduceLT, ne_eq, not_false_eq_true, not_true_eq_false, Int.reduceToNat, reduceIte, reduceCtorEq, true_and, and_true, implies_true, forall_const, List.map_cons, List.map_nil, Option.map_some, Option.map_none, Option.bind_some, Option.bind_some, List.append_nil, List.nil_append, List.length_cons, List.length_nil, List.getD_cons_zero, List.headD_cons, List.getD_cons_succ, Bool.false_eq_true, Nat.zero_lt_succ, vr30.down, Option.toList_some, Option.toList_none, List.cons_append, getD_byt, Int.toNat_natCast, decide_eq_true_eq, decide_eq_false_iff_not, Bool.not_eq_true', Bool.not_eq_false', Bool.and_eq_true, Bool.or_eq_true, Bool.or_eq_false_iff, Bool.and_eq_false_imp, Decidable.not_not, List.length_map, beq_true, beq_false, imp_self, and_self, Option.isSome_some, List.toList_toArray, decide_true, decide_false, Bool.and_true, Bool.true_and, Bool.and_false, Bool.false_and, Bool.or_true, Bool.true_or, Bool.or_false, Bool.false_or, Bool.not_true, Bool.not_false, Int.reduceEq, Int.reduceLT, Int.reduceLE, Int.cast_ofNat_Int, eq_self, Nat.reduceLeDiff, Nat.le_refl, Bool.not_not, ↓avp_condG, condG_bool, ↓tf_arrow, ↓ft_arrow, vT.down]
    exact (lv_at (α := Int) (l := [0, 1, 4]) rfl (Store.set_same _ _ _)).frz
  by_cases n5 : k = 5
  · subst n5
    unfold G_ops_fields
    simp only [vR.down, vr20.down, vr40.down, vr50.down, vr60.down, vr70.down, vr80.down, vr90.down, vr100.down, vr110.down, vr120.down, vr130.down, vS.down, vE.down, List.drop_succ_cons, List.drop_zero, List.take_succ_cons, List.take_zero, Nat.zero_add, Nat.reduceEqDiff, Nat.reduceAdd, Nat.reduceSub, Nat.reduceMul, Nat.reduceLeDiff, Nat.reduceLT, ne_eq, not_false_eq_true, not_true_eq_false, Int.reduceToNat, reduceIte, reduceCtorEq, true_and, and_true, implies_true, forall_const, List.map_cons, List.map_nil, Option.map_some, Option.map_none, Option.bind_some, Option.bind_some, List.append_nil, List.nil_append, List.length_cons, List.length_nil, List.getD_cons_zero, List.headD_cons, List.getD_cons_succ, Bool.false_eq_true, Nat.zero_lt_succ, vr30.down, Option.toList_some, Option.toList_none, List.cons_append, getD_byt, Int.toNat_natCast, decide_eq_true_eq, decide_eq_false_iff_not, Bool.not_eq_true', Bool.not_eq_false', Bool.and_eq_true, Bool.or_eq_true, Bool.or_eq_false_iff, Bool.and_eq_false_imp, Decidable.not_not, List.length_map, beq_true, beq_false, imp_self, and_self, Option.isSome_some, List.toList_toArray, decide_true, decide_false, Bool.and_true, Bool.true_and, Bool.and_false, Bool.false_and, Bool.or_true, Bool.true_or, Bool.or_false, Bool.false_or, Bool.not_true, Bool.not_false, Int.reduceEq, Int.reduceLT, Int.reduceLE, Int.cast_ofNat_Int, eq_self, Nat.reduceLeDiff, Nat.le_refl, Bool.not_not, ↓avp_condG, condG_bool, ↓tf_arrow, ↓ft_arrow, false_implies]
    intro g hg
    simp only [vR.down, vr20.down, vr40.down, vr50.down, vr60.down, vr70.down, vr80.down, vr90.down, vr100.down, vr110.down, vr120.down, vr130.down, vS.down, vE.down, List.drop_succ_cons, List.drop_zero, List.take_succ_cons, List.take_zero, Nat.zero_add, Nat.reduceEqDiff, Nat.reduceAdd, Nat.reduceSub, Nat.reduceMul, Nat.reduceLeDiff, Nat.reduceLT, ne_eq, not_false_eq_true, not_true_eq_false, Int.reduceToNat, reduceIte, reduceCtorEq, true_and, and_true, implies_true, forall_const, List.map_cons, List.map_nil, Option.map_some, Option.map_none, Option.bind_some, Option.bind_some, List.append_nil, List.nil_append, List.length_cons, List.length_nil, List.getD_cons_zero, List.headD_cons, List.getD_cons_succ, Bool.false_eq_true, Nat.zero_lt_succ, vr30.down, Option.toList_some, Option.toList_none, List.cons_append, getD_byt, Int.toNat_natCast, decide_eq_true_eq, decide_eq_false_iff_not, Bool.not_eq_true', Bool.not_eq_false', Bool.and_eq_true, Bool.or_eq_true, Bool.or_eq_false_iff, Bool.and_eq_false_imp, Decidable.not_not, List.length_map, beq_true, beq_false, imp_self, and_self, Option.isSome_some, List.toList_toArray, decide_true, decide_false, Bool.and_true, Bool.true_and, Bool.and_false, Bool.false_and, Bool.or_true, Bool.true_or, Bool.or_false, Bool.false_or, Bool.not_true, Bool.not_false, Int.reduceEq, Int.reduceLT, Int.reduceLE, Int.cast_ofNat_Int, eq_self, Nat.reduceLeDiff, Nat.le_refl, Bool.not_not, ↓avp_condG, condG_bool, ↓tf_arrow, ↓ft_arrow, vT.down]
    exact (lv_at (α := Int) (l := [0, 1, 4]) rfl (Store.set_same _ _ _)).frz
  unfold G_ops_fields
  simp only [vR.down, vr20.down, vr40.down, vr50.down, vr60.down, vr70.down, vr80.down, vr90.down, vr100.down, vr110.down, vr120.down, vr130.down, vS.down, vE.down, List.drop_succ_cons, List.drop_zero, List.take_succ_cons, List.take_zero, Nat.zero_add, Nat.reduceEqDiff, Nat.reduceAdd, Nat.reduceSub, Nat.reduceMul, Nat.reduceLeDiff, Nat.reduceLT, ne_eq, not_false_eq_true, not_true_eq_false, Int.reduceToNat, reduceIte, reduceCtorEq, true_and, and_true, implies_true, forall_const, List.map_cons, List.map_nil, Option.map_some, Option.map_none, Option.bind_some, Option.bind_some, List.append_nil, List.nil_append, List.length_cons, List.length_nil, List.getD_cons_zero, List.headD_cons, List.getD_cons_succ, Bool.false_eq_true, Nat.zero_lt_succ, vr30.down, Option.toList_some, Option.toList_none, List.cons_append, getD_byt, Int.toNat_natCast, decide_eq_true_eq, decide_eq_false_iff_not, Bool.not_eq_true', Bool.not_eq_false', Bool.and_eq_true, Bool.or_eq_true, Bool.or_eq_false_iff, Bool.and_eq_false_imp, Decidable.not_not, List.length_map, beq_true, beq_false, imp_self, and_self, Option.isSome_some, List.toList_toArray, decide_true, decide_false, Bool.and_true, Bool.true_and, Bool.and_false, Bool.false_and, Bool.or_true, Bool.true_or, Bool.or_false, Bool.false_or, Bool.not_true, Bool.not_false, Int.reduceEq, Int.reduceLT, Int.reduceLE, Int.cast_ofNat_Int, eq_self, Nat.reduceLeDiff, Nat.le_refl, Bool.not_not, ↓avp_condG, condG_bool, ↓tf_arrow, ↓ft_arrow, n1, n5, false_implies]
  refine fl_5 n1 n5 ⟨fun σ' h => ?_, fun h σ' => ?_⟩ (wk_to fewer_refl (by simp only [vR.down, vr20.down, vr40.down, vr50.down, vr60.down, vr70.down, vr80.down, vr90.down, vr100.down, vr110.down, vr120.down, vr130.down, vS.down, vE.down, List.drop_succ_cons, List.drop_zero, List.take_succ_cons, List.take_zero, Nat.zero_add, Nat.reduceEqDiff, Nat.reduceAdd, Nat.reduceSub, Nat.reduceMul, Nat.reduceLeDiff, Nat.reduceLT, ne_eq, not_false_eq_true, not_true_eq_false, Int.reduceToNat, reduceIte, reduceCtorEq, true_and, and_true, implies_true, forall_const, List.map_cons, List.map_nil, Option.map_some, Option.map_none, Option.bind_some, Option.bind_some, List.append_nil, List.nil_append, List.length_cons, List.length_nil, List.getD_cons_zero, List.headD_cons, List.getD_cons_succ, Bool.false_eq_true, Nat.zero_lt_succ, vr30.down, Option.toList_some, Option.toList_none, List.cons_append, getD_byt, Int.toNat_natCast, decide_eq_true_eq, decide_eq_false_iff_not, Bool.not_eq_true', Bool.not_eq_false', Bool.and_eq_true, Bool.or_eq_true, Bool.or_eq_false_iff, Bool.and_eq_false_imp, Decidable.not_not, List.length_map, beq_true, beq_false, imp_self, and_self, Option.isSome_some, List.toList_toArray, decide_true, decide_false, Bool.and_true, Bool.true_and, Bool.and_false, Bool.false_and, Bool.or_true, Bool.true_or, Bool.or_false, Bool.false_or, Bool.not_true, Bool.not_false, Int.reduceEq, Int.reduceLT, Int.reduceLE, Int.cast_ofNat_Int, eq_self, Nat.reduceLeDiff, Nat.le_refl, Bool.not_not, ↓avp_condG, condG_bool, ↓tf_arrow, ↓ft_arrow, wkAll_cons, wkAll_nil, w2_refl, w2_nil, w2_emp, empty_none]))
  · simp only [vR.down, vr20.down, vr40.down, vr50.down, vr60.down, vr70.down, vr80.down, vr90.down, vr100.down, vr110.down, vr120.down, vr130.down, vS.down, vE.down, List.drop_succ_cons, List.drop_zero, List.take_succ_cons, List.take_zero, Nat.zero_add, Nat.reduceEqDiff, Nat.reduceAdd, Nat.reduceSub, Nat.reduceMul, Nat.reduceLeDiff, Nat.reduceLT, ne_eq, not_false_eq_true, not_true_eq_false, Int.reduceToNat, reduceIte, reduceCtorEq, true_and, and_true, implies_true, forall_const, List.map_cons, List.map_nil, Option.map_some, Option.map_none, Option.bind_some, Option.bind_some, List.append_nil, List.nil_append, List.length_cons, List.length_nil, List.getD_cons_zero, List.headD_cons, List.getD_cons_succ, Bool.false_eq_true, Nat.zero_lt_succ, vr30.down, Option.toList_some, Option.toList_none, List.cons_append, getD_byt, Int.toNat_natCast, decide_eq_true_eq, decide_eq_false_iff_not, Bool.not_eq_true', Bool.not_eq_false', Bool.and_eq_true, Bool.or_eq_true, Bool.or_eq_false_iff, Bool.and_eq_false_imp, Decidable.not_not, List.length_map, beq_true, beq_false, imp_self, and_self, Option.isSome_some, List.toList_toArray, decide_true, decide_false, Bool.and_true, Bool.true_and, Bool.and_false, Bool.false_and, Bool.or_true, Bool.true_or, Bool.or_false, Bool.false_or, Bool.not_true, Bool.not_false, Int.reduceEq, Int.reduceLT, Int.reduceLE, Int.cast_ofNat_Int, eq_self, Nat.reduceLeDiff, Nat.le_refl, Bool.not_not, ↓avp_condG, condG_bool, ↓tf_arrow, ↓ft_arrow, vT.down]
    exact h
  · simp only [vR.down, vr20.down, vr40.down, vr50.down, vr60.down, vr70.down, vr80.down, vr90.down, vr100.down, vr110.down, vr120.down, vr130.down, vS.down, vE.down, List.drop_succ_cons, List.drop_zero, List.take_succ_cons, List.take_zero, Nat.zero_add, Nat.reduceEqDiff, Nat.reduceAdd, Nat.reduceSub, Nat.reduceMul, Nat.reduceLeDiff, Nat.reduceLT, ne_eq, not_false_eq_true, not_true_eq_false, Int.reduceToNat, reduceIte, reduceCtorEq, true_and, and_true, implies_true, forall_const, List.map_cons, List.map_nil, Option.map_some, Option.map_none, Option.bind_some, Option.bind_some, List.append_nil, List.nil_append, List.length_cons, List.length_nil, List.getD_cons_zero, List.headD_cons, List.getD_cons_succ, Bool.false_eq_true, Nat.zero_lt_succ, vr30.down, Option.toList_some, Option.toList_none, List.cons_append, getD_byt, Int.toNat_natCast, decide_eq_true_eq, decide_eq_false_iff_not, Bool.not_eq_true', Bool.not_eq_false', Bool.and_eq_true, Bool.or_eq_true, Bool.or_eq_false_iff, Bool.and_eq_false_imp, Decidable.not_not, List.length_map, beq_true, beq_false, imp_self, and_self, Option.isSome_some, List.toList_toArray, decide_true, decide_false, Bool.and_true, Bool.true_and, Bool.and_false, Bool.false_and, Bool.or_true, Bool.true_or, Bool.or_false, Bool.false_or, Bool.not_true, Bool.not_false, Int.reduceEq, Int.reduceLT, Int.reduceLE, Int.cast_ofNat_Int, eq_self, Nat.reduceLeDiff, Nat.le_refl, Bool.not_not, ↓avp_condG, condG_bool, ↓tf_arrow, ↓ft_arrow, vT.down, h]
noncomputable def c_ops_fields : Con := fnCon A_ops_fields p_ops_fields r_ops_fields
theorem ok_ops_fields : COk Try.prog 20 c_ops_fields := fn_ok sys_ops_fields mixed Try.func20 (by kernel_rfl) geq_ops_fields Try.ntmps20 (by rw [Try.results20]) fun x hx => ⟨Nat.le_of_ble_eq_true rfl, body_ops_fields x hx⟩
end Go.Proofs.Ythhgaeeeppipnaa


namespace Go.Proofs.Ythhgaeeeppipnaa
open Go Go.Eng
def argI (α : Type) [Cell α] : Arg α where
  enc x := .imm (Cell.enc x)
  dec a := match a with | .imm cs => Cell.dec cs | _ => none
  sound a x h β w O v hr := by
    split at h
    · next cs =>
      obtain ⟨h1, h2⟩ := Cell.sound cs x h
      cases hr with
      | imm _ b off c hc ho hr =>
        have hlx := Cell.len x
        refine .imm _ b off c (fun j hj => hc j (by omega)) (fun j hj => ho j (by omega)) fun j hj => h2 w O c (fun i hi => hr i (by omega)) j (by omega)
    · cases h
def stT (x : TStep) : List TV := [.int .i64 x.Kind, .int .i64 x.ID, .int .i64 x.N, .int .i64 x.M, .int .i64 x.By, .str x.Path, .str x.To, .str x.Text, sl x.Keep]
theorem argI_step {a b c d e : Int} {p q r : List UInt8} {l : List Int} : (argI TStep).dec (.imm [.int .i64 a, .int .i64 b, .int .i64 c, .int .i64 d, .int .i64 e, .str p, .str q, .str r, sl l]) = some ⟨a, b, c, d, e, p, q, r, l⟩ := Cell.dec_enc (⟨a, b, c, d, e, p, q, r, l⟩ : TStep)
def stC (x : TStep) (v : AV) : List AV := [.t (.int .i64 x.Kind), .t (.int .i64 x.ID), .t (.int .i64 x.N), .t (.int .i64 x.M), .t (.int .i64 x.By), .t (.str x.Path), .t (.str x.To), .t (.str x.Text), v]
abbrev stE (x : TStep) (v : AV) : Entry := .box [.t (.int .i64 x.Kind), .t (.int .i64 x.ID), .t (.int .i64 x.N), .t (.int .i64 x.M), .t (.int .i64 x.By), .t (.str x.Path), .t (.str x.To), .t (.str x.Text), v] false
def offN (f : Int) : Nat := if f = 0 then 1 else if f = 1 then 2 else if f = 2 then 3 else 4
def offX (f : Int) : Nat := if f = 4 then 5 else if f = 5 then 6 else 7
def numR (p : AV) (f : Int) : AV := .tup [if f ≤ 3 then p else .t .nilP, .t (.str (fm f))]

def G_ops_step_num : GCode := .seq (.region [⟨(some 4), none, .assign (.const (.pointer none))⟩, ⟨(some 5), none, .assign (.const (.string ⟨#[]⟩))⟩]) (.seq (.seq (.region [⟨(some 6), none, .move (.tmp 1)⟩]) (.block 0 (.seq (.region [⟨(some 8), none, .binOp .eql 48 (.tmp 6) (.const (.int .i64 0)) 48⟩, ⟨(some 7), none, .assign (.tmp 8)⟩]) (.cond (.tmp 7) (.seq (.region [⟨(some 9), none, .move (.tmp 0)⟩, ⟨(some 10), none, .nilCheck (.tmp 9)⟩, ⟨(some 11), none, .fieldAddr 44 (.tmp 10) 0⟩, ⟨(some 12), none, .fieldAddr 24 (.tmp 11) 1⟩, ⟨(some 4), none, .assign (.tmp 12)⟩, ⟨(some 5), none, .assign (.const (.string ⟨#[50]⟩))⟩]) (.ret)) (.seq (.region [⟨(some 14), none, .binOp .eql 48 (.tmp 6) (.const (.int .i64 1)) 48⟩, ⟨(some 13), none, .assign (.tmp 14)⟩]) (.cond (.tmp 13) (.seq (.region [⟨(some 15), none, .move (.tmp 0)⟩, ⟨(some 16), none, .nilCheck (.tmp 15)⟩, ⟨(some 17), none, .fieldAddr 44 (.tmp 16) 0⟩, ⟨(some 18), none, .fieldAddr 24 (.tmp 17) 2⟩, ⟨(some 4), none, .assign (.tmp 18)⟩, ⟨(some 5), none, .assign (.const (.string ⟨#[50]⟩))⟩]) (.ret)) (.seq (.region [⟨(some 20), none, .binOp .eql 48 (.tmp 6) (.const (.int .i64 2)) 48⟩, ⟨(some 19), none, .assign (.tmp 20)⟩]) (.cond (.tmp 19) (.seq (.region [⟨(some 21), none, .move (.tmp 0)⟩, ⟨(some 22), none, .nilCheck (.tmp 21)⟩, ⟨(some 23), none, .fieldAddr 44 (.tmp 22) 0⟩, ⟨(some 24), none, .fieldAddr 24 (.tmp 23) 3⟩, ⟨(some 4), none, .assign (.tmp 24)⟩, ⟨(some 5), none, .assign (.const (.string ⟨#[50]⟩))⟩]) (.ret)) (.seq (.region [⟨(some 26), none, .binOp .eql 48 (.tmp 6) (.const (.int .i64 3)) 48⟩, ⟨(some 25), none, .assign (.tmp 26)⟩]) (.cond (.tmp 25) (.seq (.region [⟨(some 27), none, .move (.tmp 0)⟩, ⟨(some 28), none, .nilCheck (.tmp 27)⟩, ⟨(some 29), none, .fieldAddr 44 (.tmp 28) 0⟩, ⟨(some 30), none, .fieldAddr 24 (.tmp 29) 4⟩, ⟨(some 4), none, .assign (.tmp 30)⟩, ⟨(some 5), none, .assign (.const (.string ⟨#[49]⟩))⟩]) (.ret)) (.skip))))))))))) (.seq (.region [⟨(some 4), none, .assign (.const (.pointer none))⟩, ⟨(some 5), none, .assign (.const (.string ⟨#[49]⟩))⟩]) (.ret)))
noncomputable def l_ops_step_num : List (Nat × Con) := []
noncomputable abbrev K_ops_step_num : Ctx := ctx (cl l_ops_step_num)
theorem geq_ops_step_num : gof K_ops_step_num Try.f30 = some G_ops_step_num.strip := by kernel_rfl
theorem sys_ops_step_num : Go.Eng.Sys Try.prog K_ops_step_num := sys_of' (l := []) trivial
theorem hm_ops_step_num : ConMono K_ops_step_num := conMono_of sys_ops_step_num.con
def m_ops_step_num : List Bool := [true, false]
def F_ops_step_num (xs : List AV) (s : Store) (Q : AV → Store → Prop) : Prop :=
  ∃ f : Int, 0 ≤ f ∧ ((∃ g : Nat, xs = [.ptr g 0, .t (.int .i64 f)] ∧ Q (numR (.ptr g (offN f)) f) s) ∨ (∃ x : TStep, xs = [.imm (stT x), .t (.int .i64 f)] ∧ Q (numR (.imm ((stT x).drop (offN f))) f) s))
theorem mono_ops_step_num (xs : List AV) (s : Store) (Q Q' : AV → Store → Prop) (hq : ∀ r t, Q r t → Q' r t) : F_ops_step_num xs s Q → F_ops_step_num xs s Q' :=
  fun ⟨f, h0, h⟩ => ⟨f, h0, h.imp (fun ⟨g, a, b⟩ => ⟨g, a, hq _ _ b⟩) fun ⟨x, a, b⟩ => ⟨x, a, hq _ _ b⟩⟩
theorem ex_ops_step_num (xs : List AV) (s : Store) (Q : AV → Store → Prop) : F_ops_step_num xs s Q → ∃ r t, Q r t := fun ⟨_, _, h⟩ => h.elim (fun ⟨_, _, b⟩ => ⟨_, _, b⟩) fun ⟨_, _, b⟩ => ⟨_, _, b⟩
set_option maxRecDepth 10000 in
theorem body_ops_step_num (xs : List AV) (s : Store) (Q : AV → Store → Prop) (h : F_ops_step_num xs s Q) : xs.length ≤ 31 ∧ avp K_ops_step_num G_ops_step_num (Ret K_ops_step_num [.tmp 4, .tmp 5] fun r s' => ∃ s'', Sub s'' s' ∧ Q r s'') (entry xs s) := by
  obtain ⟨f, h0, ⟨g, rfl, hq⟩ | ⟨x, rfl, hq⟩⟩ := h
  · refine ⟨by simp, ?_⟩
    unfold numR fm offN at hq
    by_cases h3 : f ≤ 3
    · have : f = 0 ∨ f = 1 ∨ f = 2 ∨ f = 3 := by omega
      rcases this with rfl | rfl | rfl | rfl
      all_goals
        unfold G_ops_step_num
        simp only [vR.down, vr20.down, vr40.down, vr50.down, vr60.down, vr70.down, vr80.down, vr90.down, vr100.down, vr110.down, vr120.down, vr130.down, vS.down, vE.down, List.drop_succ_cons, List.drop_zero, List.take_succ_cons, List.take_zero, Nat.zero_add, Nat.reduceEqDiff, Nat.reduceAdd, Nat.reduceSub, Nat.reduceMul, Nat.reduceLeDiff, Nat.reduceLT, ne_eq, not_false_eq_true, not_true_eq_false, Int.reduceToNat, reduceIte, reduceCtorEq, true_and, and_true, implies_true, forall_const, List.map_cons, List.map_nil, Option.map_some, Option.map_none, Option.bind_some, Option.bind_some, List.append_nil, List.nil_append, List.length_cons, List.length_nil, List.getD_cons_zero, List.headD_cons, List.getD_cons_succ, Bool.false_eq_true, Nat.zero_lt_succ, vr30.down, Option.toList_some, Option.toList_none, List.cons_append, getD_byt, Int.toNat_natCast, decide_eq_true_eq, decide_eq_false_iff_not, Bool.not_eq_true', Bool.not_eq_false', Bool.and_eq_true, Bool.or_eq_true, Bool.or_eq_false_iff, Bool.and_eq_false_imp, Decidable.not_not, List.length_map, beq_true, beq_false, imp_self, and_self, Option.isSome_some, List.toList_toArray, decide_true, decide_false, Bool.and_true, Bool.true_and, Bool.and_false, Bool.false_and, Bool.or_true, Bool.true_or, Bool.or_false, Bool.false_or, Bool.not_true, Bool.not_false, Int.reduceEq, Int.reduceLT, Int.reduceLE, Int.cast_ofNat_Int, eq_self, Nat.reduceLeDiff, Nat.le_refl, Bool.not_not, ↓avp_condG, condG_bool, ↓tf_arrow, ↓ft_arrow, false_implies]
        simp only [vR.down, vr20.down, vr40.down, vr50.down, vr60.down, vr70.down, vr80.down, vr90.down, vr100.down, vr110.down, vr120.down, vr130.down, vS.down, vE.down, List.drop_succ_cons, List.drop_zero, List.take_succ_cons, List.take_zero, Nat.zero_add, Nat.reduceEqDiff, Nat.reduceAdd, Nat.reduceSub, Nat.reduceMul, Nat.reduceLeDiff, Nat.reduceLT, ne_eq, not_false_eq_true, not_true_eq_false, Int.reduceToNat, reduceIte, reduceCtorEq, true_and, and_true, implies_true, forall_const, List.map_cons, List.map_nil, Option.map_some, Option.map_none, Option.bind_some, Option.bind_some, List.append_nil, List.nil_append, List.length_cons, List.length_nil, List.getD_cons_zero, List.headD_cons, List.getD_cons_succ, Bool.false_eq_true, Nat.zero_lt_succ, vr30.down, Option.toList_some, Option.toList_none, List.cons_append, getD_byt, Int.toNat_natCast, decide_eq_true_eq, decide_eq_false_iff_not, Bool.not_eq_true', Bool.not_eq_false', Bool.and_eq_true, Bool.or_eq_true, Bool.or_eq_false_iff, Bool.and_eq_false_imp, Decidable.not_not, List.length_map, beq_true, beq_false, imp_self, and_self, Option.isSome_some, List.toList_toArray, decide_true, decide_false, Bool.and_true, Bool.true_and, Bool.and_false, Bool.false_and, Bool.or_true, Bool.true_or, Bool.or_false, Bool.false_or, Bool.not_true, Bool.not_false, Int.reduceEq, Int.reduceLT, Int.reduceLE, Int.cast_ofNat_Int, eq_self, Nat.reduceLeDiff, Nat.le_refl, Bool.not_not, ↓avp_condG, condG_bool, ↓tf_arrow, ↓ft_arrow, vT.down]
        exact ⟨s, fun _ _ h => h, hq⟩
    · have a0 : ¬ f = 0 := by omega
      have a1 : ¬ f = 1 := by omega
      have a2 : ¬ f = 2 := by omega
      have a3 : ¬ f = 3 := by omega
      rw [if_neg h3, if_neg (by omega)] at hq
      unfold G_ops_step_num
      simp only [vR.down, vr20.down, vr40.down, vr50.down, vr60.down, vr70.down, vr80.down, vr90.down, vr100.down, vr110.down, vr120.down, vr130.down, vS.down, vE.down, List.drop_succ_cons, List.drop_zero, List.take_succ_cons, List.take_zero, Nat.zero_add, Nat.reduceEqDiff, Nat.reduceAdd, Nat.reduceSub, Nat.reduceMul, Nat.reduceLeDiff, Nat.reduceLT, ne_eq, not_false_eq_true, not_true_eq_false, Int.reduceToNat, reduceIte, reduceCtorEq, true_and, and_true, implies_true, forall_const, List.map_cons, List.map_nil, Option.map_some, Option.map_none, Option.bind_some, Option.bind_some, List.append_nil, List.nil_append, List.length_cons, List.length_nil, List.getD_cons_zero, List.headD_cons, List.getD_cons_succ, Bool.false_eq_true, Nat.zero_lt_succ, vr30.down, Option.toList_some, Option.toList_none, List.cons_append, getD_byt, Int.toNat_natCast, decide_eq_true_eq, decide_eq_false_iff_not, Bool.not_eq_true', Bool.not_eq_false', Bool.and_eq_true, Bool.or_eq_true, Bool.or_eq_false_iff, Bool.and_eq_false_imp, Decidable.not_not, List.length_map, beq_true, beq_false, imp_self, and_self, Option.isSome_some, List.toList_toArray, decide_true, decide_false, Bool.and_true, Bool.true_and, Bool.and_false, Bool.false_and, Bool.or_true, Bool.true_or, Bool.or_false, Bool.false_or, Bool.not_true, Bool.not_false, Int.reduceEq, Int.reduceLT, Int.reduceLE, Int.cast_ofNat_Int, eq_self, Nat.reduceLeDiff, Nat.le_refl, Bool.not_not, ↓avp_condG, condG_bool, ↓tf_arrow, ↓ft_arrow, a0, a1, a2, a3, false_implies]
      simp only [vR.down, vr20.down, vr40.down, vr50.down, vr60.down, vr70.down, vr80.down, vr90.down, vr100.down, vr110.down, vr120.down, vr130.down, vS.down, vE.down, List.drop_succ_cons, List.drop_zero, List.take_succ_cons, List.take_zero, Nat.zero_add, Nat.reduceEqDiff, Nat.reduceAdd, Nat.reduceSub, Nat.reduceMul, Nat.reduceLeDiff, Nat.reduceLT, ne_eq, not_false_eq_true, not_true_eq_false, Int.reduceToNat, reduceIte, reduceCtorEq, true_and, and_true, implies_true, forall_const, List.map_cons, List.map_nil, Option.map_some, Option.map_none, Option.bind_some, Option.bind_some, List.append_nil, List.nil_append, List.length_cons, List.length_nil, List.getD_cons_zero, List.headD_cons, List.getD_cons_succ, Bool.false_eq_true, Nat.zero_lt_succ, vr30.down, Option.toList_some, Option.toList_none, List.cons_append, getD_byt, Int.toNat_natCast, decide_eq_true_eq, decide_eq_false_iff_not, Bool.not_eq_true', Bool.not_eq_false', Bool.and_eq_true, Bool.or_eq_true, Bool.or_eq_false_iff, Bool.and_eq_false_imp, Decidable.not_not, List.length_map, beq_true, beq_false, imp_self, and_self, Option.isSome_some, List.toList_toArray, decide_true, decide_false, Bool.and_true, Bool.true_and, Bool.and_false, Bool.false_and, Bool.or_true, Bool.true_or, Bool.or_false, Bool.false_or, Bool.not_true, Bool.not_false, Int.reduceEq, Int.reduceLT, Int.reduceLE, Int.cast_ofNat_Int, eq_self, Nat.reduceLeDiff, Nat.le_refl, Bool.not_not, ↓avp_condG, condG_bool, ↓tf_arrow, ↓ft_arrow, vT.down]
      exact ⟨s, fun _ _ h => h, hq⟩
  · refine ⟨by simp, ?_⟩
    unfold numR fm offN stT at hq
    unfold stT
    by_cases h3 : f ≤ 3
    · have : f = 0 ∨ f = 1 ∨ f = 2 ∨ f = 3 := by omega
      rcases this with rfl | rfl | rfl | rfl
      all_goals
        unfold G_ops_step_num
        simp only [vR.down, vr20.down, vr40.down, vr50.down, vr60.down, vr70.down, vr80.down, vr90.down, vr100.down, vr110.down, vr120.down, vr130.down, vS.down, vE.down, List.drop_succ_cons, List.drop_zero, List.take_succ_cons, List.take_zero, Nat.zero_add, Nat.reduceEqDiff, Nat.reduceAdd, Nat.reduceSub, Nat.reduceMul, Nat.reduceLeDiff, Nat.reduceLT, ne_eq, not_false_eq_true, not_true_eq_false, Int.reduceToNat, reduceIte, reduceCtorEq, true_and, and_true, implies_true, forall_const, List.map_cons, List.map_nil, Option.map_some, Option.map_none, Option.bind_some, Option.bind_some, List.append_nil, List.nil_append, List.length_cons, List.length_nil, List.getD_cons_zero, List.headD_cons, List.getD_cons_succ, Bool.false_eq_true, Nat.zero_lt_succ, vr30.down, Option.toList_some, Option.toList_none, List.cons_append, getD_byt, Int.toNat_natCast, decide_eq_true_eq, decide_eq_false_iff_not, Bool.not_eq_true', Bool.not_eq_false', Bool.and_eq_true, Bool.or_eq_true, Bool.or_eq_false_iff, Bool.and_eq_false_imp, Decidable.not_not, List.length_map, beq_true, beq_false, imp_self, and_self, Option.isSome_some, List.toList_toArray, decide_true, decide_false, Bool.and_true, Bool.true_and, Bool.and_false, Bool.false_and, Bool.or_true, Bool.true_or, Bool.or_false, Bool.false_or, Bool.not_true, Bool.not_false, Int.reduceEq, Int.reduceLT, Int.reduceLE, Int.cast_ofNat_Int, eq_self, Nat.reduceLeDiff, Nat.le_refl, Bool.not_not, ↓avp_condG, condG_bool, ↓tf_arrow, ↓ft_arrow, false_implies]
        simp only [vR.down, vr20.down, vr40.down, vr50.down, vr60.down, vr70.down, vr80.down, vr90.down, vr100.down, vr110.down, vr120.down, vr130.down, vS.down, vE.down, List.drop_succ_cons, List.drop_zero, List.take_succ_cons, List.take_zero, Nat.zero_add, Nat.reduceEqDiff, Nat.reduceAdd, Nat.reduceSub, Nat.reduceMul, Nat.reduceLeDiff, Nat.reduceLT, ne_eq, not_false_eq_true, not_true_eq_false, Int.reduceToNat, reduceIte, reduceCtorEq, true_and, and_true, implies_true, forall_const, List.map_cons, List.map_nil, Option.map_some, Option.map_none, Option.bind_some, Option.bind_some, List.append_nil, List.nil_append, List.length_cons, List.length_nil, List.getD_cons_zero, List.headD_cons, List.getD_cons_succ, Bool.false_eq_true, Nat.zero_lt_succ, vr30.down, Option.toList_some, Option.toList_none, List.cons_append, getD_byt, Int.toNat_natCast, decide_eq_true_eq, decide_eq_false_iff_not, Bool.not_eq_true', Bool.not_eq_false', Bool.and_eq_true, Bool.or_eq_true, Bool.or_eq_false_iff, Bool.and_eq_false_imp, Decidable.not_not, List.length_map, beq_true, beq_false, imp_self, and_self, Option.isSome_some, List.toList_toArray, decide_true, decide_false, Bool.and_true, Bool.true_and, Bool.and_false, Bool.false_and, Bool.or_true, Bool.true_or, Bool.or_false, Bool.false_or, Bool.not_true, Bool.not_false, Int.reduceEq, Int.reduceLT, Int.reduceLE, Int.cast_ofNat_Int, eq_self, Nat.reduceLeDiff, Nat.le_refl, Bool.not_not, ↓avp_condG, condG_bool, ↓tf_arrow, ↓ft_arrow, vT.down]
        exact ⟨s, fun _ _ h => h, hq⟩
    · have a0 : ¬ f = 0 := by omega
      have a1 : ¬ f = 1 := by omega
      have a2 : ¬ f = 2 := by omega
      have a3 : ¬ f = 3 := by omega
      rw [if_neg h3, if_neg (by omega)] at hq
      unfold G_ops_step_num
      simp only [vR.down, vr20.down, vr40.down, vr50.down, vr60.down, vr70.down, vr80.down, vr90.down, vr100.down, vr110.down, vr120.down, vr130.down, vS.down, vE.down, List.drop_succ_cons, List.drop_zero, List.take_succ_cons, List.take_zero, Nat.zero_add, Nat.reduceEqDiff, Nat.reduceAdd, Nat.reduceSub, Nat.reduceMul, Nat.reduceLeDiff, Nat.reduceLT, ne_eq, not_false_eq_true, not_true_eq_false, Int.reduceToNat, reduceIte, reduceCtorEq, true_and, and_true, implies_true, forall_const, List.map_cons, List.map_nil, Option.map_some, Option.map_none, Option.bind_some, Option.bind_some, List.append_nil, List.nil_append, List.length_cons, List.length_nil, List.getD_cons_zero, List.headD_cons, List.getD_cons_succ, Bool.false_eq_true, Nat.zero_lt_succ, vr30.down, Option.toList_some, Option.toList_none, List.cons_append, getD_byt, Int.toNat_natCast, decide_eq_true_eq, decide_eq_false_iff_not, Bool.not_eq_true', Bool.not_eq_false', Bool.and_eq_true, Bool.or_eq_true, Bool.or_eq_false_iff, Bool.and_eq_false_imp, Decidable.not_not, List.length_map, beq_true, beq_false, imp_self, and_self, Option.isSome_some, List.toList_toArray, decide_true, decide_false, Bool.and_true, Bool.true_and, Bool.and_false, Bool.false_and, Bool.or_true, Bool.true_or, Bool.or_false, Bool.false_or, Bool.not_true, Bool.not_false, Int.reduceEq, Int.reduceLT, Int.reduceLE, Int.cast_ofNat_Int, eq_self, Nat.reduceLeDiff, Nat.le_refl, Bool.not_not, ↓avp_condG, condG_bool, ↓tf_arrow, ↓ft_arrow, a0, a1, a2, a3, false_implies]
      simp only [vR.down, vr20.down, vr40.down, vr50.down, vr60.down, vr70.down, vr80.down, vr90.down, vr100.down, vr110.down, vr120.down, vr130.down, vS.down, vE.down, List.drop_succ_cons, List.drop_zero, List.take_succ_cons, List.take_zero, Nat.zero_add, Nat.reduceEqDiff, Nat.reduceAdd, Nat.reduceSub, Nat.reduceMul, Nat.reduceLeDiff, Nat.reduceLT, ne_eq, not_false_eq_true, not_true_eq_false, Int.reduceToNat, reduceIte, reduceCtorEq, true_and, and_true, implies_true, forall_const, List.map_cons, List.map_nil, Option.map_some, Option.map_none, Option.bind_some, Option.bind_some, List.append_nil, List.nil_append, List.length_cons, List.length_nil, List.getD_cons_zero, List.headD_cons, List.getD_cons_succ, Bool.false_eq_true, Nat.zero_lt_succ, vr30.down, Option.toList_some, Option.toList_none, List.cons_append, getD_byt, Int.toNat_natCast, decide_eq_true_eq, decide_eq_false_iff_not, Bool.not_eq_true', Bool.not_eq_false', Bool.and_eq_true, Bool.or_eq_true, Bool.or_eq_false_iff, Bool.and_eq_false_imp, Decidable.not_not, List.length_map, beq_true, beq_false, imp_self, and_self, Option.isSome_some, List.toList_toArray, decide_true, decide_false, Bool.and_true, Bool.true_and, Bool.and_false, Bool.false_and, Bool.or_true, Bool.true_or, Bool.or_false, Bool.false_or, Bool.not_true, Bool.not_false, Int.reduceEq, Int.reduceLT, Int.reduceLE, Int.cast_ofNat_Int, eq_self, Nat.reduceLeDiff, Nat.le_refl, Bool.not_not, ↓avp_condG, condG_bool, ↓tf_arrow, ↓ft_arrow, vT.down]
      exact ⟨s, fun _ _ h => h, hq⟩
noncomputable def c_ops_step_num : Con := .gen m_ops_step_num F_ops_step_num
theorem ok_ops_step_num : COk Try.prog 30 c_ops_step_num := fn_gok sys_ops_step_num mixed Try.func30 (by kernel_rfl) geq_ops_step_num Try.ntmps30 (by rw [Try.results30]) mono_ops_step_num ex_ops_step_num body_ops_step_num

def G_ops_step_text : GCode := .seq (.region [⟨(some 4), none, .assign (.const (.pointer none))⟩]) (.seq (.seq (.region [⟨(some 5), none, .move (.tmp 1)⟩]) (.block 0 (.seq (.region [⟨(some 7), none, .binOp .eql 48 (.tmp 5) (.const (.int .i64 4)) 48⟩, ⟨(some 6), none, .assign (.tmp 7)⟩]) (.cond (.tmp 6) (.seq (.region [⟨(some 8), none, .move (.tmp 0)⟩, ⟨(some 9), none, .nilCheck (.tmp 8)⟩, ⟨(some 10), none, .fieldAddr 44 (.tmp 9) 0⟩, ⟨(some 11), none, .fieldAddr 24 (.tmp 10) 5⟩, ⟨(some 4), none, .assign (.tmp 11)⟩]) (.ret)) (.seq (.region [⟨(some 13), none, .binOp .eql 48 (.tmp 5) (.const (.int .i64 5)) 48⟩, ⟨(some 12), none, .assign (.tmp 13)⟩]) (.cond (.tmp 12) (.seq (.region [⟨(some 14), none, .move (.tmp 0)⟩, ⟨(some 15), none, .nilCheck (.tmp 14)⟩, ⟨(some 16), none, .fieldAddr 44 (.tmp 15) 0⟩, ⟨(some 17), none, .fieldAddr 24 (.tmp 16) 6⟩, ⟨(some 4), none, .assign (.tmp 17)⟩]) (.ret)) (.skip))))))) (.seq (.region [⟨(some 18), none, .move (.tmp 0)⟩, ⟨(some 19), none, .nilCheck (.tmp 18)⟩, ⟨(some 20), none, .fieldAddr 44 (.tmp 19) 0⟩, ⟨(some 21), none, .fieldAddr 24 (.tmp 20) 7⟩, ⟨(some 4), none, .assign (.tmp 21)⟩]) (.ret)))
noncomputable def l_ops_step_text : List (Nat × Con) := []
noncomputable abbrev K_ops_step_text : Ctx := ctx (cl l_ops_step_text)
theorem geq_ops_step_text : gof K_ops_step_text Try.f31 = some G_ops_step_text.strip := by kernel_rfl
theorem sys_ops_step_text : Go.Eng.Sys Try.prog K_ops_step_text := sys_of' (l := []) trivial
theorem hm_ops_step_text : ConMono K_ops_step_text := conMono_of sys_ops_step_text.con
def m_ops_step_text : List Bool := [true, false]
def F_ops_step_text (xs : List AV) (s : Store) (Q : AV → Store → Prop) : Prop :=
  ∃ f : Int, 4 ≤ f ∧ f ≤ 6 ∧ ((∃ g : Nat, xs = [.ptr g 0, .t (.int .i64 f)] ∧ Q (.ptr g (offX f)) s) ∨ (∃ x : TStep, xs = [.imm (stT x), .t (.int .i64 f)] ∧ Q (.imm ((stT x).drop (offX f))) s))
theorem mono_ops_step_text (xs : List AV) (s : Store) (Q Q' : AV → Store → Prop) (hq : ∀ r t, Q r t → Q' r t) : F_ops_step_text xs s Q → F_ops_step_text xs s Q' :=
  fun ⟨f, h0, h1, h⟩ => ⟨f, h0, h1, h.imp (fun ⟨g, a, b⟩ => ⟨g, a, hq _ _ b⟩) fun ⟨x, a, b⟩ => ⟨x, a, hq _ _ b⟩⟩
theorem ex_ops_step_text (xs : List AV) (s : Store) (Q : AV → Store → Prop) : F_ops_step_text xs s Q → ∃ r t, Q r t := fun ⟨_, _, _, h⟩ => h.elim (fun ⟨_, _, b⟩ => ⟨_, _, b⟩) fun ⟨_, _, b⟩ => ⟨_, _, b⟩
set_option maxRecDepth 10000 in
theorem body_ops_step_text (xs : List AV) (s : Store) (Q : AV → Store → Prop) (h : F_ops_step_text xs s Q) : xs.length ≤ 22 ∧ avp K_ops_step_text G_ops_step_text (Ret K_ops_step_text [.tmp 4] fun r s' => ∃ s'', Sub s'' s' ∧ Q r s'') (entry xs s) := by
  obtain ⟨f, h0, h1, h⟩ := h
  have : f = 4 ∨ f = 5 ∨ f = 6 := by omega
  rcases h with ⟨g, rfl, hq⟩ | ⟨x, rfl, hq⟩
  · refine ⟨by simp, ?_⟩
    rcases this with rfl | rfl | rfl
    all_goals
      unfold G_ops_step_text
      simp only [vR.down, vr20.down, vr40.down, vr50.down, vr60.down, vr70.down, vr80.down, vr90.down, vr100.down, vr110.down, vr120.down, vr130.down, vS.down, vE.down, List.drop_succ_cons, List.drop_zero, List.take_succ_cons, List.take_zero, Nat.zero_add, Nat.reduceEqDiff, Nat.reduceAdd, Nat.reduceSub, Nat.reduceMul, Nat.reduceLeDiff, Nat.reduceLT, ne_eq, not_false_eq_true, not_true_eq_false, Int.reduceToNat, reduceIte, reduceCtorEq, true_and, and_true, implies_true, forall_const, List.map_cons, List.map_nil, Option.map_some, Option.map_none, Option.bind_some, Option.bind_some, List.append_nil, List.nil_append, List.length_cons, List.length_nil, List.getD_cons_zero, List.headD_cons, List.getD_cons_succ, Bool.false_eq_true, Nat.zero_lt_succ, vr30.down, Option.toList_some, Option.toList_none, List.cons_append, getD_byt, Int.toNat_natCast, decide_eq_true_eq, decide_eq_false_iff_not, Bool.not_eq_true', Bool.not_eq_false', Bool.and_eq_true, Bool.or_eq_true, Bool.or_eq_false_iff, Bool.and_eq_false_imp, Decidable.not_not, List.length_map, beq_true, beq_false, imp_self, and_self, Option.isSome_some, List.toList_toArray, decide_true, decide_false, Bool.and_true, Bool.true_and, Bool.and_false, Bool.false_and, Bool.or_true, Bool.true_or, Bool.or_false, Bool.false_or, Bool.not_true, Bool.not_false, Int.reduceEq, Int.reduceLT, Int.reduceLE, Int.cast_ofNat_Int, eq_self, Nat.reduceLeDiff, Nat.le_refl, Bool.not_not, ↓avp_condG, condG_bool, ↓tf_arrow, ↓ft_arrow, false_implies]
      simp only [vR.down, vr20.down, vr40.down, vr50.down, vr60.down, vr70.down, vr80.down, vr90.down, vr100.down, vr110.down, vr120.down, vr130.down, vS.down, vE.down, List.drop_succ_cons, List.drop_zero, List.take_succ_cons, List.take_zero, Nat.zero_add, Nat.reduceEqDiff, Nat.reduceAdd, Nat.reduceSub, Nat.reduceMul, Nat.reduceLeDiff, Nat.reduceLT, ne_eq, not_false_eq_true, not_true_eq_false, Int.reduceToNat, reduceIte, reduceCtorEq, true_and, and_true, implies_true, forall_const, List.map_cons, List.map_nil, Option.map_some, Option.map_none, Option.bind_some, Option.bind_some, List.append_nil, List.nil_append, List.length_cons, List.length_nil, List.getD_cons_zero, List.headD_cons, List.getD_cons_succ, Bool.false_eq_true, Nat.zero_lt_succ, vr30.down, Option.toList_some, Option.toList_none, List.cons_append, getD_byt, Int.toNat_natCast, decide_eq_true_eq, decide_eq_false_iff_not, Bool.not_eq_true', Bool.not_eq_false', Bool.and_eq_true, Bool.or_eq_true, Bool.or_eq_false_iff, Bool.and_eq_false_imp, Decidable.not_not, List.length_map, beq_true, beq_false, imp_self, and_self, Option.isSome_some, List.toList_toArray, decide_true, decide_false, Bool.and_true, Bool.true_and, Bool.and_false, Bool.false_and, Bool.or_true, Bool.true_or, Bool.or_false, Bool.false_or, Bool.not_true, Bool.not_false, Int.reduceEq, Int.reduceLT, Int.reduceLE, Int.cast_ofNat_Int, eq_self, Nat.reduceLeDiff, Nat.le_refl, Bool.not_not, ↓avp_condG, condG_bool, ↓tf_arrow, ↓ft_arrow, vT.down]
      exact ⟨s, fun _ _ h => h, hq⟩
  · refine ⟨by simp, ?_⟩
    unfold stT at hq ⊢
    rcases this with rfl | rfl | rfl
    all_goals
      unfold G_ops_step_text
      simp only [vR.down, vr20.down, vr40.down, vr50.down, vr60.down, vr70.down, vr80.down, vr90.down, vr100.down, vr110.down, vr120.down, vr130.down, vS.down, vE.down, List.drop_succ_cons, List.drop_zero, List.take_succ_cons, List.take_zero, Nat.zero_add, Nat.reduceEqDiff, Nat.reduceAdd, Nat.reduceSub, Nat.reduceMul, Nat.reduceLeDiff, Nat.reduceLT, ne_eq, not_false_eq_true, not_true_eq_false, Int.reduceToNat, reduceIte, reduceCtorEq, true_and, and_true, implies_true, forall_const, List.map_cons, List.map_nil, Option.map_some, Option.map_none, Option.bind_some, Option.bind_some, List.append_nil, List.nil_append, List.length_cons, List.length_nil, List.getD_cons_zero, List.headD_cons, List.getD_cons_succ, Bool.false_eq_true, Nat.zero_lt_succ, vr30.down, Option.toList_some, Option.toList_none, List.cons_append, getD_byt, Int.toNat_natCast, decide_eq_true_eq, decide_eq_false_iff_not, Bool.not_eq_true', Bool.not_eq_false', Bool.and_eq_true, Bool.or_eq_true, Bool.or_eq_false_iff, Bool.and_eq_false_imp, Decidable.not_not, List.length_map, beq_true, beq_false, imp_self, and_self, Option.isSome_some, List.toList_toArray, decide_true, decide_false, Bool.and_true, Bool.true_and, Bool.and_false, Bool.false_and, Bool.or_true, Bool.true_or, Bool.or_false, Bool.false_or, Bool.not_true, Bool.not_false, Int.reduceEq, Int.reduceLT, Int.reduceLE, Int.cast_ofNat_Int, eq_self, Nat.reduceLeDiff, Nat.le_refl, Bool.not_not, ↓avp_condG, condG_bool, ↓tf_arrow, ↓ft_arrow, false_implies]
      simp only [vR.down, vr20.down, vr40.down, vr50.down, vr60.down, vr70.down, vr80.down, vr90.down, vr100.down, vr110.down, vr120.down, vr130.down, vS.down, vE.down, List.drop_succ_cons, List.drop_zero, List.take_succ_cons, List.take_zero, Nat.zero_add, Nat.reduceEqDiff, Nat.reduceAdd, Nat.reduceSub, Nat.reduceMul, Nat.reduceLeDiff, Nat.reduceLT, ne_eq, not_false_eq_true, not_true_eq_false, Int.reduceToNat, reduceIte, reduceCtorEq, true_and, and_true, implies_true, forall_const, List.map_cons, List.map_nil, Option.map_some, Option.map_none, Option.bind_some, Option.bind_some, List.append_nil, List.nil_append, List.length_cons, List.length_nil, List.getD_cons_zero, List.headD_cons, List.getD_cons_succ, Bool.false_eq_true, Nat.zero_lt_succ, vr30.down, Option.toList_some, Option.toList_none, List.cons_append, getD_byt, Int.toNat_natCast, decide_eq_true_eq, decide_eq_false_iff_not, Bool.not_eq_true', Bool.not_eq_false', Bool.and_eq_true, Bool.or_eq_true, Bool.or_eq_false_iff, Bool.and_eq_false_imp, Decidable.not_not, List.length_map, beq_true, beq_false, imp_self, and_self, Option.isSome_some, List.toList_toArray, decide_true, decide_false, Bool.and_true, Bool.true_and, Bool.and_false, Bool.false_and, Bool.or_true, Bool.true_or, Bool.or_false, Bool.false_or, Bool.not_true, Bool.not_false, Int.reduceEq, Int.reduceLT, Int.reduceLE, Int.cast_ofNat_Int, eq_self, Nat.reduceLeDiff, Nat.le_refl, Bool.not_not, ↓avp_condG, condG_bool, ↓tf_arrow, ↓ft_arrow, vT.down]
      exact ⟨s, fun _ _ h => h, hq⟩
noncomputable def c_ops_step_text : Con := .gen m_ops_step_text F_ops_step_text
theorem ok_ops_step_text : COk Try.prog 31 c_ops_step_text := fn_gok sys_ops_step_text mixed Try.func31 (by kernel_rfl) geq_ops_step_text Try.ntmps31 (by rw [Try.results31]) mono_ops_step_text ex_ops_step_text body_ops_step_text
end Go.Proofs.Ythhgaeeeppipnaa

