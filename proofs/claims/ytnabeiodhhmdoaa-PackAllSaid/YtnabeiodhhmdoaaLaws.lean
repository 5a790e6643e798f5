/-
  What numbers' bytes are: the plain laws.
-/
import Derived.Test.YtnabeiodhhmdoaaFns
set_option linter.unusedSimpArgs false
set_option linter.unusedVariables false
namespace Go.Proofs.Ytnabeiodhhmdoaa
open Go Go.Eng

theorem num_be : ∀ (k : Nat) (n : Int), num (be k n) = n % 256 ^ k
  | 0, n => by simp [be, num, Int.emod_one]
  | k + 1, n => by
    rw [be, num_snoc, num_be k, byt_nat]
    have hp : (0 : Int) < 256 ^ k := Int.pow_pos (by decide)
    have h1 := Int.mul_ediv_add_emod n 256
    have h2 := Int.mul_ediv_add_emod (n / 256) (256 ^ k)
    have h3 := Int.emod_nonneg (n / 256) (Int.ne_of_gt hp)
    have h4 := Int.emod_lt_of_pos (n / 256) hp
    have h5 := Int.emod_nonneg n (show (256 : Int) ≠ 0 by decide)
    have h6 := Int.emod_lt_of_pos n (show (0 : Int) < 256 by decide)
    have e : n = (n / 256 % 256 ^ k * 256 + n % 256) + 256 ^ (k + 1) * (n / 256 / 256 ^ k) := by
      rw [Int.pow_succ, Int.mul_assoc, Int.mul_comm (256 ^ k), Int.mul_assoc, Int.mul_comm (n / 256 / 256 ^ k)]
      omega
    have hlt : n / 256 % 256 ^ k * 256 + n % 256 < 256 ^ (k + 1) := by rw [Int.pow_succ]; omega
    conv => rhs; rw [e]
    rw [Int.add_mul_emod_self_left, Int.emod_eq_of_lt (by omega) hlt]

theorem num_cons (c : UInt8) (r : List UInt8) : num (c :: r) = (c.toNat : Int) * 256 ^ r.length + num r := by
  have key : ∀ (r : List UInt8) (v : Int), r.foldl (fun v c => v * 256 + (c.toNat : Int)) v = v * 256 ^ r.length + num r := by
    intro r
    induction r with
    | nil => intro v; simp [num]
    | cons d t ih =>
      intro v
      have h2 := ih (d.toNat : Int)
      have h3 : num (d :: t) = t.foldl (fun v c => v * 256 + (c.toNat : Int)) (0 * 256 + (d.toNat : Int)) := rfl
      rw [Int.zero_mul, Int.zero_add, h2] at h3
      rw [List.foldl_cons, ih, h3, List.length_cons, Int.pow_succ, Int.add_mul, Int.add_assoc, Int.mul_assoc, Int.mul_comm 256]
  have := key r (c.toNat : Int)
  rw [← this]
  change r.foldl _ (0 * 256 + (c.toNat : Int)) = _
  rw [Int.zero_mul, Int.zero_add]

theorem less_num : ∀ (a b : List UInt8), a.length = b.length → Op.bytesLess a b = decide (num a < num b)
  | [], [], _ => by simp [Op.bytesLess, num]
  | a :: x, b :: y, h => by
    have h' : x.length = y.length := by simpa using h
    have ih := less_num x y h'
    have hx := num_bd _ x rfl
    have hy := num_bd _ y rfl
    rw [num_cons, num_cons, h', Op.bytesLess, ih, Bool.eq_iff_iff]
    rw [h'] at hx
    simp only [Bool.or_eq_true, Bool.and_eq_true, decide_eq_true_eq, beq_iff_eq]
    have hab : a < b ↔ (a.toNat : Int) < (b.toNat : Int) := by rw [UInt8.lt_iff_toNat_lt]; omega
    have hab' : a = b ↔ (a.toNat : Int) = (b.toNat : Int) := by rw [← UInt8.toNat_inj]; omega
    rw [hab, hab']
    generalize (a.toNat : Int) = p
    generalize (b.toNat : Int) = q
    generalize num x = u at *
    generalize num y = v at *
    generalize (256 : Int) ^ y.length = m at *
    constructor
    · rintro (h1 | ⟨rfl, h2⟩)
      · have : (p + 1) * m ≤ q * m := Int.mul_le_mul_of_nonneg_right (by omega) (by omega)
        rw [Int.add_mul] at this
        omega
      · omega
    · intro h1
      rcases Int.lt_trichotomy p q with h2 | rfl | h2
      · exact .inl h2
      · exact .inr ⟨rfl, by omega⟩
      · have : (q + 1) * m ≤ p * m := Int.mul_le_mul_of_nonneg_right (by omega) (by omega)
        rw [Int.add_mul] at this
        omega
  | [], _ :: _, h => by simp at h
  | _ :: _, [], h => by simp at h

theorem num_inj : ∀ (a b : List UInt8), a.length = b.length → num a = num b → a = b
  | [], [], _, _ => rfl
  | a :: x, b :: y, h, hn => by
    have h' : x.length = y.length := by simpa using h
    have hx := num_bd _ x rfl
    have hy := num_bd _ y rfl
    rw [num_cons, num_cons, h'] at hn
    rw [h'] at hx
    have hab' : a = b ↔ (a.toNat : Int) = (b.toNat : Int) := by rw [← UInt8.toNat_inj]; omega
    have hpq : (a.toNat : Int) = (b.toNat : Int) := by
      revert hn
      generalize (a.toNat : Int) = p
      generalize (b.toNat : Int) = q
      generalize num x = u at *
      generalize num y = v at *
      generalize (256 : Int) ^ y.length = m at *
      intro hn
      rcases Int.lt_trichotomy p q with h2 | rfl | h2
      · have : (p + 1) * m ≤ q * m := Int.mul_le_mul_of_nonneg_right (by omega) (by omega)
        rw [Int.add_mul] at this
        omega
      · rfl
      · have : (q + 1) * m ≤ p * m := Int.mul_le_mul_of_nonneg_right (by omega) (by omega)
        rw [Int.add_mul] at this
        omega
    rw [hab'.2 hpq, num_inj x y h' (by rw [hpq] at hn; omega)]
  | [], _ :: _, h, _ => by simp at h
  | _ :: _, [], h, _ => by simp at h

theorem putF_one {c : UInt8} {k : Nat} {v : Int} (hk : dig c = (k : Int)) (h1 : 1 ≤ k) (h4 : k ≤ 4) : putF [c] [v] = be k v := by
  have hok : formOk [c] = true := by simp [formOk, digOk, hk]; omega
  simp [putF, hok, digs, flat, hk]

theorem takeOk_one {c : UInt8} {k : Nat} {s : List UInt8} (hk : dig c = (k : Int)) (h1 : 1 ≤ k) (h4 : k ≤ 4) (hs : s.length = k) : takeOk [c] s = true ∧ takeL [c] s = [num s] ∧ takeR [c] s = [] := by
  have hok : formOk [c] = true := by simp [formOk, digOk, hk]; omega
  have ht : takeOk [c] s = true := by simp [takeOk, hok, digs, hk]; omega
  refine ⟨ht, ?_, ?_⟩
  · simp [takeL, ht, digs, takeN, hk, ← hs]
  · simp [takeR, ht, digs, hk, ← hs]
end Go.Proofs.Ytnabeiodhhmdoaa


namespace Go.Proofs.Ytnabeiodhhmdoaa
open Go Go.Eng

theorem flat_cons (w n : Int) (ws l : List Int) : flat (w :: ws) (n :: l) = be w.toNat n ++ flat ws l := by simp [flat]

theorem flat_sum : ∀ (ws l : List Int), (∀ x ∈ ws, 0 ≤ x) → ws.length = l.length → ((flat ws l).length : Int) = ws.sum
  | [], [], _, _ => by simp [flat]
  | w :: ws, n :: l, h, hl => by
    have := flat_sum ws l (fun x hx => h x (by simp [hx])) (by simpa using hl)
    have hw : 0 ≤ w := h w (by simp)
    rw [flat_cons, List.length_append, be_len, List.sum_cons]
    omega
  | [], _ :: _, _, hl => by simp at hl
  | _ :: _, [], _, hl => by simp at hl

theorem take_flat : ∀ (ws l : List Int) (b : List UInt8), ws.length = l.length → takeN ws (flat ws l ++ b) = List.zipWith (fun w n => n % 256 ^ w.toNat) ws l
  | [], [], _, _ => by simp [takeN]
  | w :: ws, n :: l, b, hl => by
    have := take_flat ws l b (by simpa using hl)
    have e1 : (be w.toNat n ++ (flat ws l ++ b)).take w.toNat = be w.toNat n := List.take_left' (be_len _ _)
    have e2 : (be w.toNat n ++ (flat ws l ++ b)).drop w.toNat = flat ws l ++ b := List.drop_left' (be_len _ _)
    rw [flat_cons, List.append_assoc, takeN, e1, e2, this, num_be]
    rfl
  | [], _ :: _, _, hl => by simp at hl
  | _ :: _, [], _, hl => by simp at hl

theorem take_put {f : List UInt8} {l : List Int} (b : List UInt8) (hok : formOk f = true) (hl : f.length = l.length) :
    putF f l = flat (digs f) l ∧ ((putF f l).length : Int) = (digs f).sum ∧ takeOk f (putF f l ++ b) = true ∧ takeL f (putF f l ++ b) = List.zipWith (fun w n => n % 256 ^ w.toNat) (digs f) l ∧ takeR f (putF f l ++ b) = b := by
  have e : putF f l = flat (digs f) l := by rw [putF, if_pos ⟨hl, hok⟩]
  have hs := flat_sum (digs f) l (digs_nonneg hok) (by rw [digs_len]; exact hl)
  have ht : takeOk f (flat (digs f) l ++ b) = true := by
    unfold takeOk
    rw [hok, Bool.true_and, decide_eq_true_eq, List.length_append]
    omega
  rw [e]
  refine ⟨rfl, hs, ht, ?_, ?_⟩
  · rw [takeL, if_pos ht, take_flat _ _ _ (by rw [digs_len]; exact hl)]
  · rw [takeR, if_pos ht, List.drop_left' (by omega)]

theorem takeOk_less {f s : List UInt8} (h : (s.length : Int) < (digs f).sum) : takeOk f s = false := by
  unfold takeOk
  simp only [Bool.and_eq_false_imp, decide_eq_false_iff_not]
  intro _; omega

/-- The digit of a width. -/
def wN (w : UInt8) : Nat := 1 + w.toNat % 4
def dC (w : UInt8) : UInt8 := UInt8.ofNat (48 + wN w)

theorem wN_bd (w : UInt8) : 1 ≤ wN w ∧ wN w ≤ 4 := by unfold wN; omega
theorem dig_dC (w : UInt8) : dig (dC w) = (wN w : Int) := by
  have := wN_bd w
  unfold dig dC
  rw [UInt8.toNat_ofNat']
  omega
theorem dC_slice (w : UInt8) : (([49, 50, 51, 52] : List UInt8).take (wN w)).drop (wN w - 1) = [dC w] := by
  have := wN_bd w
  unfold dC
  rcases (by omega : wN w = 1 ∨ wN w = 2 ∨ wN w = 3 ∨ wN w = 4) with h | h | h | h <;> rw [h] <;> rfl
theorem formOk_dC (ws : List UInt8) : formOk (ws.map dC) = true := by
  unfold formOk
  rw [List.all_eq_true]
  intro c hc
  obtain ⟨w, _, rfl⟩ := List.mem_map.1 hc
  have := wN_bd w
  have := dig_dC w
  simp only [digOk, Bool.and_eq_true, decide_eq_true_eq]
  omega
theorem digs_dC (ws : List UInt8) : digs (ws.map dC) = ws.map fun w => (wN w : Int) := by
  simp only [digs, List.map_map]
  congr 1
  funext w
  exact dig_dC w
theorem wN_of (w : UInt8) : IntKind.i64.wrap (1 + IntKind.i64.wrap ((w.toNat : Int).tmod 4)) = (wN w : Int) := by
  have hw := w.toNat_lt
  have e : (w.toNat : Int).tmod 4 = (w.toNat : Int) % 4 := Int.tmod_eq_emod_of_nonneg (by omega)
  rw [e, IntWalk.i64_in ((w.toNat : Int) % 4) (by omega), IntWalk.i64_in _ (by omega)]
  unfold wN
  omega

theorem map_at {α β : Type} (f : α → β) (d : α) : ∀ (l : List α) (i : Nat), i < l.length → (l.map f).drop i = f (l.getD i d) :: (l.map f).drop (i + 1)
  | a :: r, 0, _ => by simp
  | a :: r, i + 1, h => by
    have := map_at f d r i (by simpa using h)
    simpa using this
  | [], _, h => by simp at h

theorem take_map_next {α β : Type} (f : α → β) (d : α) {l : List α} {i : Nat} (h : i < l.length) : (l.take (i + 1)).map f = (l.take i).map f ++ [f (l.getD i d)] := by
  rw [List.take_succ_eq_append_getElem h, List.map_append]
  simp [List.getD_eq_getElem?_getD, h]
theorem top_of (a : UInt32) {n : Nat} (h1 : 1 ≤ n) (h4 : n ≤ 4) :
    ∃ x : Int, IntKind.i64.wrap ((a.toNat : Int).fdiv (2 ^ min (32 - 8 * (n : Int)).toNat IntKind.u32.bits)) = x ∧ 0 ≤ x ∧ x < 256 ^ n := by
  have e : ∀ x : Int, min x.toNat IntKind.u32.bits = min x.toNat 32 := fun _ => rfl
  have ha := a.toNat_lt
  refine ⟨_, rfl, ?_⟩
  rw [e, Int.fdiv_eq_ediv_of_nonneg _ (Int.le_of_lt (Int.pow_pos (by decide)))]
  rcases (by omega : n = 1 ∨ n = 2 ∨ n = 3 ∨ n = 4) with rfl | rfl | rfl | rfl
  · simp; rw [IntWalk.i64_in _ (by omega)]; omega
  · simp; rw [IntWalk.i64_in _ (by omega)]; omega
  · simp; rw [IntWalk.i64_in _ (by omega)]; omega
  · simp; rw [IntWalk.i64_in _ (by omega)]; omega

/-- A number's upper bits. -/
def topV (a : UInt32) (n : Nat) : Int := IntKind.i64.wrap ((a.toNat : Int).fdiv (2 ^ min (32 - 8 * (n : Int)).toNat IntKind.u32.bits))
theorem topV_bd (a : UInt32) {n : Nat} (h1 : 1 ≤ n) (h4 : n ≤ 4) : 0 ≤ topV a n ∧ topV a n < 256 ^ n := by
  obtain ⟨x, h, h2, h3⟩ := top_of a h1 h4
  unfold topV
  rw [h]
  exact ⟨h2, h3⟩
end Go.Proofs.Ytnabeiodhhmdoaa

