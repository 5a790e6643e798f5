/-
  What numbers' bytes are: the plain laws.
-/
import Derived.Test.YtnabeiodhhmdoaaFns
set_option linter.unusedSimpArgs false
set_option linter.unusedVariables false
namespace Go.Proofs.Ytnabeiodhhmdoaa
open Go Go.Eng

theorem num_be : ∀ (k : Nat) (n : Int), num (be k n) = n % 256 ^ k
  | 0, n => by simp [be, num, Int.emod_one]
  | k + 1, n => by
    rw [be, num_snoc, num_be k, byt_nat]
    have hp : (0 : Int) < 256 ^ k := Int.pow_pos (by decide)
    have h1 := Int.mul_ediv_add_emod n 256
    have h2 := Int.mul_ediv_add_emod (n / 256) (256 ^ k)
    have h3 := Int.emod_nonneg (n / 256) (Int.ne_of_gt hp)
    have h4 := Int.emod_lt_of_pos (n / 256) hp
    have h5 := Int.emod_nonneg n (show (256 : Int) ≠ 0 by decide)
    have h6 := Int.emod_lt_of_pos n (show (0 : Int) < 256 by decide)
    have e : n = (n / 256 % 256 ^ k * 256 + n % 256) + 256 ^ (k + 1) * (n / 256 / 256 ^ k) := by
      rw [Int.pow_succ, Int.mul_assoc, Int.mul_comm (256 ^ k), Int.mul_assoc, Int.mul_comm (n / 256 / 256 ^ k)]
      omega
    have hlt : n / 256 % 256 ^ k * 256 + n % 256 < 256 ^ (k + 1) := by rw [Int.pow_succ]; omega
    conv => rhs; rw [e]
    rw [Int.add_mul_emod_self_left, Int.emod_eq_of_lt (by omega) hlt]

theorem num_cons (c : UInt8) (r : List UInt8) : num (c :: r) = (c.toNat : Int) * 256 ^ r.length + num r := by
  have key : ∀ (r : List UInt8) (v : Int), r.foldl (fun v c => v * 256 + (c.toNat : Int)) v = v * 256 ^ r.length + num r := by
    intro r
    induction r with
    | nil => intro v; simp [num]
    | cons d t ih =>
      intro v
      have h2 := ih (d.toNat : Int)
      have h3 : num (d :: t) = t.foldl (fun v c => v * 256 + (c.toNat : Int)) (0 * 256 + (d.toNat : Int)) := rfl
      rw [Int.zero_mul, Int.zero_add, h2] at h3
      rw [List.foldl_cons, ih, h3, List.length_cons, Int.pow_succ, Int.add_mul, Int.add_assoc, Int.mul_assoc, Int.mul_comm 256]
  have := key r (c.toNat : Int)
  rw [← this]
  change r.foldl _ (0 * 256 + (c.toNat : Int)) = _
  rw [Int.zero_mul, Int.zero_add]

theorem less_num : ∀ (a b : List UInt8), a.length = b.length → Op.bytesLess a b = decide (num a < num b)
  | [], [], _ => by simp [Op.bytesLess, num]
  | a :: x, b :: y, h => by
    have h' : x.length = y.length := by simpa using h
    have ih := less_num x y h'
    have hx := num_bd _ x rfl
    have hy := num_bd _ y rfl
    rw [num_cons, num_cons, h', Op.bytesLess, ih, Bool.eq_iff_iff]
    rw [h'] at hx
    simp only [Bool.or_eq_true, Bool.and_eq_true, decide_eq_true_eq, beq_iff_eq]
    have hab : a < b ↔ (a.toNat : Int) < (b.toNat : Int) := by rw [UInt8.lt_iff_toNat_lt]; omega
    have hab' : a = b ↔ (a.toNat : Int) = (b.toNat : Int) := by rw [← UInt8.toNat_inj]; omega
    rw [hab, hab']
    generalize (a.toNat : Int) = p
    generalize (b.toNat : Int) = q
    generalize num x = u at *
    generalize num y = v at *
    generalize (256 : Int) ^ y.length = m at *
    constructor
    · rintro (h1 | ⟨rfl, h2⟩)
      · have : (p + 1) * m ≤ q * m := Int.mul_le_mul_of_nonneg_right (by omega) (by omega)
        rw [Int.add_mul] at this
        omega
      · omega
    · intro h1
      rcases Int.lt_trichotomy p q with h2 | rfl | h2
      · exact .inl h2
      · exact .inr ⟨rfl, by omega⟩
      · have : (q + 1) * m ≤ p * m := Int.mul_le_mul_of_nonneg_right (by omega) (by omega)
        rw [Int.add_mul] at this
        omega
  | [], _ :: _, h => by simp at h
  | _ :: _, [], h => by simp at h

theorem num_inj : ∀ (a b : List UInt8), a.length = b.length → num a = num b → a = b
  | [], [], _, _ => rfl
  | a :: x, b :: y, h, hn => by
    have h' : x.length = y.length := by simpa using h
    have hx := num_bd _ x rfl
    have hy := num_bd _ y rfl
    rw [num_cons, num_cons, h'] at hn
    rw [h'] at hx
    have hab' : a = b ↔ (a.toNat : Int) = (b.toNat : Int) := by rw [← UInt8.toNat_inj]; omega
    have hpq : (a.toNat : Int) = (b.toNat : Int) := by
      revert hn
      generalize (a.toNat : Int) = p
      generalize (b.toNat : Int) = q
      generalize num x = u at *
      generalize num y = v at *
      generalize (256 : Int) ^ y.length = m at *
      intro hn
      rcases Int.lt_trichotomy p q with h2 | rfl | h2
      · have : (p + 1) * m ≤ q * m := Int.mul_le_mul_of_nonneg_right (by omega) (by omega)
        rw [Int.add_mul] at this
        omega
      · rfl
      · have : (q + 1) * m ≤ p * m := Int.mul_le_mul_of_nonneg_right (by omega) (by omega)
        rw [Int.add_mul] at this
        omega
    rw [hab'.2 hpq, num_inj x y h' (by rw [hpq] at hn; omega)]
  | [], _ :: _, h, _ => by simp at h
  | _ :: _, [], h, _ => by simp at h

theorem putF_one {c : UInt8} {k : Nat} {v : Int} (hk : dig c = (k : Int)) (h1 : 1 ≤ k) (h4 : k ≤ 4) : putF [c] [v] = be k v := by
  have hok : formOk [c] = true := by simp [formOk, digOk, hk]; omega
  simp [putF, hok, digs, flat, hk]

theorem takeOk_one {c : UInt8} {k : Nat} {s : List UInt8} (hk : dig c = (k : Int)) (h1 : 1 ≤ k) (h4 : k ≤ 4) (hs : s.length = k) : takeOk [c] s = true ∧ takeL [c] s = [num s] ∧ takeR [c] s = [] := by
  have hok : formOk [c] = true := by simp [formOk, digOk, hk]; omega
  have ht : takeOk [c] s = true := by simp [takeOk, hok, digs, hk]; omega
  refine ⟨ht, ?_, ?_⟩
  · simp [takeL, ht, digs, takeN, hk, ← hs]
  · simp [takeR, ht, digs, hk, ← hs]
end Go.Proofs.Ytnabeiodhhmdoaa

