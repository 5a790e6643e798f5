/-
  Thirty bytes as a list; a piece of them as text.
-/
import Derived.Test.YtlfncfaonnaneaaFnsD
set_option linter.unusedSimpArgs false
set_option linter.unusedVariables false
namespace Go.Eng
/-- A piece of an array of the call's own, as text. -/
theorem conv_btok {C : Ctx} {T T' e n m n' m' n'' m'' : Nat} {z z' z'' : List TV} {s : Store} {g k : Nat} {l : List Byt} {ro : Bool} (h : C.ty T = some ⟨.slice e, n', m', z'⟩) (h' : C.ty T' = some ⟨.str, n, m, z⟩) (he : C.ty e = some ⟨.int .u8, n'', m'', z''⟩)
    (hs : s.f g = some (.box ((l.map one).map .t) ro)) (hk : k ≤ l.length) : convB C s T T' (.btok g 1 0 k) = .val True (.t (.str ((l.take k).map Byt.v))) := by
  have hb := borrow_btok (β := Byt) rfl hs hk
  have hb1 : s.borrow1 (.btok g 1 0 k) = some (sl (l.take k), [g]) := by
    simp only [Store.borrow] at hb
    cases h1 : s.borrow1 (.btok g 1 0 k) with
    | none => rw [h1] at hb; cases hb
    | some p =>
      rw [h1] at hb
      obtain ⟨p1, p2⟩ := p
      simp only [Option.map_some, Option.some.injEq, Prod.mk.injEq, AV.t.injEq] at hb
      rw [hb.1, hb.2]
  have hw : Cell.width Byt = 1 := rfl
  unfold sl at hb1
  rw [hw] at hb1
  generalize l.take k = L at hb1 ⊢
  simp [convB, h, h', he, hb1, u8s_enc]
end Go.Eng
namespace Go.Proofs.Ytlfncfaonnaneaa
open Go Go.Eng
abbrev T30 := Byt × Byt × Byt × Byt × Byt × Byt × Byt × Byt × Byt × Byt × Byt × Byt × Byt × Byt × Byt × Byt × Byt × Byt × Byt × Byt × Byt × Byt × Byt × Byt × Byt × Byt × Byt × Byt × Byt × Byt
theorem arr30 (t : T30) : ∃ B : List Byt, B.length = 30 ∧ (Cell.enc t : List TV) = B.map Go.Eng.one := by
  obtain ⟨b0, b1, b2, b3, b4, b5, b6, b7, b8, b9, b10, b11, b12, b13, b14, b15, b16, b17, b18, b19, b20, b21, b22, b23, b24, b25, b26, b27, b28, b29⟩ := t
  exact ⟨[b0, b1, b2, b3, b4, b5, b6, b7, b8, b9, b10, b11, b12, b13, b14, b15, b16, b17, b18, b19, b20, b21, b22, b23, b24, b25, b26, b27, b28, b29], rfl, rfl⟩
/-! ### The last byte -/
def mskb (x : UInt8) (r : Nat) : UInt8 := UInt8.ofNat (x.toNat % 2 ^ r)
theorem bt_mskb {x : UInt8} {r k : Nat} : bt (mskb x r) k = (decide (k < r) && bt x k) := by
  unfold bt mskb
  have h1 := x.toNat_lt
  have h2 := Nat.mod_le x.toNat (2 ^ r)
  rw [UInt8.toNat_ofNat', Nat.mod_eq_of_lt (by omega), Nat.testBit_mod_two_pow]
theorem msk_nat : ∀ n : Nat, n < 256 → ∀ r : Nat, r < 8 → IntKind.u8.wrap ((BitVec.ofInt IntKind.u8.bits (n : Int) &&& BitVec.ofInt IntKind.u8.bits (IntKind.u8.wrap (IntKind.u8.wrap (1 * 2 ^ min r IntKind.u8.bits) - 1))).toNat : Int) = (((UInt8.ofNat (n % 2 ^ r)).toNat : Nat) : Int) := by decide +kernel
theorem msk_eq (x : UInt8) {r : Nat} (h : r < 8) : IntKind.u8.wrap ((BitVec.ofInt IntKind.u8.bits (x.toNat : Int) &&& BitVec.ofInt IntKind.u8.bits (IntKind.u8.wrap (IntKind.u8.wrap (1 * 2 ^ min r IntKind.u8.bits) - 1))).toNat : Int) = ((mskb x r).toNat : Int) := msk_nat x.toNat x.toNat_lt r h
theorem shr_nat : ∀ n : Nat, n < 256 → ∀ r : Nat, r < 8 → decide ((n : Int).fdiv (2 ^ min r IntKind.u8.bits) = 0) = (List.range 8).all fun k => decide (k < r) || !n.testBit k := by decide +kernel
theorem shr_zero (x : UInt8) {r : Nat} (h : r < 8) : ((x.toNat : Int).fdiv (2 ^ min r IntKind.u8.bits) = 0) ↔ ∀ k, k < 8 → r ≤ k → bt x k = false := by
  have e := shr_nat x.toNat x.toNat_lt r h
  rw [Bool.eq_iff_iff, decide_eq_true_eq, List.all_eq_true] at e
  rw [e]
  constructor
  · intro h1 k hk hr
    have := h1 k (List.mem_range.2 hk)
    rw [decide_eq_false (by omega), Bool.false_or, Bool.not_eq_true'] at this
    exact this
  · intro h1 k hk
    by_cases hr : k < r
    · rw [decide_eq_true hr]; rfl
    · rw [show x.toNat.testBit k = false from h1 k (List.mem_range.1 hk) (by omega), Bool.not_false, Bool.or_true]
end Go.Proofs.Ytlfncfaonnaneaa


namespace Go.Proofs.Ytlfncfaonnaneaa
open Go Go.Eng
def clr (B : List Byt) (n : Nat) : List Byt := if n % 8 = 0 then B else B.set (n / 8) ⟨mskb (B.getD (n / 8) default).v (n % 8)⟩
theorem clr_len {B : List Byt} {n : Nat} : (clr B n).length = B.length := by
  unfold clr
  split
  · rfl
  · rw [List.length_set]
def txt (B : List Byt) (n : Nat) : List UInt8 := (B.take ((n + 7) / 8)).map Byt.v
theorem txt_len {B : List Byt} {n : Nat} (h : (n + 7) / 8 ≤ B.length) : (txt B n).length = (n + 7) / 8 := by
  rw [txt, List.length_map, List.length_take]; omega
theorem bitA_txt {B : List Byt} {n i : Nat} (h : i < 8 * ((n + 7) / 8)) : bitA (txt B n) i = bt (B.getD (i / 8) default).v (i % 8) := by
  have h1 : i / 8 < (n + 7) / 8 := by omega
  have : (B.take ((n + 7) / 8)).getD (i / 8) default = B.getD (i / 8) default := by
    rw [List.getD_eq_getElem?_getD, List.getD_eq_getElem?_getD, List.getElem?_take, if_pos h1]
  rw [bitA, txt, v_at, this]
theorem clr_bit {B : List Byt} {n i : Nat} (hB : (n + 7) / 8 ≤ B.length) (hi : i < 8 * ((n + 7) / 8)) : bitA (txt (clr B n) n) i = (decide (i < n) && bt (B.getD (i / 8) default).v (i % 8)) := by
  rw [bitA_txt hi]
  unfold clr
  by_cases h0 : n % 8 = 0
  · rw [if_pos h0, decide_eq_true (by omega), Bool.true_and]
  · rw [if_neg h0]
    by_cases h1 : i / 8 = n / 8
    · have : (B.set (n / 8) ⟨mskb (B.getD (n / 8) default).v (n % 8)⟩).getD (i / 8) default = ⟨mskb (B.getD (n / 8) default).v (n % 8)⟩ := by
        rw [List.getD_eq_getElem?_getD, h1, List.getElem?_set_self (by omega)]; rfl
      rw [this, bt_mskb, h1]
      congr 1
      exact decide_eq_decide.2 (by omega)
    · have : (B.set (n / 8) ⟨mskb (B.getD (n / 8) default).v (n % 8)⟩).getD (i / 8) default = B.getD (i / 8) default := by
        rw [List.getD_eq_getElem?_getD, List.getElem?_set_ne (fun h => h1 h.symm), ← List.getD_eq_getElem?_getD]
      rw [this, decide_eq_true (by omega), Bool.true_and]
theorem clr_ok {B : List Byt} {n : Nat} (hd : dataOk n = true) (hB : (n + 7) / 8 ≤ B.length) (t : List UInt8) : takeOkM n (txt (clr B n) n ++ t) = true := by
  have hl := txt_len (B := clr B n) (n := n) (by rw [clr_len]; exact hB)
  rw [takeOkM, hd, Int.toNat_natCast, decide_eq_true (by rw [List.length_append]; omega), decide_eq_true (fun i hi hb => by
    rw [bitA_app (by omega), clr_bit hB hi, Bool.and_eq_true, decide_eq_true_eq] at hb
    exact hb.1)]; rfl
theorem txt_ok {B : List Byt} {n : Nat} (hd : dataOk n = true) (hB : (n + 7) / 8 ≤ B.length) : takeOkM n (txt B n) = (decide (n % 8 = 0) || decide (((B.getD ((n + 7) / 8 - 1) default).v.toNat : Int).fdiv (2 ^ min (n % 8) IntKind.u8.bits) = 0)) := by
  have hl := txt_len hB
  rw [takeOkM, hd, Int.toNat_natCast, decide_eq_true (by omega), Bool.true_and, Bool.true_and, Bool.eq_iff_iff, Bool.or_eq_true, decide_eq_true_eq, decide_eq_true_eq, decide_eq_true_eq, shr_zero _ (by omega)]
  constructor
  · intro h
    by_cases h0 : n % 8 = 0
    · exact .inl h0
    · refine .inr fun k hk hr => ?_
      have h1 := h (8 * (n / 8) + k) (by omega)
      rw [bitA_txt (by omega), show (8 * (n / 8) + k) / 8 = n / 8 from by omega, show (8 * (n / 8) + k) % 8 = k from by omega] at h1
      rw [show (n + 7) / 8 - 1 = n / 8 from by omega]
      cases hb : bt (B.getD (n / 8) default).v k with
      | false => rfl
      | true => have := h1 hb; omega
  · rintro (h | h) i hi hb
    · omega
    · rw [bitA_txt hi] at hb
      by_cases h0 : n % 8 = 0
      · omega
      · refine Classical.byContradiction fun hn => ?_
        have e : i / 8 = (n + 7) / 8 - 1 := by omega
        rw [e, h (i % 8) (by omega) (by omega)] at hb
        cases hb
theorem take_len9 {n : Int} {s : List UInt8} : (takeM n s).1.length ≤ 1000 := by
  rw [takeM]
  split
  · next h =>
    have h1 : dataOk n = true := by rw [takeOkM, Bool.and_eq_true] at h; exact h.1
    have h2 := dataOk_iff.1 h1
    have h3 := ofL_len (idsB s (8 * ((n.toNat + 7) / 8)))
    have h4 := idsB_len (s := s) (8 * ((n.toNat + 7) / 8))
    show (ofL (idsB s (8 * ((n.toNat + 7) / 8)))).length ≤ 1000
    omega
  · exact Nat.zero_le _
theorem drop_imm {C : List Byt} {j : Nat} (h : j < C.length) : (C.map Go.Eng.one).drop j = .int .u8 ((C.getD j default).v.toNat : Int) :: (C.map Go.Eng.one).drop (j + 1) := by
  rw [List.drop_eq_getElem_cons (by rw [List.length_map]; exact h), List.getElem_map, List.getD_eq_getElem?_getD, List.getElem?_eq_getElem h]; rfl
theorem drop_box {C : List Byt} {j : Nat} (h : j < C.length) : ((C.map Go.Eng.one).map AV.t).drop j = .t (.int .u8 ((C.getD j default).v.toNat : Int)) :: ((C.map Go.Eng.one).map AV.t).drop (j + 1) := by
  rw [← List.map_drop, drop_imm h, List.map_cons, List.map_drop]
end Go.Proofs.Ytlfncfaonnaneaa

