/-
  Values of Lean's types as cells.
-/
import Derived.Test.YtenckbcdfdmckaaGreatDoorTopB
import Derived.IntWalk
import Derived.ProofKit
import Derived.OpenShut
import Derived.WideKeyArgs
import Derived.ChangeKeysEq
import Derived.Laws.StructEq
import Derived.Sort.Grow
import Derived.Lib.AppendZerosOnto
set_option linter.unusedSimpArgs false
set_option linter.unusedVariables false
namespace Go.Eng

class Cell (α : Type) where
  width : Nat
  enc : α → List TV
  dec : List TV → Option α
  len : ∀ x, (enc x).length = width
  dec_enc : ∀ x, dec (enc x) = some x
  sound : ∀ cs x, dec cs = some x → cs.length = width ∧ ∀ (w : World) (O : Addr → Prop) (v : Nat → Value), (∀ i, i < width → RepT w O (cs.getD i default) (v i)) → ∀ i, i < width → RepT w O ((enc x).getD i default) (v i)

theorem sound_exact {α : Type} {n : Nat} {enc : α → List TV} {dec : List TV → Option α} (hl : ∀ x, (enc x).length = n) (h : ∀ cs x, dec cs = some x → cs = enc x) :
    ∀ cs x, dec cs = some x → cs.length = n ∧ ∀ (w : World) (O : Addr → Prop) (v : Nat → Value), (∀ i, i < n → RepT w O (cs.getD i default) (v i)) → ∀ i, i < n → RepT w O ((enc x).getD i default) (v i) := by
  intro cs x hx
  have := h cs x hx
  subst this
  exact ⟨hl x, fun _ _ _ h => h⟩

instance cInt : Cell Int where
  width := 1
  enc n := [.int .i64 n]
  dec cs := match cs with | [.int .i64 n] => some n | _ => none
  len _ := rfl
  dec_enc _ := rfl
  sound := sound_exact (fun _ => rfl) fun cs x h => by
    split at h
    · cases h; rfl
    · cases h

instance cBool : Cell Bool where
  width := 1
  enc b := [.bool b]
  dec cs := match cs with | [.bool b] => some b | _ => none
  len _ := rfl
  dec_enc _ := rfl
  sound := sound_exact (fun _ => rfl) fun cs x h => by
    split at h
    · cases h; rfl
    · cases h

/-- A text. -/
instance cStr : Cell (List UInt8) where
  width := 1
  enc s := [.str s]
  dec cs := match cs with | [.str s] => some s | _ => none
  len _ := rfl
  dec_enc _ := rfl
  sound := sound_exact (fun _ => rfl) fun cs x h => by
    split at h
    · cases h; rfl
    · cases h

/-- A byte. -/
structure Byt where
  v : UInt8
  deriving DecidableEq

instance : Inhabited Byt := ⟨⟨0⟩⟩

instance cByt : Cell Byt where
  width := 1
  enc b := [.int .u8 (b.v.toNat : Int)]
  dec cs := match cs with | [.int .u8 n] => if n = ((UInt8.ofNat n.toNat).toNat : Int) then some ⟨UInt8.ofNat n.toNat⟩ else none | _ => none
  len _ := rfl
  dec_enc b := by simp
  sound := sound_exact (fun _ => rfl) fun cs x h => by
    split at h
    · next n =>
      by_cases hc : n = ((UInt8.ofNat n.toNat).toNat : Int)
      · rw [if_pos hc] at h; cases h; exact congrArg (fun m => [TV.int .u8 m]) hc
      · rw [if_neg hc] at h; cases h
    · cases h

instance cU32 : Cell UInt32 where
  width := 1
  enc b := [.int .u32 (b.toNat : Int)]
  dec cs := match cs with | [.int .u32 n] => if n = ((UInt32.ofNat n.toNat).toNat : Int) then some (UInt32.ofNat n.toNat) else none | _ => none
  len _ := rfl
  dec_enc b := by simp
  sound := sound_exact (fun _ => rfl) fun cs x h => by
    split at h
    · next n =>
      by_cases hc : n = ((UInt32.ofNat n.toNat).toNat : Int)
      · rw [if_pos hc] at h; cases h; exact congrArg (fun m => [TV.int .u32 m]) hc
      · rw [if_neg hc] at h; cases h
    · cases h

theorem gd_app_l {l r : List TV} {i : Nat} (h : i < l.length) : (l ++ r).getD i default = l.getD i default := by
  simp only [List.getD_eq_getElem?_getD, List.getElem?_append_left h]
theorem gd_app_r {l r : List TV} {i : Nat} (h : l.length ≤ i) : (l ++ r).getD i default = r.getD (i - l.length) default := by
  simp only [List.getD_eq_getElem?_getD, List.getElem?_append_right h]
theorem gd_take {l : List TV} {n i : Nat} (h : i < n) : (l.take n).getD i default = l.getD i default := by
  simp [List.getD_eq_getElem?_getD, h]
theorem gd_drop {l : List TV} {n i : Nat} : (l.drop n).getD i default = l.getD (n + i) default := by
  simp [List.getD_eq_getElem?_getD, List.getElem?_drop]

instance cProd {α β : Type} [Cell α] [Cell β] : Cell (α × β) where
  width := Cell.width α + Cell.width β
  enc x := Cell.enc x.1 ++ Cell.enc x.2
  dec cs := (Cell.dec (cs.take (Cell.width α))).bind fun a => (Cell.dec (cs.drop (Cell.width α))).map fun b => (a, b)
  len x := by simp [Cell.len]
  dec_enc x := by
    have h : (Cell.enc x.1).length = Cell.width α := Cell.len _
    rw [← h, List.take_left, List.drop_left, Cell.dec_enc, Cell.dec_enc]
    rfl
  sound cs x h := by
    rw [Option.bind_eq_some_iff] at h
    obtain ⟨a, ha, h⟩ := h
    rw [Option.map_eq_some_iff] at h
    obtain ⟨b, hb, rfl⟩ := h
    obtain ⟨la, sa⟩ := Cell.sound _ _ ha
    obtain ⟨lb, sb⟩ := Cell.sound _ _ hb
    have lcs : cs.length = Cell.width α + Cell.width β := by
      simp at la lb; omega
    refine ⟨lcs, fun w O v hv i hi => ?_⟩
    have hla : (Cell.enc a).length = Cell.width α := Cell.len _
    by_cases h1 : i < Cell.width α
    · rw [gd_app_l (by rw [hla]; exact h1)]
      refine sa w O v (fun j hj => ?_) i h1
      rw [gd_take hj]; exact hv j (by omega)
    · rw [gd_app_r (by rw [hla]; omega), hla]
      have := sb w O (fun j => v (Cell.width α + j)) (fun j hj => by
        rw [gd_drop]; exact hv _ (by omega)) (i - Cell.width α) (by omega)
      rwa [show Cell.width α + (i - Cell.width α) = i from by omega] at this

/-- By another type. -/
abbrev Cell.iso {α β : Type} [Cell α] (f : β → α) (g : α → β) (h : ∀ x, g (f x) = x) (h' : ∀ y, f (g y) = y) : Cell β where
  width := Cell.width α
  enc x := Cell.enc (f x)
  dec cs := (Cell.dec cs).map g
  len x := Cell.len _
  dec_enc x := by rw [Cell.dec_enc, Option.map_some, h]
  sound cs x hx := by
    rw [Option.map_eq_some_iff] at hx
    obtain ⟨a, ha, rfl⟩ := hx
    rw [h']
    exact Cell.sound _ _ ha

def decAll {α : Type} [Cell α] : List (List TV) → Option (List α)
  | [] => some []
  | r :: t => (Cell.dec r).bind fun x => (decAll t).map (x :: ·)

theorem decAll_enc {α : Type} [Cell α] : ∀ l : List α, decAll (l.map Cell.enc) = some l
  | [] => rfl
  | x :: t => by simp [decAll, Cell.dec_enc, decAll_enc t]

theorem decAll_sound {α : Type} [Cell α] : ∀ (rs : List (List TV)) (l : List α), decAll rs = some l → rs.length = l.length ∧ ∀ i, i < rs.length → ∃ x : α, (l.map Cell.enc).getD i [] = Cell.enc x ∧ Cell.dec (rs.getD i []) = some x
  | [], l, h => by simp [decAll] at h; subst h; exact ⟨rfl, fun i hi => by simp at hi⟩
  | r :: t, l, h => by
    simp only [decAll] at h
    rw [Option.bind_eq_some_iff] at h
    obtain ⟨a, ha, h⟩ := h
    rw [Option.map_eq_some_iff] at h
    obtain ⟨b, hb, rfl⟩ := h
    obtain ⟨h1, h2⟩ := decAll_sound t b hb
    refine ⟨by simp [h1], fun i hi => ?_⟩
    cases i with
    | zero => exact ⟨a, by simp, by simpa using ha⟩
    | succ i =>
      obtain ⟨x, q1, q2⟩ := h2 i (by simpa using hi)
      exact ⟨x, by simpa using q1, by simpa using q2⟩

/-- A slice that is only read. -/
def sl {α : Type} [Cell α] (l : List α) : TV := .seq (Cell.width α) (l.map Cell.enc)

instance cList {α : Type} [Cell α] : Cell (List α) where
  width := 1
  enc l := [sl l]
  dec cs := match cs with
    | [.nilS] => some []
    | [.emp] => some []
    | [.seq n rs] => if n = Cell.width α then decAll rs else none
    | _ => none
  len _ := rfl
  dec_enc l := by simp only [sl, if_true]; exact decAll_enc l
  sound cs x h := by
    have nilcase : ∀ (w : World) (O : Addr → Prop) (a : Option Addr) (cap : Nat), RepT w O (sl ([] : List α)) (.slice a 0 cap) := fun w O a cap =>
      .seq _ _ a 0 cap 0 0 (fun _ _ => default) rfl (Nat.zero_le _) (.inl rfl) (fun i hi => by simp at hi) (fun i j hi => by simp at hi) (fun i j hi => by simp at hi) fun i j hi => by simp at hi
    split at h
    · cases h
      refine ⟨rfl, fun w O v hv i hi => ?_⟩
      obtain rfl : i = 0 := by omega
      have := hv 0 (by omega)
      simp only [List.getD_cons_zero] at this ⊢
      generalize v 0 = u at this ⊢
      cases this
      exact nilcase _ _ _ _
    · cases h
      refine ⟨rfl, fun w O v hv i hi => ?_⟩
      obtain rfl : i = 0 := by omega
      have := hv 0 (by omega)
      simp only [List.getD_cons_zero] at this ⊢
      generalize v 0 = u at this ⊢
      cases this
      exact nilcase _ _ _ _
    · next n rs =>
      by_cases hn : n = Cell.width α
      · rw [if_pos hn] at h
        obtain ⟨h1, h2⟩ := decAll_sound rs x h
        refine ⟨rfl, fun w O v hv i hi => ?_⟩
        obtain rfl : i = 0 := by omega
        have h0 := hv 0 (by omega)
        simp only [List.getD_cons_zero] at h0 ⊢
        have key : ∀ (v : Value), RepT w O (.seq n rs) v → RepT w O (sl x) v := by
          intro v h0
          cases h0 with
          | seq _ _ a len cap b off c hlen hcap ha hns hc ho hr =>
            have hlx : (x.map Cell.enc).length = rs.length := by simp [h1]
            refine .seq _ _ a len cap b off c (hlen.trans hlx.symm) hcap (ha.imp (fun e => by rw [← List.length_eq_zero_iff] at e ⊢; omega) id) (fun i hi => ?_) (fun i j hi hj => ?_) (fun i j hi hj => ?_) fun i j hi hj => ?_
            · obtain ⟨y, q1, _⟩ := h2 i (by omega)
              rw [q1]; exact Cell.len _
            · rw [← hn]; exact hc i j (by omega) (by omega)
            · rw [← hn]; exact ho i j (by omega) (by omega)
            · obtain ⟨y, q1, q2⟩ := h2 i (by omega)
              rw [q1]
              exact (Cell.sound _ _ q2).2 w O (fun j => c i j) (fun j hj => hr i j (by omega) (by omega)) j hj
        exact key _ h0
      · rw [if_neg hn] at h; cases h
    · cases h

@[simp] theorem w_int : Cell.width Int = 1 := rfl
@[simp] theorem w_bool : Cell.width Bool = 1 := rfl
@[simp] theorem w_str : Cell.width (List UInt8) = 1 := rfl
@[simp] theorem w_byt : Cell.width Byt = 1 := rfl
@[simp] theorem w_u32 : Cell.width UInt32 = 1 := rfl
@[simp] theorem w_list {α : Type} [Cell α] : @Cell.width (List α) cList = 1 := rfl

end Go.Eng

namespace Go.Eng

/-- How an argument stands for a value of Lean's. -/
structure Arg (α : Type) where
  enc : α → AV
  dec : AV → Option α
  sound : ∀ a x, dec a = some x → ∀ (β : Bt) (w : World) (O : Addr → Prop) (v : Value), Rep β w O a v → Rep β w O (enc x) v

/-- A value of one cell. -/
def one {α : Type} [Cell α] (x : α) : TV := (Cell.enc x).headD default

def argT (α : Type) [Cell α] : Arg α where
  enc x := .t (one x)
  dec a := match a with | .t c => Cell.dec [c] | _ => none
  sound a x h β w O v hr := by
    split at h
    · next c =>
      obtain ⟨h1, h2⟩ := Cell.sound [c] x h
      cases hr with
      | t _ _ hr =>
        have h1 : Cell.width α = 1 := h1.symm
        have := h2 w O (fun _ => v) (fun i hi => by
          obtain rfl : i = 0 := by omega
          exact hr) 0 (by omega)
        have hl := Cell.len x
        rw [h1] at hl
        refine .t _ _ ?_
        unfold one
        generalize Cell.enc x = l at this hl
        cases l with
        | nil => simp at hl
        | cons y r => exact this
    · cases h

theorem tvs_map : ∀ {cs : List AV} {xs : List TV}, tvs? cs = some xs → cs = xs.map .t
  | [], xs, h => by simp [tvs?] at h; subst h; rfl
  | c :: r, xs, h => by
    cases c with
    | t x =>
      simp only [tvs?, Option.map_eq_some_iff] at h
      obtain ⟨y, h1, rfl⟩ := h
      rw [tvs_map h1]; rfl
    | _ => simp [tvs?] at h

theorem tvs_of (l : List TV) : tvs? (l.map .t) = some l := by
  induction l with
  | nil => rfl
  | cons x r ih => simp [tvs?, ih]

/-- A struct, an array. -/
def argA (α : Type) [Cell α] : Arg α where
  enc x := .agg ((Cell.enc x).map .t)
  dec a := match a with | .agg cs => (tvs? cs).bind Cell.dec | _ => none
  sound a x h β w O v hr := by
    split at h
    · next cs =>
      rw [Option.bind_eq_some_iff] at h
      obtain ⟨xs, h0, h⟩ := h
      obtain rfl := tvs_map h0
      obtain ⟨h1, h2⟩ := Cell.sound xs x h
      cases hr with
      | agg _ vs hl h3 h4 =>
        simp only [List.length_map] at hl h3 h4
        have hlx := Cell.len x
        refine .agg _ vs (by simp [hlx]; omega) (fun i hi => ?_) fun i hi => ?_
        · rw [getD_map_t _ _ (by simpa using hi)]; rfl
        · have hi' : i < Cell.width α := by simpa [hlx] using hi
          rw [getD_map_t _ _ (by simpa using hi)]
          refine .t _ _ (h2 w O (fun j => vs.getD j undef) (fun j hj => ?_) i hi')
          have := h4 j (by omega)
          rw [getD_map_t _ _ (by omega)] at this
          exact this.t_inv
    · cases h

structure Arms (α : Type) where
  enc : α → List AV
  dec : List AV → Option α
  sound : ∀ as x, dec as = some x → as.length = (enc x).length ∧ ∀ (β : Bt) (w : World) (O : Addr → Prop) (v : Nat → Value), (∀ i, i < as.length → Rep β w O (as.getD i .unk) (v i)) → ∀ i, i < as.length → Rep β w O ((enc x).getD i .unk) (v i)

def Arms.nil : Arms Unit where
  enc _ := []
  dec as := match as with | [] => some () | _ => none
  sound as x h := by
    split at h
    · exact ⟨rfl, fun _ _ _ _ h => h⟩
    · cases h

def Arms.cons {α β : Type} (a : Arg α) (r : Arms β) : Arms (α × β) where
  enc x := a.enc x.1 :: r.enc x.2
  dec as := match as with | v :: t => (a.dec v).bind fun x => (r.dec t).map fun y => (x, y) | [] => none
  sound as x h := by
    split at h
    · next v t =>
      rw [Option.bind_eq_some_iff] at h
      obtain ⟨y, hy, h⟩ := h
      rw [Option.map_eq_some_iff] at h
      obtain ⟨z, hz, rfl⟩ := h
      obtain ⟨h1, h2⟩ := r.sound t z hz
      refine ⟨by simp [h1], fun β w O u hu i hi => ?_⟩
      cases i with
      | zero => exact a.sound v y hy β w O _ (hu 0 (by simp))
      | succ i => exact h2 β w O (fun j => u (j + 1)) (fun j hj => hu (j + 1) (by simpa using hj)) i (by simpa using hi)
    · cases h

/-- A function's contract: what it asks, what it answers; what it makes is never written again. -/
def fnCon {α : Type} (A : Arms α) (p : α → Prop) (r : α → AV) : Con :=
  .pure (fun as => ∃ x, A.dec as = some x ∧ p x) (fun _ => []) fun as _ => match A.dec as with | some x => r x | none => .unk

/-- The same, where the answer has no slices. -/
def fnScal {α : Type} (A : Arms α) (p : α → Prop) (r : α → AV) : Con :=
  .scal (fun as => ∃ x, A.dec as = some x ∧ p x) fun as => match A.dec as with | some x => r x | none => .unk

/-! ### What is answered is read alone from then on -/

/-- A cell as one that is only read. -/
def Frz1 (s : Store) (v : AV) (u : TV) : Prop := v = .t u ∨ (∃ n, u = .seq n [] ∧ (v = .t .nilS ∨ v = .t .emp)) ∨ ∃ ros, s.borrow1 v = some (u, ros)

def FrzL (s : Store) : List AV → List AV → Prop
  | [], [] => True
  | a :: as, b :: bs => (∃ u, b = .t u ∧ Frz1 s a u) ∧ FrzL s as bs
  | _, _ => False

def Frz2 (s : Store) (v u : AV) : Prop :=
  match u with
  | .t x => Frz1 s v x
  | .agg us => ∃ cs, v = .agg cs ∧ FrzL s cs us
  | _ => False

def FrzT (s : Store) : List AV → List AV → Prop
  | [], [] => True
  | a :: as, b :: bs => Frz2 s a b ∧ FrzT s as bs
  | _, _ => False

def Frz (s : Store) (v u : AV) : Prop :=
  match u with
  | .tup us => ∃ vs, v = .tup vs ∧ FrzT s vs us
  | u => Frz2 s v u

section
variable {C : Ctx} {P : Program} {N : Nat} {F A : Addr → Prop} {β : Bt} {w : World} {s s' : Store}

theorem nil_seq {n : Nat} {v : Value} (h : RepT w A .nilS v ∨ RepT w A .emp v) : RepT w A (.seq n []) v := by
  have key : ∀ (a : Option Addr), RepT w A (.seq n []) (.slice a 0 0) := fun a =>
    .seq _ _ a 0 0 0 0 (fun _ _ => default) rfl (Nat.zero_le _) (.inl rfl) (fun i hi => by simp at hi) (fun i j hi => by simp at hi) (fun i j hi => by simp at hi) fun i j hi => by simp at hi
  rcases h with h | h
  · cases h; exact key _
  · cases h; exact key _

theorem frz1_sound (hs : StOk F β s w) {v : AV} {u : TV} {x : Value} (h : Frz1 s v u) (hr : Rep β w (Or2 F (OwnOf β s)) v x) : RepT w F u x := by
  rcases h with rfl | ⟨n, rfl, rfl | rfl⟩ | ⟨ros, h⟩
  · exact hr.t_inv.mono fun a ha => .inl ha
  · exact nil_seq (.inl (hr.t_inv.mono fun a ha => .inl ha))
  · exact nil_seq (.inr (hr.t_inv.mono fun a ha => .inl ha))
  · exact (borrow1_sound hs hr h (ros' := ros) fun _ h => h).mono fun a ha => .inl ha

theorem frzL_sound (hs : StOk F β s w) : ∀ (vs us : List AV) (x : Nat → Value), FrzL s vs us → (∀ i, i < vs.length → Rep β w (Or2 F (OwnOf β s)) (vs.getD i .unk) (x i)) →
    us.length = vs.length ∧ ∀ i, i < us.length → (us.getD i .unk).one = true ∧ Rep β w F (us.getD i .unk) (x i)
  | [], [], _, _, _ => ⟨rfl, fun i hi => by simp at hi⟩
  | v :: vs, u :: us, x, ⟨⟨y, hy, h1⟩, h2⟩, hr => by
    subst hy
    obtain ⟨g1, g2⟩ := frzL_sound hs vs us (fun i => x (i + 1)) h2 fun i hi => by simpa using hr (i + 1) (by simpa using hi)
    refine ⟨by simp [g1], fun i hi => ?_⟩
    cases i with
    | zero => exact ⟨rfl, .t _ _ (frz1_sound hs h1 (hr 0 (by simp)))⟩
    | succ i => simpa using g2 i (by simpa using hi)
  | [], _ :: _, _, h, _ => h.elim
  | _ :: _, [], _, h, _ => h.elim

theorem frz2_sound (hs : StOk F β s w) {v u : AV} {x : Value} (h : Frz2 s v u) (hr : Rep β w (Or2 F (OwnOf β s)) v x) : Rep β w F u x := by
  unfold Frz2 at h
  split at h
  · exact .t _ _ (frz1_sound hs h hr)
  · next us =>
    obtain ⟨cs, rfl, h⟩ := h
    cases hr with
    | agg _ vs hl h1 h2 =>
      obtain ⟨g1, g2⟩ := frzL_sound hs cs us (fun i => vs.getD i undef) h h2
      exact .agg _ vs (g1.trans hl) (fun i hi => (g2 i hi).1) fun i hi => (g2 i hi).2
  · exact h.elim

theorem frzT_sound (hs : StOk F β s w) : ∀ (vs us : List AV) (x : Nat → Value), FrzT s vs us → (∀ i, i < vs.length → Rep β w (Or2 F (OwnOf β s)) (vs.getD i .unk) (x i)) →
    us.length = vs.length ∧ ∀ i, i < us.length → Rep β w F (us.getD i .unk) (x i)
  | [], [], _, _, _ => ⟨rfl, fun i hi => by simp at hi⟩
  | v :: vs, u :: us, x, ⟨h1, h2⟩, hr => by
    obtain ⟨g1, g2⟩ := frzT_sound hs vs us (fun i => x (i + 1)) h2 fun i hi => by simpa using hr (i + 1) (by simpa using hi)
    refine ⟨by simp [g1], fun i hi => ?_⟩
    cases i with
    | zero => exact frz2_sound hs h1 (hr 0 (by simp))
    | succ i => simpa using g2 i (by simpa using hi)
  | [], _ :: _, _, h, _ => h.elim
  | _ :: _, [], _, h, _ => h.elim

theorem frz_sound (hs : StOk F β s w) {v u : AV} {x : Value} (h : Frz s v u) (hr : Rep β w (Or2 F (OwnOf β s)) v x) : Rep β w F u x := by
  unfold Frz at h
  split at h
  · next us =>
    obtain ⟨vs, rfl, h⟩ := h
    cases hr with
    | tup _ xs hl h2 =>
      obtain ⟨g1, g2⟩ := frzT_sound hs vs us (fun i => xs.getD i undef) h h2
      exact .tup _ xs (g1.trans hl) g2
  · exact frz2_sound hs h hr

theorem fn_pure (S : Sys P C) (hm : ConMono C) (hmix : P.follows .mixedOrders = true) {f : FuncId} {fn : Func} {b : Code} {G : GCode} (hf : P.funcs[f]? = some fn) (hb : fn.body = some b) (hG : toG C fn.ntmps b = some G.strip)
    {α : Type} {A : Arms α} {p : α → Prop} {r : α → AV}
    (hc : ∀ x, p x → (A.enc x).length ≤ fn.ntmps ∧ avp C G (Ret C fn.results.toList fun v s' => Frz s' v (r x)) (entry (A.enc x) .empty)) :
    PureOk P f (fun as => ∃ x, A.dec as = some x ∧ p x) (fun _ => []) fun as _ => match A.dec as with | some x => r x | none => .unk := by
  rintro as vs β w O h1 h2 h3 ha ⟨x, hx, hp⟩
  obtain ⟨hl, hv⟩ := hc x hp
  obtain ⟨la, sa⟩ := A.sound as x hx
  have hs := empty_ok h1 h2 h3
  have ha' : Args β w (Or2 O (OwnOf β .empty)) (A.enc x) vs := by
    refine ⟨la ▸ ha.1, fun i hi => ?_⟩
    exact (sa β w O (fun i => vs.getD i undef) ha.2 i (by omega)).mono fun a h => h.elim id fun h => (own_empty a h).elim
  refine (fn_calls S hm hmix hf hb hG (Q := fun v s' => Frz s' v (r x)) hl hs ha' ?_).mono ?_
  · have hq : (fun (v : AV) (s' : Store) => Frz s' v (r x)) = fun v s' => ∃ s'', Sub s'' s' ∧ Frz s'' v (r x) ∧ s'' = s' := by
      funext v s'
      exact propext ⟨fun h => ⟨s', fun _ _ h => h, h, rfl⟩, fun ⟨s'', _, h, e⟩ => e ▸ h⟩
    refine avp_mono hm G _ _ _ (fun e σ he => ?_) hv
    cases e with
    | normal => exact ⟨he.1, _, fun _ _ h => h, he.2⟩
    | ret => exact ⟨he.1, _, fun _ _ h => h, he.2⟩
    | _ => exact he.elim
  · rintro e w' ⟨β', v, s', u, rfl, q1, q4, q5, q6, q7⟩
    have e0 : OwnOf β .empty = Nothing := by funext a; exact propext ⟨fun h => own_empty a h, False.elim⟩
    have e0' : OwnOf β' .empty = Nothing := by funext a; exact propext ⟨fun h => own_empty a h, False.elim⟩
    rw [e0] at q6
    have hsub : Sub .empty s' := fun g e h => (by cases h)
    refine ⟨β', [], u, rfl, trivial, fun g hg => by simp at hg, hsub.stOk q4, q6.less hsub.own, ?_⟩
    have e1 : (match A.dec as with | some x => r x | none => .unk) = r x := by rw [hx]
    change Rep β' w' _ (match A.dec as with | some x => r x | none => .unk) u
    rw [e1]
    exact (frz_sound q4 q1 q5).mono fun a ha => ha.elim id fun ha => (own_empty a ha).elim

theorem fn_scal (S : Sys P C) (hm : ConMono C) (hmix : P.follows .mixedOrders = true) {f : FuncId} {fn : Func} {b : Code} {G : GCode} (hf : P.funcs[f]? = some fn) (hb : fn.body = some b) (hG : toG C fn.ntmps b = some G.strip)
    {α : Type} {A : Arms α} {p : α → Prop} {r : α → AV} (hr : ∀ x, (r x).scal = true)
    (hc : ∀ x, p x → (A.enc x).length ≤ fn.ntmps ∧ avp C G (Ret C fn.results.toList fun v _ => v = r x) (entry (A.enc x) .empty)) :
    ScalOk P f (fun as => ∃ x, A.dec as = some x ∧ p x) fun as => match A.dec as with | some x => r x | none => .unk := by
  rintro as vs β w O h1 h2 h3 ha ⟨x, hx, hp⟩
  obtain ⟨hl, hv⟩ := hc x hp
  obtain ⟨la, sa⟩ := A.sound as x hx
  have hs := empty_ok h1 h2 h3
  have ha' : Args β w (Or2 O (OwnOf β .empty)) (A.enc x) vs := by
    refine ⟨la ▸ ha.1, fun i hi => ?_⟩
    exact (sa β w O (fun i => vs.getD i undef) ha.2 i (by omega)).mono fun a h => h.elim id fun h => (own_empty a h).elim
  refine (fn_calls S hm hmix hf hb hG (Q := fun v _ => v = r x) hl hs ha' ?_).mono ?_
  · refine avp_mono hm G _ _ _ (fun e σ he => ?_) hv
    cases e with
    | normal => exact ⟨he.1, _, fun _ _ h => h, he.2⟩
    | ret => exact ⟨he.1, _, fun _ _ h => h, he.2⟩
    | _ => exact he.elim
  · rintro e w' ⟨β', v, s', u, rfl, rfl, q4, q5, q6, q7⟩
    have : OwnOf β .empty = Nothing := by funext a; exact propext ⟨fun h => own_empty a h, False.elim⟩
    rw [this] at q6
    refine ⟨_, β', u, rfl, q6, fun β w _ => ?_⟩
    have e1 : (match A.dec as with | some x => r x | none => .unk) = r x := by rw [hx]
    change Rep β w _ (match A.dec as with | some x => r x | none => .unk) u
    rw [e1]
    exact scal_any q5 (hr x)

end
end Go.Eng

namespace Go.Eng
section
variable {C : Ctx} {s : Store} {T e : TypeId} {a b a' b' : Nat} {z z' : List TV} {σ : St} {K : St → Prop} {d : Option Nat}

/-! ### Code -/
theorem avp_skip {Q : Exit → St → Prop} : avp C .skip Q σ = Q .normal σ := rfl
theorem avp_region {l : List GOp} {Q : Exit → St → Prop} : avp C (.region l) Q σ = aOps C l (Q .normal) σ := rfl
theorem avp_orders {t : OTree} {Q : Exit → St → Prop} : avp C (.orders t) Q σ = avpT C t (Q .normal) σ := rfl
theorem avpT_done {K : St → Prop} : avpT C .done K σ = K σ := rfl
theorem avpT_one {o : GOp} {t : OTree} {K : St → Prop} : avpT C (.one o t) K σ = aOp C o (avpT C t K) σ := rfl
theorem avpT_both {a b : OTree} {K : St → Prop} : avpT C (.both a b) K σ = (avpT C a K σ ∧ avpT C b K σ) := rfl
theorem avp_seq {a b : GCode} {Q : Exit → St → Prop} : avp C (.seq a b) Q σ = avp C a (Exit.thenA (avp C b Q) Q) σ := rfl
def condA (x : AV) (p q : Prop) : Prop :=
  match x with
  | .t (.bool b) => (b = true → p) ∧ (b = false → q)
  | _ => False
theorem condA_bool {b : Bool} {p q : Prop} : condA (.t (.bool b)) p q = ((b = true → p) ∧ (b = false → q)) := rfl
theorem avp_cond {c : Operand} {x y : GCode} {Q : Exit → St → Prop} : avp C (.cond c x y) Q σ = condA (σ.ev c) (avp C x Q σ) (avp C y Q σ) := rfl
theorem avp_block {id : Nat} {b : GCode} {Q : Exit → St → Prop} : avp C (.block id b) Q σ = avp C b (Exit.inBlockA id Q) σ := rfl
theorem avp_exit {id : Nat} {Q : Exit → St → Prop} : avp C (.exit id) Q σ = Q (.exit id) σ := rfl
theorem avp_ret {Q : Exit → St → Prop} : avp C .ret Q σ = Q .ret σ := rfl
theorem aOps_nil : aOps C [] K σ = K σ := rfl
theorem aOps_cons {o : GOp} {r : List GOp} : aOps C (o :: r) K σ = aOp C o (aOps C r K) σ := rfl

theorem then_normal {next : St → Prop} {Q : Exit → St → Prop} : Exit.thenA next Q .normal σ = next σ := rfl
theorem then_exit {next : St → Prop} {Q : Exit → St → Prop} {id : Nat} : Exit.thenA next Q (.exit id) σ = Q (.exit id) σ := rfl
theorem then_ret {next : St → Prop} {Q : Exit → St → Prop} : Exit.thenA next Q .ret σ = Q .ret σ := rfl
theorem in_normal {id : Nat} {Q : Exit → St → Prop} : Exit.inBlockA id Q .normal σ = Q .normal σ := rfl
theorem in_ret {id : Nat} {Q : Exit → St → Prop} : Exit.inBlockA id Q .ret σ = Q .ret σ := rfl
theorem in_exit {id k : Nat} {Q : Exit → St → Prop} : Exit.inBlockA id Q (.exit k) σ = if k = id then Q .normal σ else Q (.exit k) σ := rfl

/-! ### Operands -/
theorem ev_tmp {t : Nat} : σ.ev (.tmp t) = σ.get t := rfl
theorem ev_int {k : IntKind} {n : Int} : σ.ev (.const (.int k n)) = .t (.int k n) := rfl
theorem ev_bool {b : Bool} : σ.ev (.const (.bool b)) = .t (.bool b) := rfl
theorem ev_str {l : ByteArray} : σ.ev (.const (.string l)) = .t (.str l.data.toList) := rfl
theorem ev_nilS : σ.ev (.const (.slice none 0 0)) = .t .nilS := rfl
theorem ev_nilP : σ.ev (.const (.pointer none)) = .t .nilP := rfl
theorem ev_func {f : FuncId} : σ.ev (.func f) = .fn f [] := rfl

/-! ### Operations -/
theorem op_move {x : Operand} : aOp C ⟨d, none, .move x⟩ K σ = K (σ.put d (σ.ev x)) := by simp [aOp, barOf, gB, opB, gT_val]
theorem op_assign {x : Operand} : aOp C ⟨d, none, .assign x⟩ K σ = K (σ.put d (σ.ev x)) := by simp [aOp, barOf, gB, opB, gT_val]
theorem op_pick {c x y : Operand} : aOp C ⟨d, none, .pick c x y⟩ K σ = gT (pickB (σ.ev c) (σ.ev x) (σ.ev y)) d K σ := rfl
theorem op_alloc {T : TypeId} : aOp C ⟨d, none, .alloc T⟩ K σ = gT (allocB C T) d K σ := rfl
theorem op_box {T : TypeId} {x : Operand} : aOp C ⟨d, none, .box T x⟩ K σ = gT (boxB (σ.ev x)) d K σ := rfl
theorem op_build {T : TypeId} {ps : Array (Nat × Operand)} : aOp C ⟨d, none, .build T ps⟩ K σ = gT (buildB C T (ps.toList.map fun p => (p.1, σ.ev p.2))) d K σ := rfl
theorem op_buildSlice {T : TypeId} {n : Nat} {ps : Array (Nat × Operand)} : aOp C ⟨d, none, .buildSlice T n ps⟩ K σ = gT (buildSliceB C σ.st T n (ps.toList.map fun p => (p.1, σ.ev p.2))) d K σ := rfl
theorem op_load {T : TypeId} {x : Operand} : aOp C ⟨d, none, .load T x⟩ K σ = gT (loadB C σ.st T (σ.ev x)) d K σ := rfl
theorem op_nil {x : Operand} : aOp C ⟨d, none, .nilCheck x⟩ K σ = gT (nilB (σ.ev x)) d K σ := rfl
theorem op_bin {op : BinOp} {T u : TypeId} {x y : Operand} : aOp C ⟨d, none, .binOp op T x y u⟩ K σ = gT (binB C T op (σ.ev x) (σ.ev y)) d K σ := rfl
theorem op_un {op : UnOp} {T : TypeId} {x : Operand} : aOp C ⟨d, none, .unOp op T x⟩ K σ = gT (unB op (σ.ev x)) d K σ := rfl
theorem op_conv {T T' : TypeId} {x : Operand} : aOp C ⟨d, none, .convert T T' x⟩ K σ = gT (convB C σ.st T T' (σ.ev x)) d K σ := rfl
theorem op_makeSlice {T : TypeId} {x y : Operand} : aOp C ⟨d, none, .makeSlice T x y⟩ K σ = gT (makeSliceB C T (σ.ev x) (σ.ev y)) d K σ := rfl
theorem op_slice {T : TypeId} {x : Operand} {lo hi mx : Option Operand} : aOp C ⟨d, none, .slice T x lo hi mx⟩ K σ = gT (sliceB C T (σ.ev x) (lo.map σ.ev) (hi.map σ.ev) (mx.map σ.ev)) d K σ := rfl
theorem op_fieldAddr {T : TypeId} {x : Operand} {n : Nat} : aOp C ⟨d, none, .fieldAddr T x n⟩ K σ = gT (fieldAddrB C T (σ.ev x) n) d K σ := rfl
theorem op_field {T : TypeId} {x : Operand} {n : Nat} : aOp C ⟨d, none, .field T x n⟩ K σ = gT (fieldB C T (σ.ev x) n) d K σ := rfl
theorem op_indexAddr {T : TypeId} {x i : Operand} : aOp C ⟨d, none, .indexAddr T x i⟩ K σ = gT (idxB C T (σ.ev x) (σ.ev i)) d K σ := rfl
theorem op_index {T : TypeId} {x i : Operand} : aOp C ⟨d, none, .index T x i⟩ K σ = gT (indexB C T (σ.ev x) (σ.ev i)) d K σ := rfl
theorem op_extract {x : Operand} {n : Nat} : aOp C ⟨d, none, .extract x n⟩ K σ = gT (extB (σ.ev x) n) d K σ := rfl
theorem op_len {T : TypeId} {x : Operand} {ts : List TypeId} : aOp C ⟨d, none, .call ⟨.builtin .len, #[x], ⟨T :: ts⟩⟩⟩ K σ = gT (lenB C T (σ.ev x)) d K σ := rfl
theorem op_min {x y : Operand} {ts : Array TypeId} : aOp C ⟨d, none, .call ⟨.builtin .min, #[x, y], ts⟩⟩ K σ = gT (minB (σ.ev x) (σ.ev y)) d K σ := rfl
theorem op_max {x y : Operand} {ts : Array TypeId} : aOp C ⟨d, none, .call ⟨.builtin .max, #[x, y], ts⟩⟩ K σ = gT (maxB (σ.ev x) (σ.ev y)) d K σ := rfl
theorem op_store {T : TypeId} {x v : Operand} : aOp C ⟨none, none, .store T x v⟩ K σ = storeT C T (σ.ev x) (σ.ev v) (fun s => K { σ with st := s }) σ.st := by
  simp [aOp, barOf, barT]
/-- append, as to its result as a value. -/
def appendV (C : Ctx) (T : TypeId) (x y : AV) (K : AV → Store → Prop) (s : Store) : Prop := appendT C T x y (fun g s n len => K (.tok g n 0 len) s) s

theorem op_append {T : TypeId} {x y : Operand} : aOp C ⟨d, none, .call ⟨.builtin .append, #[x, y], #[T, T]⟩⟩ K σ = appendV C T (σ.ev x) (σ.ev y) (fun v s => K (({ σ with st := s } : St).put d v)) σ.st := by
  simp [aOp, barOf, barT, appendV]

/-- What a contract says to arguments that are only read. -/
def callV (C : Ctx) (f : FuncId) (as : List AV) (ros : List Nat) : B :=
  match C.con f with
  | some (.pure c es mk) => ⟨c as, ros, es as, mk as⟩
  | some (.scal c r) => .val (c as) (r as)
  | _ => .no

def callK (C : Ctx) (f : FuncId) (o : Option (List AV × List Nat)) : B :=
  match o with
  | some (as, ros) => callV C f as ros
  | none => .no

theorem callB_eq {f : FuncId} {args : List AV} : callB C s f args = callK C f (s.borrows args) := by
  unfold callB callK callV
  cases C.con f with
  | none => cases s.borrows args <;> rfl
  | some k => cases k <;> cases s.borrows args <;> rfl

theorem callK_some {f : FuncId} {as : List AV} {ros : List Nat} : callK C f (some (as, ros)) = callV C f as ros := rfl

def conGentle : Option Con → Bool
  | some (.gen _ _) => false
  | _ => true

theorem op_call {f : FuncId} {args : Array Operand} {ts : Array TypeId} (h : conGentle (C.con f) = true) : aOp C ⟨d, none, .call ⟨.value (.func f), args, ts⟩⟩ K σ = gT (callK C f (σ.st.borrows (args.toList.map σ.ev))) d K σ := by
  have hb : barOf C (.call ⟨.value (.func f), args, ts⟩) = none := by
    unfold barOf
    dsimp only
    split
    · next h' => rw [h'] at h; cases h
    · rfl
  rw [aOp_go hb]
  have e : opB C σ.ev σ.st (.call ⟨.value (.func f), args, ts⟩) = callK C f (σ.st.borrows (args.toList.map σ.ev)) := by
    simp [opB, calleeB, St.ev, callB_eq]
  rw [e]

/-- A contract by functions, at decoded arguments. -/
def decK {α : Type} (o : Option α) (p : α → Prop) (r : α → AV) (ros : List Nat) : B :=
  match o with
  | some x => ⟨p x, ros, [], fun _ => r x⟩
  | none => ⟨False, ros, [], fun _ => .unk⟩
def decS {α : Type} (o : Option α) (p : α → Prop) (r : α → AV) : B :=
  match o with
  | some x => .val (p x) (r x)
  | none => .no

theorem decK_some {α : Type} {x : α} {p : α → Prop} {r : α → AV} {ros : List Nat} : decK (some x) p r ros = ⟨p x, ros, [], fun _ => r x⟩ := rfl
theorem decS_some {α : Type} {x : α} {p : α → Prop} {r : α → AV} : decS (some x) p r = .val (p x) (r x) := rfl

theorem callV_fn {f : FuncId} {as : List AV} {ros : List Nat} {α : Type} {A : Arms α} {p : α → Prop} {r : α → AV} (h : C.con f = some (fnCon A p r)) : callV C f as ros = decK (A.dec as) p r ros := by
  unfold callV fnCon at *
  rw [h]
  dsimp only
  cases A.dec as with
  | none => simp [decK]
  | some x => simp [decK]

theorem callV_scal {f : FuncId} {as : List AV} {ros : List Nat} {α : Type} {A : Arms α} {p : α → Prop} {r : α → AV} (h : C.con f = some (fnScal A p r)) : callV C f as ros = decS (A.dec as) p r := by
  unfold callV fnScal at *
  rw [h]
  dsimp only
  cases A.dec as with
  | none => simp [decS, B.val, B.no]
  | some x => simp [decS]

theorem gT_ros {c : Prop} {ros : List Nat} {av : List Nat → AV} : gT ⟨c, ros, [], av⟩ d K σ = (c ∧ K (({ σ with st := σ.st.marks ros } : St).put d (av []))) := by
  refine propext ⟨fun ⟨h1, h2⟩ => ⟨h1, h2 [] trivial⟩, fun ⟨h1, h2⟩ => ⟨h1, fun gs hg => ?_⟩⟩
  cases gs with
  | nil => exact h2
  | cons _ _ => exact hg.elim

theorem marks_nil : s.marks [] = s := rfl
theorem st_eta : ({ σ with st := σ.st } : St) = σ := rfl

/-! ### Arguments as they are lent, and read -/
theorem borrows_nil : s.borrows [] = some ([], []) := rfl
def consB (p : Option (AV × List Nat)) (q : Option (List AV × List Nat)) : Option (List AV × List Nat) :=
  match p, q with
  | some (x, a), some (xs, b) => some (x :: xs, a ++ b)
  | _, _ => none
theorem consB_some {x : AV} {a b : List Nat} {xs : List AV} : consB (some (x, a)) (some (xs, b)) = some (x :: xs, a ++ b) := rfl
theorem borrows_cons {v : AV} {r : List AV} : s.borrows (v :: r) = consB (s.borrow v) (s.borrows r) := by
  simp only [Store.borrows, consB]
  cases s.borrow v <;> cases s.borrows r <;> rfl
theorem borrow_t {x : TV} : s.borrow (.t x) = some (.t x, []) := rfl
theorem borrow_fn {f : FuncId} : s.borrow (.fn f []) = some (.fn f [], []) := rfl
theorem borrow_agg {cs : List AV} : s.borrow (.agg cs) = (s.borrowAll cs).map fun p => (.agg (p.1.map .t), p.2) := rfl
theorem borrow_tok {g n off len : Nat} : s.borrow (.tok g n off len) = (s.borrow1 (.tok g n off len)).map fun p => (.t p.1, p.2) := rfl
theorem borrowAll_nil : s.borrowAll [] = some ([], []) := rfl
def consA (p : Option (TV × List Nat)) (q : Option (List TV × List Nat)) : Option (List TV × List Nat) :=
  match p, q with
  | some (x, a), some (xs, b) => some (x :: xs, a ++ b)
  | _, _ => none
theorem consA_some {x : TV} {a b : List Nat} {xs : List TV} : consA (some (x, a)) (some (xs, b)) = some (x :: xs, a ++ b) := rfl
theorem borrowAll_cons {v : AV} {r : List AV} : s.borrowAll (v :: r) = consA (s.borrow1 v) (s.borrowAll r) := by
  simp only [Store.borrowAll, consA]
  cases s.borrow1 v <;> cases s.borrowAll r <;> rfl
theorem borrow1_t {x : TV} : s.borrow1 (.t x) = some (x, []) := rfl

theorem arms_cons {α β : Type} {x : Arg α} {r : Arms β} {v : AV} {t : List AV} : (Arms.cons x r).dec (v :: t) = (x.dec v).bind fun a => (r.dec t).map fun b => (a, b) := rfl
theorem arms_nil : Arms.nil.dec [] = some () := rfl
theorem argT_int {k : Int} : (argT Int).dec (.t (.int .i64 k)) = some k := rfl
theorem argT_bool {k : Bool} : (argT Bool).dec (.t (.bool k)) = some k := rfl
theorem argT_str {k : List UInt8} : (argT (List UInt8)).dec (.t (.str k)) = some k := rfl
theorem argT_u32 {n : UInt32} : (argT UInt32).dec (.t (.int .u32 (n.toNat : Int))) = some n := Cell.dec_enc n
theorem argT_byt {n : UInt8} : (argT Byt).dec (.t (.int .u8 (n.toNat : Int))) = some ⟨n⟩ := Cell.dec_enc (⟨n⟩ : Byt)
theorem argT_sl {α : Type} [Cell α] {l : List α} : (argT (List α)).dec (.t (sl l)) = some l := Cell.dec_enc l
theorem argT_nilS {α : Type} [Cell α] : (argT (List α)).dec (.t .nilS) = some [] := rfl
theorem argT_emp {α : Type} [Cell α] : (argT (List α)).dec (.t .emp) = some [] := rfl
theorem argA_enc {α : Type} [Cell α] {x : α} : (argA α).dec (.agg ((Cell.enc x).map .t)) = some x := by simp [argA, tvs_of, Cell.dec_enc]

/-! ### Results -/
def retK (C : Ctx) (σ : St) : List ResultVar → (List AV → Prop) → Prop
  | [], K => K []
  | .tmp t :: r, K => retK C σ r fun l => K (σ.get t :: l)
  | .cell a t :: r, K => (loadB C σ.st t (σ.get a)).c ∧ retK C σ r fun l => K ((loadB C σ.st t (σ.get a)).av [] :: l)

theorem retK_nil {σ : St} {K : List AV → Prop} : retK C σ [] K = K [] := rfl
theorem retK_tmp {σ : St} {t : Nat} {r : List ResultVar} {K : List AV → Prop} : retK C σ (.tmp t :: r) K = retK C σ r fun l => K (σ.get t :: l) := rfl
theorem retK_cell {σ : St} {a t : Nat} {r : List ResultVar} {K : List AV → Prop} : retK C σ (.cell a t :: r) K = ((loadB C σ.st t (σ.get a)).c ∧ retK C σ r fun l => K ((loadB C σ.st t (σ.get a)).av [] :: l)) := rfl

theorem retK_eq {σ : St} : ∀ (rs : List ResultVar) (K : List AV → Prop), ((∀ r ∈ rs, (resB C σ r).c) ∧ K (rs.map fun r => (resB C σ r).av [])) = retK C σ rs K
  | [], K => by simp [retK]
  | .tmp t :: r, K => by
    rw [retK, ← retK_eq r fun l => K (σ.get t :: l)]
    simp [resB, B.val]
  | .cell a t :: r, K => by
    rw [retK, ← retK_eq r fun l => K ((loadB C σ.st t (σ.get a)).av [] :: l)]
    simp only [List.mem_cons, forall_eq_or_imp, List.map_cons, resB, and_assoc]

theorem ret_ret {rs : List ResultVar} {Q : AV → Store → Prop} {σ : St} : Ret C rs Q .ret σ = retK C σ rs fun l => Q (packA l) σ.st := (retK_eq rs fun l => Q (packA l) σ.st)
theorem ret_normal {rs : List ResultVar} {Q : AV → Store → Prop} {σ : St} : Ret C rs Q .normal σ = retK C σ rs fun l => Q (packA l) σ.st := (retK_eq rs fun l => Q (packA l) σ.st)
theorem pack_one {x : AV} : packA [x] = x := rfl
theorem pack_two {x y : AV} {r : List AV} : packA (x :: y :: r) = .tup (x :: y :: r) := rfl
theorem pack_nil : packA [] = .tup [] := rfl

theorem frz_tup {vs us : List AV} : Frz s (.tup vs) (.tup us) = FrzT s vs us := propext ⟨fun ⟨_, h, h'⟩ => by cases h; exact h', fun h => ⟨_, rfl, h⟩⟩
theorem frz_t {v : AV} {x : TV} : Frz s v (.t x) = Frz1 s v x := rfl
theorem frz_agg {cs us : List AV} : Frz s (.agg cs) (.agg us) = FrzL s cs us := propext ⟨fun ⟨_, h, h'⟩ => by cases h; exact h', fun h => ⟨_, rfl, h⟩⟩
theorem frz2_t {v : AV} {x : TV} : Frz2 s v (.t x) = Frz1 s v x := rfl
theorem frz2_agg {cs us : List AV} : Frz2 s (.agg cs) (.agg us) = FrzL s cs us := propext ⟨fun ⟨_, h, h'⟩ => by cases h; exact h', fun h => ⟨_, rfl, h⟩⟩
theorem frzT_cons {v u : AV} {vs us : List AV} : FrzT s (v :: vs) (u :: us) = (Frz2 s v u ∧ FrzT s vs us) := rfl
theorem frzT_nil : FrzT s [] [] = True := rfl
theorem frzL_cons {v : AV} {u : TV} {vs us : List AV} : FrzL s (v :: vs) (.t u :: us) = (Frz1 s v u ∧ FrzL s vs us) := by
  simp only [FrzL, AV.t.injEq]
  refine propext ⟨fun ⟨⟨_, e, h⟩, h'⟩ => ⟨e ▸ h, h'⟩, fun ⟨h, h'⟩ => ⟨⟨_, rfl, h⟩, h'⟩⟩
theorem frzL_nil : FrzL s [] [] = True := rfl
theorem frz1_t {x : TV} : Frz1 s (.t x) x = True := propext ⟨fun _ => trivial, fun _ => .inl rfl⟩
theorem frz1_nilS {α : Type} [Cell α] : Frz1 s (.t .nilS) (sl ([] : List α)) = True := propext ⟨fun _ => trivial, fun _ => .inr (.inl ⟨_, rfl, .inl rfl⟩)⟩

end
end Go.Eng

namespace Go.Eng
section
variable {C : Ctx} {s : Store} {T e : TypeId} {σ : St} {K : St → Prop} {d : Option Nat} {k k' : IntKind} {x y : Int}

/-! ### Numbers, bools, texts -/
theorem beq_dec {α : Type} [BEq α] [LawfulBEq α] [DecidableEq α] (x y : α) : (x == y) = decide (x = y) := by
  rw [Bool.eq_iff_iff]; simp
theorem bne_dec {α : Type} [BEq α] [LawfulBEq α] [DecidableEq α] (x y : α) : (x != y) = !decide (x = y) := by
  rw [bne, beq_dec]

theorem bin_add : binB C T .add (.t (.int k x)) (.t (.int k y)) = .val True (.t (.int k (k.wrap (x + y)))) := by simp [binB, intBin, orNone]
theorem bin_sub : binB C T .sub (.t (.int k x)) (.t (.int k y)) = .val True (.t (.int k (k.wrap (x - y)))) := by simp [binB, intBin, orNone]
theorem bin_mul : binB C T .mul (.t (.int k x)) (.t (.int k y)) = .val True (.t (.int k (k.wrap (x * y)))) := by simp [binB, intBin, orNone]
theorem bin_quo : binB C T .quo (.t (.int k x)) (.t (.int k y)) = .val (y ≠ 0) (.t (.int k (k.wrap (x.tdiv y)))) := by simp [binB, intBin, orNone]
theorem bin_rem : binB C T .rem (.t (.int k x)) (.t (.int k y)) = .val (y ≠ 0) (.t (.int k (x.tmod y))) := by simp [binB, intBin, orNone]
theorem bin_and : binB C T .and (.t (.int k x)) (.t (.int k y)) = .val True (.t (.int k (k.wrap (BitVec.ofInt k.bits x &&& BitVec.ofInt k.bits y).toNat))) := by simp [binB, intBin, orNone]
theorem bin_or : binB C T .or (.t (.int k x)) (.t (.int k y)) = .val True (.t (.int k (k.wrap (BitVec.ofInt k.bits x ||| BitVec.ofInt k.bits y).toNat))) := by simp [binB, intBin, orNone]
theorem bin_xor : binB C T .xor (.t (.int k x)) (.t (.int k y)) = .val True (.t (.int k (k.wrap (BitVec.ofInt k.bits x ^^^ BitVec.ofInt k.bits y).toNat))) := by simp [binB, intBin, orNone]
theorem bin_shl : binB C T .shl (.t (.int k x)) (.t (.int k' y)) = .val (0 ≤ y) (.t (.int k (k.wrap (x * 2 ^ min y.toNat k.bits)))) := by simp [binB, intBin, orNone]
theorem bin_shr : binB C T .shr (.t (.int k x)) (.t (.int k' y)) = .val (0 ≤ y) (.t (.int k (x.fdiv (2 ^ min y.toNat k.bits)))) := by simp [binB, intBin, orNone]
theorem bin_eql : binB C T .eql (.t (.int k x)) (.t (.int k y)) = .val True (.t (.bool (decide (x = y)))) := by simp [binB, intBin, orNone, beq_dec]
theorem bin_neq : binB C T .neq (.t (.int k x)) (.t (.int k y)) = .val True (.t (.bool (!decide (x = y)))) := by simp [binB, intBin, orNone, bne_dec]
theorem bin_lss : binB C T .lss (.t (.int k x)) (.t (.int k y)) = .val True (.t (.bool (decide (x < y)))) := by simp [binB, intBin, orNone]
theorem bin_leq : binB C T .leq (.t (.int k x)) (.t (.int k y)) = .val True (.t (.bool (decide (x ≤ y)))) := by simp [binB, intBin, orNone]
theorem bin_gtr : binB C T .gtr (.t (.int k x)) (.t (.int k y)) = .val True (.t (.bool (decide (y < x)))) := by simp [binB, intBin, orNone]
theorem bin_geq : binB C T .geq (.t (.int k x)) (.t (.int k y)) = .val True (.t (.bool (decide (y ≤ x)))) := by simp [binB, intBin, orNone]
theorem sbin_add {a b : List UInt8} : binB C T .add (.t (.str a)) (.t (.str b)) = .val (a.length + b.length ≤ 9223372036854775807) (.t (.str (a ++ b))) := by simp [binB, strBin, orNone]
theorem sbin_eql {a b : List UInt8} : binB C T .eql (.t (.str a)) (.t (.str b)) = .val True (.t (.bool (decide (a = b)))) := by simp [binB, strBin, orNone, beq_dec]
theorem sbin_neq {a b : List UInt8} : binB C T .neq (.t (.str a)) (.t (.str b)) = .val True (.t (.bool (!decide (a = b)))) := by simp [binB, strBin, orNone, bne_dec]
theorem sbin_lss {a b : List UInt8} : binB C T .lss (.t (.str a)) (.t (.str b)) = .val True (.t (.bool (Op.bytesLess a b))) := by simp [binB, strBin, orNone]
theorem bbin_eql {a b : Bool} {n m : Nat} {z : List TV} (h : C.ty T = some ⟨.bool, n, m, z⟩) : binB C T .eql (.t (.bool a)) (.t (.bool b)) = .val True (.t (.bool (a == b))) := by
  simp [binB, h, isBool]
theorem bbin_neq {a b : Bool} {n m : Nat} {z : List TV} (h : C.ty T = some ⟨.bool, n, m, z⟩) : binB C T .neq (.t (.bool a)) (.t (.bool b)) = .val True (.t (.bool (a != b))) := by
  simp [binB, h, isBool]
theorem un_not {b : Bool} : unB .not (.t (.bool b)) = .val True (.t (.bool !b)) := rfl
theorem un_neg : unB .neg (.t (.int k x)) = .val True (.t (.int k (k.wrap (0 - x)))) := rfl
theorem min_int : minB (.t (.int k x)) (.t (.int k y)) = .val True (.t (.int k (min x y))) := by simp [minB]
theorem max_int : maxB (.t (.int k x)) (.t (.int k y)) = .val True (.t (.int k (max x y))) := by simp [maxB]
theorem conv_int {n m n' m' : Nat} {z z' : List TV} {j : IntKind} {T' : TypeId} (h : C.ty T = some ⟨.int k, n, m, z⟩) (h' : C.ty T' = some ⟨.int k', n', m', z'⟩) :
    convB C s T T' (.t (.int j x)) = .val True (.t (.int k' (k'.wrap x))) := by simp [convB, h, h']
theorem conv_str {n m n' m' : Nat} {z z' : List TV} {T' : TypeId} {a : List UInt8} (h : C.ty T = some ⟨.str, n, m, z⟩) (h' : C.ty T' = some ⟨.str, n', m', z'⟩) :
    convB C s T T' (.t (.str a)) = .val True (.t (.str a)) := by simp [convB, h, h']

theorem ext_tup {vs : List AV} {i : Nat} : extB (.tup vs) i = .val (i < vs.length) (vs.getD i .unk) := rfl
theorem nil_ptr {g off : Nat} : nilB (.ptr g off) = .val True (.ptr g off) := rfl
theorem nil_eptr {g n i off : Nat} : nilB (.eptr g n i off) = .val True (.eptr g n i off) := rfl
theorem nil_imm {c : List TV} : nilB (.imm c) = .val True (.imm c) := rfl
theorem nil_fn {f : FuncId} {c : List AV} : nilB (.fn f c) = .val True (.fn f c) := rfl

theorem val_c {c : Prop} {v : AV} : (B.val c v).c = c := rfl
theorem val_av {c : Prop} {v : AV} {gs : List Nat} : (B.val c v).av gs = v := rfl
theorem val_ros {c : Prop} {v : AV} : (B.val c v).ros = [] := rfl
theorem val_es {c : Prop} {v : AV} : (B.val c v).es = [] := rfl

/-! ### Both, either; guards -/
theorem pick_bool {c a b : Bool} : pickB (.t (.bool c)) (.t (.bool a)) (.t (.bool b)) = .val True (.t (.bool (bif c then a else b))) := by simp [pickB, AV.asB]
theorem asB_bool0 {v : Bool} : (AV.t (.bool v)).asB = (True, v) := rfl
theorem pick_or {c w : Bool} {x : AV} : pickB (.t (.bool c)) (.t (.bool true)) (.opt w x) = .val ((c = false → (AV.opt w x).asB.1)) (.t (.bool (c || (AV.opt w x).asB.2))) := by
  cases c <;> simp [pickB, asB_bool0]
theorem pick_and {c w : Bool} {x : AV} : pickB (.t (.bool c)) (.opt w x) (.t (.bool false)) = .val ((c = true → (AV.opt w x).asB.1)) (.t (.bool (c && (AV.opt w x).asB.2))) := by
  cases c <;> simp [pickB, asB_bool0]
theorem asB_opt {w v : Bool} : (AV.opt w (.t (.bool v))).asB = (w = true, v) := rfl
theorem asB_bool {v : Bool} : (AV.t (.bool v)).asB = (True, v) := rfl

def guardK (o : Option Bool) (ok : Prop) (b : B) (live : Prop) (d : Option Nat) (K : St → Prop) (σ : St) : Prop :=
  match o with
  | some true => ((ok ∧ b.c) ∧ live) ∧ ∀ gs, Fresh (σ.st.marks b.ros) gs b.es → K ((σ.eff b.ros gs b.es).put d (.opt true (b.av gs)))
  | some false => K (σ.put d (.opt false .unk))
  | none => False

theorem guard_some {ok c live : Prop} {v : AV} : guardK (some true) ok (.val c v) live d K σ = ((ok ∧ c) ∧ live ∧ K (σ.put d (.opt true v))) := by
  refine propext ⟨fun ⟨⟨h1, h2⟩, h3⟩ => ⟨h1, h2, h3 [] trivial⟩, fun ⟨h1, h2, h3⟩ => ⟨⟨h1, h2⟩, fun gs hg => ?_⟩⟩
  cases gs with
  | nil => exact h3
  | cons _ _ => exact hg.elim

theorem op_guard {j : Nat} {want : Bool} {op : Op} (hp : isPick op = false) (hb : barOf C op = none) :
    aOp C ⟨d, some (j, want), op⟩ K σ = guardK ((σ.get j).wanted want) (okAll σ.ev op.operands.toList) (opBg C (fun x => (σ.ev x).strip) σ.st op) (liveB (fun x => (σ.ev x).strip) σ.st op) d K σ := by
  unfold aOp
  rw [hb]
  dsimp only
  unfold gT gB guardK
  dsimp only
  rw [hp]
  simp only [Bool.false_eq_true, if_false]
  cases (σ.get j).wanted want with
  | none => simp [B.no]
  | some wb =>
    cases wb with
    | false =>
      dsimp only
      refine propext ⟨fun ⟨_, h2⟩ => h2 [] trivial, fun h2 => ⟨trivial, fun gs hg => ?_⟩⟩
      cases gs with
      | nil => exact h2
      | cons _ _ => exact hg.elim
    | true =>
    dsimp only
    exact propext ⟨fun ⟨h1, h2⟩ => ⟨by simpa using h1, h2⟩, fun ⟨h1, h2⟩ => ⟨by simpa using h1, h2⟩⟩

theorem op_guard_pick {j : Nat} {want : Bool} {c x y : Operand} :
    aOp C ⟨d, some (j, want), .pick c x y⟩ K σ = guardK ((σ.get j).wanted want) True (pickB (σ.ev c) (σ.ev x) (σ.ev y)) True d K σ := by
  have hb : barOf C (.pick c x y) = none := rfl
  unfold aOp
  rw [hb]
  dsimp only
  unfold gT gB guardK
  dsimp only
  simp only [isPick, if_true]
  cases (σ.get j).wanted want with
  | none => simp [B.no]
  | some wb =>
    cases wb with
    | false =>
      dsimp only
      refine propext ⟨fun ⟨_, h2⟩ => h2 [] trivial, fun h2 => ⟨trivial, fun gs hg => ?_⟩⟩
      cases gs with
      | nil => exact h2
      | cons _ _ => exact hg.elim
    | true =>
    dsimp only
    have e : opB C σ.ev σ.st (.pick c x y) = pickB (σ.ev c) (σ.ev x) (σ.ev y) := rfl
    rw [e]
    have e2 : liveB (fun x => (σ.ev x).strip) σ.st (.pick c x y) = True := rfl
    rw [e2]
    exact propext ⟨fun ⟨h1, h2⟩ => ⟨by simpa using h1, h2⟩, fun ⟨h1, h2⟩ => ⟨by simpa using h1, h2⟩⟩

theorem wanted_bool {b want : Bool} : AV.wanted want (.t (.bool b)) = some (b == want) := rfl
theorem wanted_opt {c b want : Bool} : AV.wanted want (.opt c (.t (.bool b))) = some (c && (b == want)) := rfl
theorem wanted_off {v : AV} {want : Bool} : AV.wanted want (.opt false v) = some false := by
  cases v with
  | t x => cases x <;> rfl
  | _ => rfl
theorem strip_opt {c : Bool} {v : AV} : (AV.opt c v).strip = v := rfl
theorem strip_t {x : TV} : (AV.t x).strip = .t x := rfl
theorem strip_tok {g n o l : Nat} : (AV.tok g n o l).strip = .tok g n o l := rfl
theorem strip_ptr {g o : Nat} : (AV.ptr g o).strip = .ptr g o := rfl
theorem strip_eptr {g n i o : Nat} : (AV.eptr g n i o).strip = .eptr g n i o := rfl
theorem strip_imm {c : List TV} : (AV.imm c).strip = .imm c := rfl
theorem strip_agg {c : List AV} : (AV.agg c).strip = .agg c := rfl
theorem strip_tup {c : List AV} : (AV.tup c).strip = .tup c := rfl
theorem strip_fn {f : FuncId} {c : List AV} : (AV.fn f c).strip = .fn f c := rfl
theorem okc_opt {c : Bool} {v : AV} : (AV.opt c v).okc = (c = true) := rfl
theorem okc_t {x : TV} : (AV.t x).okc = True := rfl
theorem okc_tok {g n o l : Nat} : (AV.tok g n o l).okc = True := rfl
theorem okc_ptr {g o : Nat} : (AV.ptr g o).okc = True := rfl
theorem okc_eptr {g n i o : Nat} : (AV.eptr g n i o).okc = True := rfl
theorem okc_imm {c : List TV} : (AV.imm c).okc = True := rfl
theorem okc_agg {c : List AV} : (AV.agg c).okc = True := rfl
theorem okc_tup {c : List AV} : (AV.tup c).okc = True := rfl
theorem okc_fn {f : FuncId} {c : List AV} : (AV.fn f c).okc = True := rfl
theorem ok_nil {ev : Operand → AV} : okAll ev [] = True := rfl
theorem ok_cons {ev : Operand → AV} {x : Operand} {r : List Operand} : okAll ev (x :: r) = ((ev x).okc ∧ okAll ev r) := rfl

section
variable {ev : Operand → AV} {X Y Z : Operand} {T' u : TypeId}
theorem bg_move : opBg C ev s (.move X) = .val True (ev X) := rfl
theorem bg_assign : opBg C ev s (.assign X) = .val True (ev X) := rfl
theorem bg_load : opBg C ev s (.load T X) = loadB C s T (ev X) := rfl
theorem bg_bin {op : BinOp} : opBg C ev s (.binOp op T X Y u) = binB C T op (ev X) (ev Y) := rfl
theorem bg_un {op : UnOp} : opBg C ev s (.unOp op T X) = unB op (ev X) := rfl
theorem bg_conv : opBg C ev s (.convert T T' X) = convB C s T T' (ev X) := rfl
theorem bg_build {ps : Array (Nat × Operand)} : opBg C ev s (.build T ps) = buildB C T (ps.toList.map fun p => (p.1, ev p.2)) := rfl
theorem bg_buildSlice {n : Nat} {ps : Array (Nat × Operand)} : opBg C ev s (.buildSlice T n ps) = litB C s T n (ps.toList.map fun p => (p.1, ev p.2)) := rfl
theorem bg_slice {lo hi mx : Option Operand} : opBg C ev s (.slice T X lo hi mx) = sliceB C T (ev X) (lo.map ev) (hi.map ev) (mx.map ev) := rfl
theorem bg_fieldAddr {n : Nat} : opBg C ev s (.fieldAddr T X n) = fieldAddrB C T (ev X) n := rfl
theorem bg_field {n : Nat} : opBg C ev s (.field T X n) = fieldB C T (ev X) n := rfl
theorem bg_indexAddr : opBg C ev s (.indexAddr T X Y) = idxB C T (ev X) (ev Y) := rfl
theorem bg_index : opBg C ev s (.index T X Y) = indexB C T (ev X) (ev Y) := rfl
theorem bg_extract {n : Nat} : opBg C ev s (.extract X n) = extB (ev X) n := rfl
theorem bg_nil : opBg C ev s (.nilCheck X) = nilB (ev X) := rfl
theorem bg_len {ts : List TypeId} : opBg C ev s (.call ⟨.builtin .len, #[X], ⟨T :: ts⟩⟩) = lenB C T (ev X) := rfl
theorem bg_call {f : FuncId} {args : Array Operand} {ts : Array TypeId} (hev : ev (.func f) = .fn f []) : opBg C ev s (.call ⟨.value (.func f), args, ts⟩) = callK C f (s.borrows (args.toList.map ev)) := by
  simp [opBg, opB, hev, calleeB, callB_eq]
theorem live_move : liveB ev s (.move X) = True := rfl
theorem live_assign : liveB ev s (.assign X) = True := rfl
theorem live_bin {op : BinOp} : liveB ev s (.binOp op T X Y u) = True := rfl
theorem live_un {op : UnOp} : liveB ev s (.unOp op T X) = True := rfl
theorem live_build {ps : Array (Nat × Operand)} : liveB ev s (.build T ps) = True := rfl
theorem live_slice {lo hi mx : Option Operand} : liveB ev s (.slice T X lo hi mx) = True := rfl
theorem live_fieldAddr {n : Nat} : liveB ev s (.fieldAddr T X n) = True := rfl
theorem live_field {n : Nat} : liveB ev s (.field T X n) = True := rfl
theorem live_indexAddr : liveB ev s (.indexAddr T X Y) = True := rfl
theorem live_index : liveB ev s (.index T X Y) = True := rfl
theorem live_extract {n : Nat} : liveB ev s (.extract X n) = True := rfl
theorem live_nil : liveB ev s (.nilCheck X) = True := rfl
theorem live_len {ts : List TypeId} : liveB ev s (.call ⟨.builtin .len, #[X], ⟨T :: ts⟩⟩) = True := rfl
def liveL (s : Store) : AV → Prop
  | .ptr g _ => (s.f g).isSome = true
  | .eptr g .. => (s.f g).isSome = true
  | _ => True
def liveC (s : Store) : AV → Prop
  | .tok g .. => (s.f g).isSome = true
  | .btok g .. => (s.f g).isSome = true
  | _ => True
theorem live_load : liveB ev s (.load T X) = liveL s (ev X) := by
  unfold liveB liveL; dsimp only; cases ev X <;> rfl
theorem live_conv : liveB ev s (.convert T T' X) = liveC s (ev X) := by
  unfold liveB liveC; dsimp only; cases ev X <;> rfl
theorem liveL_imm {c : List TV} : liveL s (.imm c) = True := rfl
theorem liveL_ptr {g o : Nat} : liveL s (.ptr g o) = ((s.f g).isSome = true) := rfl
theorem liveL_eptr {g n i o : Nat} : liveL s (.eptr g n i o) = ((s.f g).isSome = true) := rfl
theorem liveC_t {x : TV} : liveC s (.t x) = True := rfl
theorem liveC_tok {g n o l : Nat} : liveC s (.tok g n o l) = ((s.f g).isSome = true) := rfl
theorem liveC_btok {g n o l : Nat} : liveC s (.btok g n o l) = ((s.f g).isSome = true) := rfl
theorem live_call {f : FuncId} {args : Array Operand} {ts : Array TypeId} (hev : ev (.func f) = .fn f []) : liveB ev s (.call ⟨.value (.func f), args, ts⟩) = ((s.borrows (args.toList.map ev)).isSome = true) := by
  simp [liveB, hev]
end

/-! ### By types -/
variable {α : Type} [Cell α] {n m n' m' : Nat} {z z' : List TV}

theorem str_len {a : List UInt8} (h : C.ty T = some ⟨.str, n, m, z⟩) : lenB C T (.t (.str a)) = .val True (.t (.int .i64 (a.length : Int))) := by simp [lenB, h]
theorem str_index {a : List UInt8} (h : C.ty T = some ⟨.str, n, m, z⟩) : indexB C T (.t (.str a)) (.t (.int k x)) = .val (0 ≤ x ∧ x < (a.length : Int)) (.t (.int .u8 ((a.getD x.toNat 0).toNat : Int))) := by simp [indexB, h]
theorem str_to {a : List UInt8} (h : C.ty T = some ⟨.str, n, m, z⟩) : sliceB C T (.t (.str a)) none (some (.t (.int k x))) none = .val (0 ≤ x ∧ x ≤ (a.length : Int)) (.t (.str (a.take x.toNat))) := by simp [sliceB, h, AV.intOr]
theorem str_from {a : List UInt8} (h : C.ty T = some ⟨.str, n, m, z⟩) : sliceB C T (.t (.str a)) (some (.t (.int k x))) none none = .val (0 ≤ x ∧ x ≤ (a.length : Int)) (.t (.str (a.drop x.toNat))) := by
  simp [sliceB, h, AV.intOr, B.val]
theorem str_part {a : List UInt8} (h : C.ty T = some ⟨.str, n, m, z⟩) : sliceB C T (.t (.str a)) (some (.t (.int k x))) (some (.t (.int k' y))) none = .val (0 ≤ x ∧ x ≤ y ∧ y ≤ (a.length : Int)) (.t (.str ((a.take y.toNat).drop x.toNat))) := by simp [sliceB, h, AV.intOr]
theorem str_rules (h : C.ty T = some ⟨.str, n, m, z⟩) : (∀ a, lenB C T (.t (.str a)) = .val True (.t (.int .i64 (a.length : Int)))) ∧
    (∀ a k x, indexB C T (.t (.str a)) (.t (.int k x)) = .val (0 ≤ x ∧ x < (a.length : Int)) (.t (.int .u8 ((a.getD x.toNat 0).toNat : Int)))) ∧
    (∀ a k x, sliceB C T (.t (.str a)) none (some (.t (.int k x))) none = .val (0 ≤ x ∧ x ≤ (a.length : Int)) (.t (.str (a.take x.toNat)))) ∧
    (∀ a k x, sliceB C T (.t (.str a)) (some (.t (.int k x))) none none = .val (0 ≤ x ∧ x ≤ (a.length : Int)) (.t (.str (a.drop x.toNat)))) ∧
    (∀ a k x k' y, sliceB C T (.t (.str a)) (some (.t (.int k x))) (some (.t (.int k' y))) none = .val (0 ≤ x ∧ x ≤ y ∧ y ≤ (a.length : Int)) (.t (.str ((a.take y.toNat).drop x.toNat)))) :=
  ⟨fun _ => str_len h, fun _ _ _ => str_index h, fun _ _ _ => str_to h, fun _ _ _ => str_from h, fun _ _ _ _ _ => str_part h⟩

theorem idx_sl [Inhabited α] {l : List α} {de : TyD} (h : C.ty T = some ⟨.slice e, n, m, z⟩) (he : C.ty e = some de) (hw : de.size = Cell.width α) :
    gT (idxB C T (.t (sl l)) (.t (.int k x))) d K σ = ((0 ≤ x ∧ x < (l.length : Int)) ∧ K (σ.put d (.imm (Cell.enc (l.getD x.toNat default))))) := by
  unfold idxB sl
  simp only [h, he, Option.map_some, hw, List.length_map, gT_val, true_and]
  refine propext ⟨fun ⟨h1, h2⟩ => ⟨h1, ?_⟩, fun ⟨h1, h2⟩ => ⟨h1, ?_⟩⟩
  · have hi : x.toNat < l.length := by omega
    simpa [List.getD_eq_getElem?_getD, hi] using h2
  · have hi : x.toNat < l.length := by omega
    simpa [List.getD_eq_getElem?_getD, hi] using h2

theorem sl_len {l : List α} (h : C.ty T = some ⟨.slice e, n, m, z⟩) : lenB C T (.t (sl l)) = .val True (.t (.int .i64 (l.length : Int))) := by simp [lenB, h, sl]
theorem sl_to {l : List α} {de : TyD} (h : C.ty T = some ⟨.slice e, n, m, z⟩) (he : C.ty e = some de) (hw : de.size = Cell.width α) :
    sliceB C T (.t (sl l)) none (some (.t (.int k x))) none = .val (0 ≤ x ∧ x ≤ (l.length : Int)) (.t (sl (l.take x.toNat))) := by simp [sliceB, h, he, hw, AV.intOr, sl, List.map_take]
theorem sl_from {l : List α} {de : TyD} (h : C.ty T = some ⟨.slice e, n, m, z⟩) (he : C.ty e = some de) (hw : de.size = Cell.width α) :
    sliceB C T (.t (sl l)) (some (.t (.int k x))) none none = .val (0 ≤ x ∧ x ≤ (l.length : Int)) (.t (sl (l.drop x.toNat))) := by
  simp [sliceB, h, he, hw, AV.intOr, sl, List.map_drop, List.take_of_length_le]
theorem sl_part {l : List α} {de : TyD} (h : C.ty T = some ⟨.slice e, n, m, z⟩) (he : C.ty e = some de) (hw : de.size = Cell.width α) :
    sliceB C T (.t (sl l)) (some (.t (.int k x))) (some (.t (.int k' y))) none = .val (0 ≤ x ∧ x ≤ y ∧ y ≤ (l.length : Int)) (.t (sl ((l.take y.toNat).drop x.toNat))) := by
  simp [sliceB, h, he, hw, AV.intOr, sl, List.map_drop, List.map_take]
theorem nil_len (h : C.ty T = some ⟨.slice e, n, m, z⟩) : lenB C T (.t .nilS) = .val True (.t (.int .i64 0)) := by simp [lenB, h]
theorem emp_len (h : C.ty T = some ⟨.slice e, n, m, z⟩) : lenB C T (.t .emp) = .val True (.t (.int .i64 0)) := by simp [lenB, h]
theorem tok_len {g w o l : Nat} (h : C.ty T = some ⟨.slice e, n, m, z⟩) : lenB C T (.tok g w o l) = .val True (.t (.int .i64 (l : Int))) := by simp [lenB, h]

theorem sl_rules (α : Type) [Cell α] [Inhabited α] {de : TyD} (h : C.ty T = some ⟨.slice e, n, m, z⟩) (he : C.ty e = some de) (hw : de.size = Cell.width α) :
    (∀ l : List α, lenB C T (.t (sl l)) = .val True (.t (.int .i64 (l.length : Int)))) ∧
    (∀ (l : List α) k x d K σ, gT (idxB C T (.t (sl l)) (.t (.int k x))) d K σ = ((0 ≤ x ∧ x < (l.length : Int)) ∧ K (σ.put d (.imm (Cell.enc (l.getD x.toNat default)))))) ∧
    (∀ (l : List α) k x, sliceB C T (.t (sl l)) none (some (.t (.int k x))) none = .val (0 ≤ x ∧ x ≤ (l.length : Int)) (.t (sl (l.take x.toNat)))) ∧
    (∀ (l : List α) k x, sliceB C T (.t (sl l)) (some (.t (.int k x))) none none = .val (0 ≤ x ∧ x ≤ (l.length : Int)) (.t (sl (l.drop x.toNat)))) ∧
    (∀ (l : List α) k x k' y, sliceB C T (.t (sl l)) (some (.t (.int k x))) (some (.t (.int k' y))) none = .val (0 ≤ x ∧ x ≤ y ∧ y ≤ (l.length : Int)) (.t (sl ((l.take y.toNat).drop x.toNat)))) ∧
    lenB C T (.t .nilS) = .val True (.t (.int .i64 0)) ∧ lenB C T (.t .emp) = .val True (.t (.int .i64 0)) ∧ (∀ g w o l, lenB C T (.tok g w o l) = .val True (.t (.int .i64 (l : Int)))) :=
  ⟨fun _ => sl_len h, fun _ _ _ _ _ _ => idx_sl h he hw, fun _ _ _ => sl_to h he hw, fun _ _ _ => sl_from h he hw, fun _ _ _ _ _ => sl_part h he hw, nil_len h, emp_len h, fun _ _ _ _ => tok_len h⟩

theorem enc_int {x : Int} : Cell.enc x = [.int .i64 x] := rfl
theorem enc_bool {x : Bool} : Cell.enc x = [.bool x] := rfl
theorem enc_str {x : List UInt8} : Cell.enc x = [.str x] := rfl
theorem enc_u32 {x : UInt32} : Cell.enc x = [.int .u32 (x.toNat : Int)] := rfl
theorem enc_byt {x : Byt} : Cell.enc x = [.int .u8 (x.v.toNat : Int)] := rfl
theorem enc_list {l : List α} : Cell.enc l = [sl l] := rfl

/-- What is loaded. -/
def boxL (o : Option Entry) (d : TyD) (off : Nat) : B :=
  match o with
  | some (.box cs _) => partB d (cs.drop off)
  | _ => .no
theorem boxL_some {cs : List AV} {ro : Bool} {d : TyD} {off : Nat} : boxL (some (.box cs ro)) d off = partB d (cs.drop off) := rfl
def rowL (o : Option Entry) (d : TyD) (n i off : Nat) : B :=
  match o with
  | some (.row m l _) => let b := partB d (((l.getD i []).drop off).map .t); .val (m = n ∧ i < l.length ∧ b.c) (b.av [])
  | _ => .no
theorem rowL_some {l : List (List TV)} {ro : Bool} {d : TyD} {m n i off : Nat} : rowL (some (.row m l ro)) d n i off = .val (m = n ∧ i < l.length ∧ (partB d (((l.getD i []).drop off).map .t)).c) ((partB d (((l.getD i []).drop off).map .t)).av []) := rfl
theorem ld_rules {d : TyD} (h : C.ty T = some d) : (∀ s cells, loadB C s T (.imm cells) = partB d (cells.map .t)) ∧ (∀ s g off, loadB C s T (.ptr g off) = boxL (s.f g) d off) ∧
    (∀ s g n i off, loadB C s T (.eptr g n i off) = rowL (s.f g) d n i off) := by
  refine ⟨fun s cells => by simp [loadB, h], fun s g off => ?_, fun s g n i off => ?_⟩
  · simp only [loadB, h, boxL]
    cases s.f g with
    | none => rfl
    | some e => cases e <;> rfl
  · simp only [loadB, h, rowL]
    cases s.f g with
    | none => rfl
    | some e => cases e <;> rfl

theorem part_int {v : AV} {r : List AV} : partB ⟨.int k, n, m, z⟩ (v :: r) = .val True v := by simp [partB, TyD.agg]
theorem part_bool {v : AV} {r : List AV} : partB ⟨.bool, n, m, z⟩ (v :: r) = .val True v := by simp [partB, TyD.agg]
theorem part_str {v : AV} {r : List AV} : partB ⟨.str, n, m, z⟩ (v :: r) = .val True v := by simp [partB, TyD.agg]
theorem part_slice {v : AV} {r : List AV} : partB ⟨.slice e, n, m, z⟩ (v :: r) = .val True v := by simp [partB, TyD.agg]
theorem part_ptr {v : AV} {r : List AV} : partB ⟨.ptr e, n, m, z⟩ (v :: r) = .val True v := by simp [partB, TyD.agg]
theorem part_fn {v : AV} {r : List AV} : partB ⟨.fn, n, m, z⟩ (v :: r) = .val True v := by simp [partB, TyD.agg]
theorem part_arr {cs : List AV} : partB ⟨.arr m' e, n, m, z⟩ cs = .val (n ≤ cs.length) (.agg (cs.take n)) := by simp [partB, TyD.agg]
theorem part_struct {cs : List AV} {fs : List (TypeId × Nat)} : partB ⟨.struct fs, n, m, z⟩ cs = .val (n ≤ cs.length) (.agg (cs.take n)) := by simp [partB, TyD.agg]

/-! ### Lists of the call's own -/

/-- A value is a list of the call's own, or nil. -/
def LV (s : Store) (x : AV) (l : List α) : Prop :=
  (l = [] ∧ x = .t .nilS) ∨ ∃ g, x = .tok g (Cell.width α) 0 l.length ∧ ∃ ro, s.f g = some (.row (Cell.width α) (l.map Cell.enc) ro)

/-- Its token is another one. -/
def Not (x : AV) (g : Nat) : Prop := ∀ n o l, x ≠ .tok g n o l

theorem lv_nil {s : Store} : LV s (.t .nilS) ([] : List α) := .inl ⟨rfl, rfl⟩
theorem lv_tok {s : Store} {g : Nat} {l : List α} {ro : Bool} (h : s.f g = some (.row (Cell.width α) (l.map Cell.enc) ro)) : LV s (.tok g (Cell.width α) 0 l.length) l := .inr ⟨g, rfl, ro, h⟩

theorem LV.frz {s : Store} {v : AV} {l : List α} (h : LV s v l) : Frz1 s v (sl l) := by
  rcases h with ⟨rfl, rfl⟩ | ⟨g, rfl, ro, h⟩
  · exact .inr (.inl ⟨_, rfl, .inl rfl⟩)
  · refine .inr (.inr ⟨[g], ?_⟩)
    simp only [Store.borrow1, h, sl]
    simp
    rw [List.take_of_length_le (by simp)]

theorem LV.len {s : Store} {v : AV} {l : List α} (hl : LV s v l) (h : C.ty T = some ⟨.slice e, n, m, z⟩) : lenB C T v = .val True (.t (.int .i64 (l.length : Int))) := by
  rcases hl with ⟨rfl, rfl⟩ | ⟨g, rfl, ro, hl⟩
  · exact nil_len h
  · exact tok_len h

theorem LV.borrow {s : Store} {v : AV} {l : List α} (hl : LV s v l) : ∃ y ros, s.borrow v = some (.t y, ros) ∧ (y = sl l ∨ (l = [] ∧ y = .nilS)) ∧ (argT (List α)).dec (.t y) = some l := by
  rcases hl with ⟨rfl, rfl⟩ | ⟨g, rfl, ro, h⟩
  · exact ⟨.nilS, [], rfl, .inr ⟨rfl, rfl⟩, rfl⟩
  · refine ⟨sl l, [g], ?_, .inl rfl, argT_sl⟩
    simp only [Store.borrow, Store.borrow1, h, sl]
    simp
    rw [List.take_of_length_le (by simp)]

/-- A value stays what it is where its token is left alone. -/
theorem LV.stay {s s' : Store} {v : AV} {l : List α} (hl : LV s v l) (h : ∀ g, ¬ Not v g → (∃ ro, s.f g = some (.row (Cell.width α) (l.map Cell.enc) ro)) → ∃ ro, s'.f g = some (.row (Cell.width α) (l.map Cell.enc) ro)) : LV s' v l := by
  rcases hl with ⟨rfl, rfl⟩ | ⟨g, rfl, hl⟩
  · exact lv_nil
  · exact .inr ⟨g, rfl, h g (fun hn => hn _ _ _ rfl) hl⟩

theorem not_t {x : TV} {g : Nat} : Not (.t x) g := fun _ _ _ h => by cases h
theorem not_tok {g h n o l : Nat} (hn : h ≠ g) : Not (.tok h n o l) g := fun _ _ _ e => hn (by cases e; rfl)

theorem LV.set {s : Store} {v : AV} {l : List α} (hl : LV s v l) {g : Nat} {x : Option Entry} (h : Not v g) : LV (s.set g x) v l :=
  hl.stay fun k hk ⟨ro, hf⟩ => ⟨ro, by
    rw [Store.set_other _ _ (fun e => hk (by rw [e]; exact h))]; exact hf⟩

/-- What is new is another one. -/
theorem LV.notnew {s : Store} {v : AV} {l : List α} (hl : LV s v l) {g : Nat} (hg : s.f g = none) : Not v g := by
  rcases hl with ⟨rfl, rfl⟩ | ⟨k, rfl, ro, hl⟩
  · exact not_t
  · exact not_tok fun e => by rw [e, hg] at hl; cases hl

theorem LV.fresh {s : Store} {v : AV} {l : List α} (hl : LV s v l) {g : Nat} {x : Option Entry} (hg : s.f g = none) : LV (s.set g x) v l := hl.set (hl.notnew hg)

theorem LV.mark {s : Store} {v : AV} {l : List α} (hl : LV s v l) (g : Nat) : LV (s.mark g) v l :=
  hl.stay fun k _ ⟨ro, hf⟩ => by
    unfold Store.mark
    by_cases hk : k = g
    · subst hk; rw [Store.set_same, hf]; exact ⟨true, rfl⟩
    · rw [Store.set_other _ _ hk]; exact ⟨ro, hf⟩

theorem LV.marks {v : AV} {l : List α} : ∀ (ros : List Nat) {s : Store}, LV s v l → LV (s.marks ros) v l
  | [], _, h => h
  | g :: r, _, h => LV.marks r (h.mark g)

/-- What is appended: the rows that a slice shows, as a list. -/
def Shows (s : Store) (y : AV) (l : List α) : Prop := s.rowsAt y = some (l.map Cell.enc) ∧ (y.width = some (Cell.width α) ∨ y.width = none)

theorem shows_sl {s : Store} {l : List α} : Shows s (.t (sl l)) l := ⟨rfl, .inl rfl⟩
theorem shows_nil {s : Store} : Shows s (.t .nilS) ([] : List α) := ⟨rfl, .inr rfl⟩
theorem shows_emp {s : Store} : Shows s (.t .emp) ([] : List α) := ⟨rfl, .inr rfl⟩
theorem shows_lv {s : Store} {y : AV} {l : List α} (h : LV s y l) : Shows s y l := by
  rcases h with ⟨rfl, rfl⟩ | ⟨g, rfl, ro, h⟩
  · exact shows_nil
  · refine ⟨?_, .inl rfl⟩
    simp only [Store.rowsAt, Store.borrow1, h]
    simp
    rw [List.take_of_length_le (by simp)]
theorem shows_new {s : Store} {g : Nat} {l : List α} {e : Entry} (h : e = .row (Cell.width α) (l.map Cell.enc) false) : Shows (s.set g (some e)) (.tok g (Cell.width α) 0 l.length) l :=
  shows_lv (.inr ⟨g, rfl, false, by rw [Store.set_same, h]⟩)

/-- **append** to a list of the call's own. -/
theorem append_lv {s : Store} {x y : AV} {l r : List α} {de : TyD} {K : AV → Store → Prop} (h : C.ty T = some ⟨.slice e, n, m, z⟩) (he : C.ty e = some de) (hw : de.size = Cell.width α) (hw0 : 0 < Cell.width α)
    (hx : LV s x l) (hy : Shows s y r) (h1 : l.length + r.length ≤ 140737488355328) (h2 : (l.length + r.length) * de.bytes ≤ 140737488355328)
    (hk : ∀ v s', LV s' v (l ++ r) → (∀ k, ¬ Not v k → s.f k = none) → (∀ k, Not v k → Not x k → s'.f k = s.f k) → K v s') : appendV C T x y K s := by
  obtain ⟨y1, y2⟩ := hy
  unfold appendV appendT
  simp only [h, he, y1, hw]
  refine ⟨hw0, y2, ?_⟩
  have isg : ∀ {g k w o n : Nat}, ¬ Not (.tok g w o n) k → k = g := fun h => by
    refine Classical.byContradiction fun hne => h (not_tok fun e => hne e.symm)
  rcases hx with ⟨rfl, rfl⟩ | ⟨g, rfl, ro, hx⟩
  · simp only [List.length_map, List.length_nil, Nat.zero_add] at *
    refine ⟨by trivial, h1, h2, fun g hg => hk _ _ ?_ (fun k hk => isg hk ▸ hg) fun k hk _ => ?_⟩
    · exact lv_tok (s := s.set g (some (.row (Cell.width α) (r.map Cell.enc) false))) (g := g) (l := r) (ro := false) (Store.set_same _ _ _)
    · rw [Store.set_other _ _ (fun e => hk _ _ _ (by rw [e]))]
  · simp only [hx, List.length_map, true_and]
    refine ⟨h1, h2, fun g' hg' => hk _ _ ?_ (fun k hk => isg hk ▸ hg') fun k hk hn => ?_⟩
    · rw [← List.map_append]
      have := lv_tok (s := (s.set g none).set g' (some (.row (Cell.width α) ((l ++ r).map Cell.enc) ro))) (g := g') (l := l ++ r) (ro := ro) (Store.set_same _ _ _)
      simpa using this
    · rw [Store.set_other _ _ (fun e => hk _ _ _ (by rw [e])), Store.set_other _ _ (fun e => hn _ _ _ (by rw [e]))]

/-- append to an empty slice. -/
theorem append_emp {s : Store} {y : AV} {r : List α} {de : TyD} {K : AV → Store → Prop} (h : C.ty T = some ⟨.slice e, n, m, z⟩) (he : C.ty e = some de) (hw : de.size = Cell.width α) (hw0 : 0 < Cell.width α)
    (hy : Shows s y r) (h1 : r.length ≤ 140737488355328) (h2 : r.length * de.bytes ≤ 140737488355328)
    (hk : ∀ v s', LV s' v r → (∀ k, ¬ Not v k → s.f k = none) → (∀ k, Not v k → s'.f k = s.f k) → K v s') : appendV C T (.t .emp) y K s := by
  have := append_lv (C := C) (T := T) (K := K) (s := s) (x := .t .nilS) (l := ([] : List α)) h he hw hw0 lv_nil hy (by simpa using h1) (by simpa using h2) fun v s' hv h3 h4 => hk v s' (by simpa using hv) h3 fun k hk => h4 k hk not_t
  unfold appendV appendT at this ⊢
  exact this

/-- What is a box is not a list's token. -/
theorem LV.notbox {s : Store} {v : AV} {l : List α} (hl : LV s v l) {g : Nat} {cs : List AV} {ro : Bool} (hg : s.f g = some (.box cs ro)) : Not v g := by
  rcases hl with ⟨rfl, rfl⟩ | ⟨k, rfl, ro', hl⟩
  · exact not_t
  · exact not_tok fun e => by rw [e, hg] at hl; cases hl

theorem enc_one {x : α} {cs : List TV} (h : cs = Cell.enc x) : ([cs] : List (List TV)) = [x].map Cell.enc := by rw [h]; rfl

end
end Go.Eng

namespace Go.Eng

def lk : List (Nat × AV) → Nat → AV
  | [], _ => .unk
  | (k, v) :: r, n => if n = k then v else lk r n

/-- A state by its live slots. -/
def mkS (l : List (Nat × AV)) (s : Store) : St := ⟨lk l, s⟩

def stL : List (Nat × Entry) → Store
  | [] => .empty
  | (g, e) :: r => (stL r).set g (some e)

section
variable {C : Ctx} {s s' : Store} {σ : St}

theorem get_mkS {l : List (Nat × AV)} {n : Nat} : (mkS l s).get n = lk l n := rfl
theorem st_mkS {l : List (Nat × AV)} : (mkS l s).st = s := rfl
theorem lk_nil {n : Nat} : lk [] n = .unk := rfl
theorem lk_cons {k n : Nat} {v : AV} {r : List (Nat × AV)} : lk ((k, v) :: r) n = if n = k then v else lk r n := rfl

def WkAll (σ : St) (s' : Store) : List (Nat × AV) → Prop
  | [] => True
  | (k, v) :: r => W2 σ.st s' (σ.get k) v ∧ WkAll σ s' r

theorem wkAll_nil : WkAll σ s' [] = True := rfl
theorem wkAll_cons {k : Nat} {v : AV} {r : List (Nat × AV)} : WkAll σ s' ((k, v) :: r) = (W2 σ.st s' (σ.get k) v ∧ WkAll σ s' r) := rfl

theorem wkAll_at : ∀ (l : List (Nat × AV)), WkAll σ s' l → ∀ n, W2 σ.st s' (σ.get n) (lk l n)
  | [], _, _ => .inr (.inl rfl)
  | (k, v) :: r, h, n => by
    rw [lk_cons]
    by_cases hn : n = k
    · subst hn; rw [if_pos rfl]; exact h.1
    · rw [if_neg hn]; exact wkAll_at r h.2 n

/-- The store as it is, or with fewer entries. -/
def Fewer (s s' : Store) : Prop := ∀ g e', s'.f g = some e' → ∃ e, s.f g = some e ∧ WE s s' e e'

theorem fewer_refl : Fewer s s := fun _ e h => ⟨e, h, .inl rfl⟩
theorem fewer_fresh {g : Nat} {x : Option Entry} (h : s.f g = none) : Fewer (s.set g x) s := fun k e hk => ⟨e, by
  rw [Store.set_other _ _ (fun e' => by subst e'; rw [h] at hk; cases hk)]; exact hk, .inl rfl⟩
theorem fewer_sub (h : ∀ g e, s'.f g = some e → s.f g = some e) : Fewer s s' := fun g e hg => ⟨e, h g e hg, .inl rfl⟩
theorem fewer_empty : Fewer s .empty := fun _ _ h => by cases h

theorem wk_to {l : List (Nat × AV)} (hs : Fewer σ.st s') (hl : WkAll σ s' l) : Wk σ (mkS l s') := ⟨hs, wkAll_at l hl⟩

theorem w2_refl {v : AV} : W2 s s' v v = True := propext ⟨fun _ => trivial, fun _ => .inl (.inl rfl)⟩
theorem w2_frz {v : AV} {x : TV} {ros : List Nat} (h : s.borrow1 v = some (x, ros)) (hd : ∀ g ∈ ros, s'.f g = none) : W2 s s' v (.t x) := .inl (.inr (.inr ⟨x, ros, h, .inl rfl, hd⟩))
theorem w2_nil {α : Type} [Cell α] : W2 s s' (.t .nilS) (.t (sl ([] : List α))) := .inl (.inr (.inl ⟨_, rfl, .inl rfl⟩))
theorem w2_emp {α : Type} [Cell α] : W2 s s' (.t .emp) (.t (sl ([] : List α))) := .inl (.inr (.inl ⟨_, rfl, .inr rfl⟩))

theorem w2_imm {g : Nat} {l : List TV} {ro : Bool} (hg : s.f g = some (.box (l.map .t) ro)) (hd : s'.f g = none) : W2 s s' (.ptr g 0) (.imm l) := .inr (.inr (.inl ⟨g, 0, _, ro, l, rfl, hg, rfl, by simp, hd⟩))

/-- A list of the call's own is given up: it is only read from then on. -/
theorem LV.w2 {α : Type} [Cell α] {v : AV} {l : List α} (h : LV s v l) (hd : ∀ g, ¬ Not v g → s'.f g = none) : W2 s s' v (.t (sl l)) := by
  rcases h with ⟨rfl, rfl⟩ | ⟨g, rfl, ro, h⟩
  · exact w2_nil
  · refine w2_frz (ros := [g]) ?_ fun k hk => ?_
    · simp only [Store.borrow1, h, sl]
      simp
      rw [List.take_of_length_le (by simp)]
    · rw [List.mem_singleton] at hk
      subst hk
      exact hd k fun hn => hn _ _ _ rfl

/-- A row that is new is given up. -/
theorem w2_row {α : Type} [Cell α] {g : Nat} {l : List α} {e : Entry} {ro : Bool} {n : Nat} (hn : n = l.length) (h : (s.set g (some e)).f g = some (.row (Cell.width α) (l.map Cell.enc) ro)) (hd : s'.f g = none) : W2 (s.set g (some e)) s' (.tok g (Cell.width α) 0 n) (.t (sl l)) := by
  subst hn
  exact (lv_tok h).w2 fun k hk => by
    by_cases hkg : g = k
    · subst hkg; exact hd
    · exact absurd (not_tok hkg) hk

theorem avp_weak {b : GCode} {Q : Exit → St → Prop} : avp C (.seq .weak b) Q σ = ∃ σ', Wk σ σ' ∧ avp C b Q σ' := rfl

theorem weak_to {b : GCode} {Q : Exit → St → Prop} (l : List (Nat × AV)) (s' : Store) (hs : Fewer σ.st s') (hl : WkAll σ s' l) (h : avp C b Q (mkS l s')) : avp C (.seq .weak b) Q σ := ⟨_, wk_to hs hl, h⟩

/-- **Loops**, by what is live at each round's head, and what goes down. -/
theorem loop_weak (hm : ConMono C) {b : GCode} {Q : Exit → St → Prop} (I : Nat → St → Prop) {k₀ : Nat} {σ₀ : St} (h0 : I k₀ σ₀) (hw : Wk σ σ₀)
    (round : ∀ k σ, I k σ → avp C b (Exit.thenA (fun σ' => ∃ k' σ'', k' < k ∧ Wk σ' σ'' ∧ I k' σ'') Q) σ) : avp C (.loop (.seq .weak b)) Q σ := by
  have key : ∀ n k σ σ', I k σ' → k < n → Wk σ σ' → Rounds (avp C (.seq .weak b)) Q n σ := by
    intro n
    induction n with
    | zero => intro k _ _ _ h; omega
    | succ n ih =>
      intro k σ σ' hI hlt hw
      refine ⟨σ', hw, avp_mono hm b _ _ _ (thenA_mono (fun σ1 ⟨k', σ'', h1, h2, h3⟩ => ih k' σ1 σ'' h3 (by omega) h2) fun _ _ h => h) (round k σ' hI)⟩
  exact ⟨k₀ + 1, key _ k₀ σ σ₀ h0 (by omega) hw⟩

/-- The end of a round. -/
theorem round_to {I : Nat → St → Prop} {k : Nat} (k' : Nat) (l : List (Nat × AV)) (s' : Store) (hk : k' < k) (hs : Fewer σ.st s') (hl : WkAll σ s' l) (h : I k' (mkS l s')) : ∃ k' σ'', k' < k ∧ Wk σ σ'' ∧ I k' σ'' := ⟨k', _, hk, wk_to hs hl, h⟩

/-! ### Texts and bytes -/

theorem bytesOf_enc (a : List UInt8) : bytesOf a = (a.map Byt.mk).map Cell.enc := by simp [bytesOf, enc_byt]

theorem conv_bytes {T T' e n m n' m' n'' m'' : Nat} {z z' z'' : List TV} {a : List UInt8} (h : C.ty T = some ⟨.str, n, m, z⟩) (h' : C.ty T' = some ⟨.slice e, n', m', z'⟩) (he : C.ty e = some ⟨.int .u8, n'', m'', z''⟩) :
    convB C s T T' (.t (.str a)) = .new (n'' = 1 ∧ a.length ≤ 140737488355328) [] (.row 1 ((a.map Byt.mk).map Cell.enc) false) fun g => .tok g 1 0 a.length := by
  simp [convB, h, h', he, bytesOf_enc]

theorem u8s_enc : ∀ l : List Byt, u8s? (l.map Cell.enc) = some (l.map Byt.v)
  | [] => rfl
  | b :: r => by
    simp [enc_byt, u8s?, u8s_enc r]

theorem conv_lv {T T' e n m n' m' n'' m'' : Nat} {z z' z'' : List TV} {x : AV} {l : List Byt} {d : Option Nat} {K : St → Prop} (h : C.ty T = some ⟨.slice e, n', m', z'⟩) (h' : C.ty T' = some ⟨.str, n, m, z⟩) (he : C.ty e = some ⟨.int .u8, n'', m'', z''⟩) (hx : LV s x l) :
    gT (convB C s T T' x) d K σ = K (σ.put d (.t (.str (l.map Byt.v)))) := by
  rcases hx with ⟨rfl, rfl⟩ | ⟨g, rfl, ro, hx⟩
  · simp [convB, h, h', he, gT_val]
  · have : u8s? (((l.map Cell.enc).drop 0).take l.length) = some (l.map Byt.v) := by
      rw [List.drop_zero, List.take_of_length_le (by simp), u8s_enc]
    simp only [w_byt] at hx ⊢
    simp [convB, h, h', he, hx, gT_val]
    rw [List.take_of_length_le (by simp), u8s_enc]
    simp [gT_val]

theorem conv_sl {T T' e n m n' m' n'' m'' : Nat} {z z' z'' : List TV} {l : List Byt} (h : C.ty T = some ⟨.slice e, n', m', z'⟩) (h' : C.ty T' = some ⟨.str, n, m, z⟩) (he : C.ty e = some ⟨.int .u8, n'', m'', z''⟩) :
    convB C s T T' (.t (sl l)) = .val True (.t (.str (l.map Byt.v))) := by
  simp [convB, h, h', he, sl, u8s_enc]

theorem w2_bytes {a : List UInt8} {g : Nat} (hg : s'.f g = none) : W2 (s.set g (some (.row 1 ((a.map Byt.mk).map Cell.enc) false))) s' (.tok g 1 0 a.length) (.t (sl (a.map Byt.mk))) = True :=
  propext ⟨fun _ => trivial, fun _ => w2_row (α := Byt) (l := a.map Byt.mk) (by simp) (Store.set_same _ _ _) hg⟩

theorem w2_bytes' {a : List UInt8} {g n : Nat} (hg : s'.f g = none) (hn : a.length = n) : W2 (s.set g (some (.row 1 ((a.map Byt.mk).map Cell.enc) false))) s' (.tok g 1 0 n) (.t (sl (a.map Byt.mk))) = True := by
  subst hn; exact w2_bytes hg

theorem getD_byt {a : List UInt8} {i : Nat} : ((a.map Byt.mk).getD i default).v = a.getD i 0 := by
  simp only [List.getD_eq_getElem?_getD, List.getElem?_map]
  cases a[i]? <;> rfl

theorem set_f {g k : Nat} {e : Option Entry} : (s.set g e).f k = if k = g then e else s.f k := rfl
theorem empty_none {g : Nat} : Store.empty.f g = none := rfl

/-- Making a slice of its parts. -/
theorem build_sl {T e len n' m' : Nat} {z' : List TV} {de : TyD} {ps : List (Nat × AV)} {d : Option Nat} {K : St → Prop} (h : C.ty T = some ⟨.slice e, n', m', z'⟩) (he : C.ty e = some de) :
    gT (buildSliceB C s T len ps) d K σ = gT (match rowsOf s de.size 0 ps with
        | some (l, ros) => .new (l.length = len ∧ len * de.size ≤ 1000000 ∧ 0 < de.size) ros (.row de.size l false) fun g => .tok g de.size 0 len
        | none => .no) d K σ := by
  unfold buildSliceB
  simp only [h, he]
  rfl

def consR (n : Nat) (o : Option (List TV × List Nat)) (p : Option (List (List TV) × List Nat)) : Option (List (List TV) × List Nat) :=
  match o, p with
  | some (xs, a), some (ys, b) => if xs.length = n then some (xs :: ys, a ++ b) else none
  | _, _ => none
theorem consR_some {n : Nat} {xs : List TV} {ys : List (List TV)} {a b : List Nat} : consR n (some (xs, a)) (some (ys, b)) = if xs.length = n then some (xs :: ys, a ++ b) else none := rfl
theorem rows_nil {n k : Nat} : rowsOf s n k [] = some ([], []) := rfl
theorem rows_cons {n k i : Nat} {v : AV} {r : List (Nat × AV)} : rowsOf s n k ((i, v) :: r) = if i = k then consR n (s.borrowAll v.cells) (rowsOf s n (k + 1) r) else none := by
  simp only [rowsOf, consR]
  cases s.borrowAll v.cells <;> cases rowsOf s n (k + 1) r <;> rfl
theorem cells_t {x : TV} : (AV.t x).cells = [.t x] := rfl
theorem cells_agg {l : List AV} : (AV.agg l).cells = l := rfl
theorem cells_tok {g n o l : Nat} : (AV.tok g n o l).cells = [.tok g n o l] := rfl

/-- What is appended to a list of the call's own, of one part just made. -/
theorem shows_one {α : Type} [Cell α] {g : Nat} {x : α} {rows : List (List TV)} {w n : Nat} (hw : w = Cell.width α) (hn : n = 1) (h : rows = [Cell.enc x]) : Shows (s.set g (some (.row w rows false))) (.tok g w 0 n) [x] := by
  subst h hw hn
  exact shows_new (l := [x]) rfl

end
end Go.Eng

namespace Go.Eng
def vr0 := PLift.up (And.intro @avp_skip (And.intro (And.intro @avp_region <| And.intro @avp_orders <| And.intro @avpT_done <| And.intro @avpT_one @avpT_both) (And.intro @avp_seq (And.intro @avp_cond (And.intro @avp_block (And.intro @avp_exit (And.intro @avp_ret (And.intro @condA_bool (And.intro @aOps_nil (And.intro @aOps_cons (And.intro @then_normal (And.intro @then_exit (And.intro @then_ret (And.intro @in_normal (And.intro @in_ret (And.intro @in_exit (And.intro @ev_tmp (And.intro @ev_int (And.intro @ev_bool (And.intro @ev_str (And.intro @ev_nilS (And.intro @ev_nilP (And.intro @ev_func (And.intro @op_move (@op_assign)))))))))))))))))))))))))
def vr1 := PLift.up (And.intro @op_pick (And.intro @op_alloc (And.intro @op_box (And.intro @op_build (And.intro @op_buildSlice (And.intro @op_load (And.intro @op_nil (And.intro @op_bin (And.intro @op_un (And.intro @op_conv (And.intro @op_makeSlice (And.intro @op_slice (And.intro @op_fieldAddr (And.intro @op_field (And.intro @op_indexAddr (And.intro @op_index (And.intro @op_extract (And.intro @op_len (And.intro @op_min (And.intro @op_max (And.intro @op_store (And.intro @op_append (And.intro @callK_some (And.intro @decK_some (@decS_some)))))))))))))))))))))))))
def vr2 := PLift.up (And.intro @gT_val (And.intro @gT_no (And.intro @gT_new (And.intro @gT_ros (And.intro @marks_nil (And.intro @borrows_nil (And.intro @borrows_cons (And.intro @consB_some (And.intro @borrow_t (And.intro @borrow_fn (And.intro @borrow_agg (And.intro @borrowAll_nil (And.intro @borrowAll_cons (And.intro @consA_some (And.intro @borrow1_t (And.intro @arms_cons (And.intro @arms_nil (And.intro @argT_int (And.intro @argT_bool (And.intro @argT_str (And.intro @argT_u32 (And.intro @argT_byt (And.intro @argT_sl (And.intro @argT_nilS (@argT_emp)))))))))))))))))))))))))
def vr3 := PLift.up (And.intro @bin_add (And.intro @bin_sub (And.intro @bin_mul (And.intro @bin_quo (And.intro @bin_rem (And.intro @bin_and (And.intro @bin_or (And.intro @bin_xor (And.intro @bin_shl (And.intro @bin_shr (And.intro @bin_eql (And.intro @bin_neq (And.intro @bin_lss (And.intro @bin_leq (And.intro @bin_gtr (And.intro @bin_geq (And.intro @sbin_add (And.intro @sbin_eql (And.intro @sbin_neq (And.intro @sbin_lss (And.intro @un_not (And.intro @un_neg (And.intro @min_int (And.intro @max_int (@ext_tup)))))))))))))))))))))))))
def vr4 := PLift.up (And.intro @nil_ptr (And.intro @nil_eptr (And.intro @nil_imm (And.intro @nil_fn (And.intro @val_c (And.intro @val_av (And.intro @val_ros (And.intro @val_es (And.intro @pick_bool (And.intro @pick_or (And.intro @pick_and (And.intro @asB_opt (And.intro @asB_bool (And.intro @guard_some (And.intro @op_guard_pick (And.intro @wanted_bool (And.intro @wanted_opt (And.intro @wanted_off (And.intro @strip_opt (And.intro @strip_t (And.intro @strip_tok (And.intro @strip_ptr (And.intro @strip_eptr (And.intro @strip_imm (And.intro @strip_agg (@strip_tup))))))))))))))))))))))))))
def vr5 := PLift.up (And.intro @strip_fn (And.intro @okc_opt (And.intro @okc_t (And.intro @okc_tok (And.intro @okc_ptr (And.intro @okc_eptr (And.intro @okc_imm (And.intro @okc_agg (And.intro @okc_tup (And.intro @okc_fn (And.intro @ok_nil (And.intro @ok_cons (And.intro @bg_move (And.intro @bg_assign (And.intro @bg_load (And.intro @bg_bin (And.intro @bg_un (And.intro @bg_conv (And.intro @bg_build (And.intro @bg_buildSlice (And.intro @bg_slice (And.intro @bg_fieldAddr (And.intro @bg_field (And.intro @bg_indexAddr (@bg_index)))))))))))))))))))))))))
def vr6 := PLift.up (And.intro @bg_extract (And.intro @bg_nil (And.intro @bg_len (And.intro @live_move (And.intro @live_assign (And.intro @live_bin (And.intro @live_un (And.intro @live_build (And.intro @live_slice (And.intro @live_fieldAddr (And.intro @live_field (And.intro @live_indexAddr (And.intro @live_index (And.intro @live_extract (And.intro @live_nil (And.intro @live_len (And.intro @live_load (And.intro @live_conv (And.intro @liveL_imm (And.intro @liveL_ptr (And.intro @liveL_eptr (And.intro @liveC_t (And.intro @liveC_tok (And.intro @enc_int (@enc_bool)))))))))))))))))))))))))
def vr7 := PLift.up (And.intro @enc_str (And.intro @enc_u32 (And.intro @enc_byt (And.intro @enc_list (And.intro @boxL_some (And.intro @rowL_some (And.intro @part_int (And.intro @part_bool (And.intro @part_str (And.intro @part_slice (And.intro @part_ptr (And.intro @part_fn (And.intro @part_arr (And.intro @part_struct (And.intro @get_mkS (And.intro @st_mkS (And.intro @lk_nil (And.intro @lk_cons (And.intro @rows_nil (And.intro @rows_cons (And.intro @consR_some (And.intro @cells_t (And.intro @cells_agg (And.intro @cells_tok (@get_puts)))))))))))))))))))))))))
def vr8 := PLift.up (And.intro @st_puts (And.intro @put_none (And.intro @get_start (@st_start))))
def vt0 := PLift.up (And.intro @retK_nil (And.intro @retK_tmp (And.intro @retK_cell (And.intro @ret_ret (And.intro @ret_normal (And.intro @pack_one (And.intro @pack_two (And.intro @pack_nil (And.intro @frz_tup (And.intro @frz_t (And.intro @frz_agg (And.intro @frz2_t (And.intro @frz2_agg (And.intro @frzT_cons (And.intro @frzT_nil (And.intro @frzL_cons (And.intro @frzL_nil (And.intro @frz1_t (@frz1_nilS)))))))))))))))))))
def vR := PLift.up (And.intro vr0.down (And.intro vr1.down (And.intro vr2.down (And.intro vr3.down (And.intro vr4.down (And.intro vr5.down (And.intro vr6.down (And.intro vr7.down (vr8.down)))))))))
def vT := PLift.up vt0.down
end Go.Eng

namespace Go.Eng

def cl : List (Nat × Con) → FuncId → Option Con
  | [], _ => none
  | (k, c) :: r, f => if f = k then some c else cl r f

/-- A contract that holds. -/
def COk (P : Program) (f : FuncId) (k : Con) : Prop := FnOk P f ∧ match k with
  | .pure c es mk => PureOk P f c es mk
  | .scal c r => ScalOk P f c r
  | .gen _ G => GenOk P f G

def COkL (P : Program) : List (Nat × Con) → Prop
  | [] => True
  | (k, c) :: r => COk P k c ∧ COkL P r

section
variable {P : Program} {C : Ctx}

theorem conOk_at : ∀ {l : List (Nat × Con)}, COkL P l → ∀ f k, cl l f = some k → COk P f k
  | [], _, f, k, h => by cases h
  | (j, c) :: r, hl, f, k, h => by
    unfold cl at h
    by_cases hf : f = j
    · subst hf
      rw [if_pos rfl] at h
      cases h
      exact hl.1
    · rw [if_neg hf] at h
      exact conOk_at hl.2 f k h

theorem sys_of {l : List (Nat × Con)} (h : COkL P l) : Sys P ⟨tyOf P, fun _ => none, cl l⟩ :=
  ⟨tyOf_ok P, fun _ _ h => (by cases h), fun _ _ h => (by cases h), fun f k hk => by
    obtain ⟨h1, h2⟩ := conOk_at h f k hk
    exact ⟨h1, by cases k <;> exact h2⟩⟩

theorem fn_ok (S : Sys P C) (hmix : P.follows .mixedOrders = true) {f : FuncId} {fn : Func} {G : GCode} (hf : P.funcs[f]? = some fn) (hn : (fn.name == "runtime.NumGoroutine") = false) (hG : gof C fn = some G.strip)
    {α : Type} {A : Arms α} {p : α → Prop} {r : α → AV} {m : Nat} {rs : List ResultVar} (hm : fn.ntmps = m) (hrs : fn.results.toList = rs)
    (hc : ∀ x, p x → (A.enc x).length ≤ m ∧ avp C G (Ret C rs fun v s' => Frz s' v (r x)) (entry (A.enc x) .empty)) : COk P f (fnCon A p r) := by
  obtain ⟨b, hb, hG⟩ := gof_some hG
  subst hm hrs
  exact ⟨⟨fn, hf, hn, by rw [hb]; rfl⟩, fn_pure S (conMono_of S.con) hmix hf hb hG hc⟩

theorem fn_sok (S : Sys P C) (hmix : P.follows .mixedOrders = true) {f : FuncId} {fn : Func} {G : GCode} (hf : P.funcs[f]? = some fn) (hn : (fn.name == "runtime.NumGoroutine") = false) (hG : gof C fn = some G.strip)
    {α : Type} {A : Arms α} {p : α → Prop} {r : α → AV} {m : Nat} {rs : List ResultVar} (hm : fn.ntmps = m) (hrs : fn.results.toList = rs) (hr : ∀ x, (r x).scal = true)
    (hc : ∀ x, p x → (A.enc x).length ≤ m ∧ avp C G (Ret C rs fun v _ => v = r x) (entry (A.enc x) .empty)) : COk P f (fnScal A p r) := by
  obtain ⟨b, hb, hG⟩ := gof_some hG
  subst hm hrs
  exact ⟨⟨fn, hf, hn, by rw [hb]; rfl⟩, fn_scal S (conMono_of S.con) hmix hf hb hG hr hc⟩

end
end Go.Eng

namespace Go.Eng
section
variable {C : Ctx} {T T' e t : TypeId} {n m n' m' n'' m'' : Nat} {z z' z'' : List TV} {de dt : TyD} {k k' : IntKind}

/-! ### Slices that are made -/
def bsK (o : Option (List (List TV) × List Nat)) (w len : Nat) : B :=
  match o with
  | some (l, ros) => .new (l.length = len ∧ len * w ≤ 1000000 ∧ 0 < w) ros (.row w l false) fun g => .tok g w 0 len
  | none => .no
theorem bsK_some {l : List (List TV)} {ros : List Nat} {w len : Nat} : bsK (some (l, ros)) w len = .new (l.length = len ∧ len * w ≤ 1000000 ∧ 0 < w) ros (.row w l false) fun g => .tok g w 0 len := rfl
def litK (o : Option (List (List TV) × List Nat)) (w len : Nat) : B :=
  match o with
  | some (l, []) => .val (l.length = len ∧ len * w ≤ 1000000 ∧ 0 < w) (.t (if len = 0 then .emp else .seq w l))
  | _ => .no
theorem litK_some {l : List (List TV)} {w len : Nat} : litK (some (l, [])) w len = .val (l.length = len ∧ len * w ≤ 1000000 ∧ 0 < w) (.t (if len = 0 then .emp else .seq w l)) := rfl

theorem bs_rules (h : C.ty T = some ⟨.slice e, n, m, z⟩) (he : C.ty e = some de) :
    (∀ s len ps, buildSliceB C s T len ps = bsK (rowsOf s de.size 0 ps) de.size len) ∧ (∀ s len ps, litB C s T len ps = litK (rowsOf s de.size 0 ps) de.size len) ∧
    (∀ g o l k x, idxB C T (.tok g de.size o l) (.t (.int k x)) = .val (0 ≤ x ∧ x < (l : Int)) (.eptr g de.size (o + x.toNat) 0)) ∧
    (∀ (k k' : IntKind) l c, makeSliceB C T (.t (.int k l)) (.t (.int k' c)) = .new (0 ≤ l ∧ l ≤ c ∧ c * (de.bytes : Int) ≤ 140737488355328 ∧ c ≤ 140737488355328 ∧ 0 < de.size) [] (.row de.size (List.replicate l.toNat de.zero) false) fun g => .tok g de.size 0 l.toNat) := by
  refine ⟨fun s len ps => ?_, fun s len ps => ?_, fun g o l k x => by simp [idxB, h, he], fun k k' l c => ?_⟩
  · simp only [buildSliceB, h, he, bsK]
    cases rowsOf s de.size 0 ps <;> rfl
  · simp only [litB, h, he, litK]
    cases rowsOf s de.size 0 ps with
    | none => rfl
    | some p => obtain ⟨l, ros⟩ := p; cases ros <;> rfl
  · simp only [makeSliceB, h, he]

theorem bool_rules (h : C.ty T = some ⟨.bool, n, m, z⟩) :
    (∀ a b, binB C T .eql (.t (.bool a)) (.t (.bool b)) = .val True (.t (.bool (a == b)))) ∧ (∀ a b, binB C T .neq (.t (.bool a)) (.t (.bool b)) = .val True (.t (.bool (a != b)))) :=
  ⟨fun _ _ => bbin_eql h, fun _ _ => bbin_neq h⟩

/-! ### Arrays, structs -/
theorem arr_rules (h : C.ty T = some ⟨.arr m' e, n, m, z⟩) (he : C.ty e = some de) :
    (∀ x, lenB C T x = .val True (.t (.int .i64 (m' : Int)))) ∧
    (∀ cs k x, indexB C T (.agg cs) (.t (.int k x)) = .val (0 ≤ x ∧ x < (m' : Int) ∧ (partB de (cs.drop (x.toNat * de.size))).c) ((partB de (cs.drop (x.toNat * de.size))).av [])) ∧
    (∀ g off k x, idxB C T (.ptr g off) (.t (.int k x)) = .val (0 ≤ x ∧ x < (m' : Int)) (.ptr g (off + x.toNat * de.size))) ∧
    (∀ g w i off k x, idxB C T (.eptr g w i off) (.t (.int k x)) = .val (0 ≤ x ∧ x < (m' : Int)) (.eptr g w i (off + x.toNat * de.size))) ∧
    (∀ cs k x, idxB C T (.imm cs) (.t (.int k x)) = .val (0 ≤ x ∧ x < (m' : Int)) (.imm (cs.drop (x.toNat * de.size)))) ∧
    (∀ g off k x, sliceB C T (.ptr g off) none (some (.t (.int k x))) none = .val (0 ≤ x ∧ x ≤ (m' : Int)) (.btok g de.size off x.toNat)) ∧
    (∀ g off, sliceB C T (.ptr g off) none none none = .val True (.btok g de.size off m')) := by
  refine ⟨fun x => ?_, fun cs k x => ?_, fun g off k x => ?_, fun g w i off k x => ?_, fun cs k x => ?_, fun g off k x => ?_, fun g off => ?_⟩
  · simp [lenB, h]
  · simp [indexB, h, he]
  · simp [idxB, h, he]
  · simp [idxB, h, he]
  · simp [idxB, h, he]
  · simp [sliceB, h, he, AV.intOr]
  · simp [sliceB, h, he, AV.intOr]

theorem fld_rules (i : Nat) {fs : List (TypeId × Nat)} {o : Nat} (h : C.ty T = some ⟨.struct fs, n, m, z⟩) (hf : fs[i]? = some (t, o)) (ht : C.ty t = some dt) :
    (∀ cs, fieldB C T (.agg cs) i = partB dt (cs.drop o)) ∧ (∀ g off, fieldAddrB C T (.ptr g off) i = .val (dt.size ≠ 0) (.ptr g (off + o))) ∧
    (∀ g w j off, fieldAddrB C T (.eptr g w j off) i = .val (dt.size ≠ 0) (.eptr g w j (off + o))) ∧ (∀ cs, fieldAddrB C T (.imm cs) i = .val (dt.size ≠ 0) (.imm (cs.drop o))) := by
  refine ⟨fun cs => ?_, fun g off => ?_, fun g w j off => ?_, fun cs => ?_⟩
  · simp [fieldB, h, hf, ht]
  · simp [fieldAddrB, h, hf, ht]
  · simp [fieldAddrB, h, hf, ht]
  · simp [fieldAddrB, h, hf, ht]

/-! ### Conversions -/
theorem conv_irule (h : C.ty T = some ⟨.int k, n, m, z⟩) (h' : C.ty T' = some ⟨.int k', n', m', z'⟩) :
    ∀ s j x, convB C s T T' (.t (.int j x)) = .val True (.t (.int k' (k'.wrap x))) := fun _ _ _ => conv_int h h'
theorem conv_srule (h : C.ty T = some ⟨.str, n, m, z⟩) (h' : C.ty T' = some ⟨.str, n', m', z'⟩) :
    ∀ s a, convB C s T T' (.t (.str a)) = .val True (.t (.str a)) := fun _ _ => conv_str h h'
theorem conv_brule (h : C.ty T = some ⟨.str, n, m, z⟩) (h' : C.ty T' = some ⟨.slice e, n', m', z'⟩) (he : C.ty e = some ⟨.int .u8, 1, m'', z''⟩) :
    ∀ s a, convB C s T T' (.t (.str a)) = .new (a.length ≤ 140737488355328) [] (.row 1 ((a.map Byt.mk).map Cell.enc) false) fun g => .tok g 1 0 a.length := fun s a => by
  rw [conv_bytes h h' he]
  simp

/-- One byte just made. -/
theorem conv_byte1 {s : Store} {g : Nat} {x : Int} {ro : Bool} {d : Option Nat} {K : St → Prop} {σ : St} (h : C.ty T = some ⟨.slice e, n', m', z'⟩) (h' : C.ty T' = some ⟨.str, n, m, z⟩) (he : C.ty e = some ⟨.int .u8, n'', m'', z''⟩) :
    gT (convB C (s.set g (some (.row 1 [[.int .u8 x]] ro))) T T' (.tok g 1 0 1)) d K σ = K (σ.put d (.t (.str [UInt8.ofNat x.toNat]))) := by
  simp [convB, h, h', he, Store.set_same, u8s?, gT_val]

theorem conv_trule (h : C.ty T = some ⟨.slice e, n', m', z'⟩) (h' : C.ty T' = some ⟨.str, n, m, z⟩) (he : C.ty e = some ⟨.int .u8, n'', m'', z''⟩) :
    (∀ s (l : List Byt), convB C s T T' (.t (sl l)) = .val True (.t (.str (l.map Byt.v)))) ∧ (∀ s, convB C s T T' (.t .nilS) = .val True (.t (.str []))) ∧
    (∀ s g x ro d K σ, gT (convB C (Store.set s g (some (.row 1 [[.int .u8 x]] ro))) T T' (.tok g 1 0 1)) d K σ = K (σ.put d (.t (.str [UInt8.ofNat x.toNat])))) ∧
    (∀ s g n ro d K σ, gT (convB C (Store.set s g (some (.row 1 (List.replicate n [.int .u8 0]) ro))) T T' (.tok g 1 0 n)) d K σ = K (σ.put d (.t (.str (List.replicate n 0))))) :=
  ⟨fun _ _ => conv_sl h h' he, fun s => by simp [convB, h, h', he], fun _ _ _ _ _ _ _ => conv_byte1 h h' he, fun s g n ro d K σ => by
    have hl : LV (s.set g (some (.row 1 (List.replicate n [.int .u8 0]) ro))) (.tok g 1 0 n) (List.replicate n (⟨0⟩ : Byt)) := by
      refine .inr ⟨g, by simp, ro, ?_⟩
      rw [Store.set_same, List.map_replicate]
      rfl
    rw [conv_lv h h' he hl, List.map_replicate]⟩

theorem byt_enc {x : Int} (h0 : 0 ≤ x) (h1 : x < 256) : [TV.int .u8 x] = Cell.enc (⟨UInt8.ofNat x.toNat⟩ : Byt) := by
  have : ((UInt8.ofNat x.toNat).toNat : Int) = x := by
    rw [UInt8.toNat_ofNat']
    omega
  simp only [enc_byt, this]

theorem u8_wrap (x : Int) : IntKind.u8.wrap x = x % 256 := by simp [IntKind.wrap, IntKind.signed, IntKind.bits]

/-! ### Structs built of parts -/
def bdK (o : Option (List AV)) (c : Prop) : B :=
  match o with
  | some cs => .val c (.agg cs)
  | none => .no
theorem bdK_some {cs : List AV} {c : Prop} : bdK (some cs) c = .val c (.agg cs) := rfl

def fillS (C : Ctx) (fs : List (TypeId × Nat)) (cells : List AV) (ps : List (Nat × AV)) : Option (List AV) := fillB (fun i => (fs[i]?).bind fun p => (C.ty p.1).map fun dt => (p.2, dt.size)) cells ps
theorem fillS_nil {fs : List (TypeId × Nat)} {cells : List AV} : fillS C fs cells [] = some cells := rfl
def spl (cells : List AV) (off size : Nat) (vs : List AV) (K : List AV → Option (List AV)) : Option (List AV) :=
  if vs.length = size ∧ off + size ≤ cells.length ∧ vs.all AV.one = true then K (splice cells off vs) else none
theorem fillS_cons {fs : List (TypeId × Nat)} {cells : List AV} {i o : Nat} {v : AV} {r : List (Nat × AV)} (hf : fs[i]? = some (t, o)) (ht : C.ty t = some dt) :
    fillS C fs cells ((i, v) :: r) = spl cells o dt.size v.cells fun cs => fillS C fs cs r := by
  simp only [fillS, fillB, hf, ht, Option.bind_some, Option.map_some, spl]

theorem build_rules {fs : List (TypeId × Nat)} (h : C.ty T = some ⟨.struct fs, n, m, z⟩) (hall : (fs.all fun p => (C.ty p.1).isSome) = true) :
    ∀ ps, buildB C T ps = bdK (fillS C fs (z.map .t) ps) True := fun ps => by
  simp only [buildB, h, hall, bdK, fillS]
  congr 1

end

def vr20 := PLift.up (And.intro @bsK_some (And.intro @litK_some (And.intro @bdK_some (@fillS_nil))))
end Go.Eng

namespace Go.Eng
section
variable {C : Ctx} {σ : St} {K : St → Prop} {d : Option Nat} {j : Nat} {want : Bool}
theorem og_move {X : Operand} : aOp C ⟨d, some (j, want), .move X⟩ K σ = guardK ((σ.get j).wanted want) (okAll σ.ev [X]) (opBg C (fun x => (σ.ev x).strip) σ.st (.move X)) (liveB (fun x => (σ.ev x).strip) σ.st (.move X)) d K σ := op_guard rfl rfl
theorem og_assign {X : Operand} : aOp C ⟨d, some (j, want), .assign X⟩ K σ = guardK ((σ.get j).wanted want) (okAll σ.ev [X]) (opBg C (fun x => (σ.ev x).strip) σ.st (.assign X)) (liveB (fun x => (σ.ev x).strip) σ.st (.assign X)) d K σ := op_guard rfl rfl
theorem og_load {X : Operand} {T : TypeId} : aOp C ⟨d, some (j, want), .load T X⟩ K σ = guardK ((σ.get j).wanted want) (okAll σ.ev [X]) (opBg C (fun x => (σ.ev x).strip) σ.st (.load T X)) (liveB (fun x => (σ.ev x).strip) σ.st (.load T X)) d K σ := op_guard rfl rfl
theorem og_bin {X Y : Operand} {T u : TypeId} {op : BinOp} : aOp C ⟨d, some (j, want), .binOp op T X Y u⟩ K σ = guardK ((σ.get j).wanted want) (okAll σ.ev [X, Y]) (opBg C (fun x => (σ.ev x).strip) σ.st (.binOp op T X Y u)) (liveB (fun x => (σ.ev x).strip) σ.st (.binOp op T X Y u)) d K σ := op_guard rfl rfl
theorem og_un {X : Operand} {T : TypeId} {op : UnOp} : aOp C ⟨d, some (j, want), .unOp op T X⟩ K σ = guardK ((σ.get j).wanted want) (okAll σ.ev [X]) (opBg C (fun x => (σ.ev x).strip) σ.st (.unOp op T X)) (liveB (fun x => (σ.ev x).strip) σ.st (.unOp op T X)) d K σ := op_guard rfl rfl
theorem og_conv {X : Operand} {T T' : TypeId} : aOp C ⟨d, some (j, want), .convert T T' X⟩ K σ = guardK ((σ.get j).wanted want) (okAll σ.ev [X]) (opBg C (fun x => (σ.ev x).strip) σ.st (.convert T T' X)) (liveB (fun x => (σ.ev x).strip) σ.st (.convert T T' X)) d K σ := op_guard rfl rfl
theorem og_fieldAddr {X : Operand} {T : TypeId} {n : Nat} : aOp C ⟨d, some (j, want), .fieldAddr T X n⟩ K σ = guardK ((σ.get j).wanted want) (okAll σ.ev [X]) (opBg C (fun x => (σ.ev x).strip) σ.st (.fieldAddr T X n)) (liveB (fun x => (σ.ev x).strip) σ.st (.fieldAddr T X n)) d K σ := op_guard rfl rfl
theorem og_field {X : Operand} {T : TypeId} {n : Nat} : aOp C ⟨d, some (j, want), .field T X n⟩ K σ = guardK ((σ.get j).wanted want) (okAll σ.ev [X]) (opBg C (fun x => (σ.ev x).strip) σ.st (.field T X n)) (liveB (fun x => (σ.ev x).strip) σ.st (.field T X n)) d K σ := op_guard rfl rfl
theorem og_indexAddr {X Y : Operand} {T : TypeId} : aOp C ⟨d, some (j, want), .indexAddr T X Y⟩ K σ = guardK ((σ.get j).wanted want) (okAll σ.ev [X, Y]) (opBg C (fun x => (σ.ev x).strip) σ.st (.indexAddr T X Y)) (liveB (fun x => (σ.ev x).strip) σ.st (.indexAddr T X Y)) d K σ := op_guard rfl rfl
theorem og_index {X Y : Operand} {T : TypeId} : aOp C ⟨d, some (j, want), .index T X Y⟩ K σ = guardK ((σ.get j).wanted want) (okAll σ.ev [X, Y]) (opBg C (fun x => (σ.ev x).strip) σ.st (.index T X Y)) (liveB (fun x => (σ.ev x).strip) σ.st (.index T X Y)) d K σ := op_guard rfl rfl
theorem og_extract {X : Operand} {n : Nat} : aOp C ⟨d, some (j, want), .extract X n⟩ K σ = guardK ((σ.get j).wanted want) (okAll σ.ev [X]) (opBg C (fun x => (σ.ev x).strip) σ.st (.extract X n)) (liveB (fun x => (σ.ev x).strip) σ.st (.extract X n)) d K σ := op_guard rfl rfl
theorem og_nil {X : Operand} : aOp C ⟨d, some (j, want), .nilCheck X⟩ K σ = guardK ((σ.get j).wanted want) (okAll σ.ev [X]) (opBg C (fun x => (σ.ev x).strip) σ.st (.nilCheck X)) (liveB (fun x => (σ.ev x).strip) σ.st (.nilCheck X)) d K σ := op_guard rfl rfl
theorem og_len {X : Operand} {T : TypeId} {ts : List TypeId} : aOp C ⟨d, some (j, want), .call ⟨.builtin .len, #[X], ⟨T :: ts⟩⟩⟩ K σ = guardK ((σ.get j).wanted want) (okAll σ.ev [X]) (opBg C (fun x => (σ.ev x).strip) σ.st (.call ⟨.builtin .len, #[X], ⟨T :: ts⟩⟩)) (liveB (fun x => (σ.ev x).strip) σ.st (.call ⟨.builtin .len, #[X], ⟨T :: ts⟩⟩)) d K σ := op_guard rfl rfl
theorem og_build {T : TypeId} {ps : Array (Nat × Operand)} : aOp C ⟨d, some (j, want), .build T ps⟩ K σ = guardK ((σ.get j).wanted want) (okAll σ.ev (ps.toList.map (·.2))) (opBg C (fun x => (σ.ev x).strip) σ.st (.build T ps)) (liveB (fun x => (σ.ev x).strip) σ.st (.build T ps)) d K σ := op_guard rfl rfl
theorem og_buildSlice {T : TypeId} {n : Nat} {ps : Array (Nat × Operand)} : aOp C ⟨d, some (j, want), .buildSlice T n ps⟩ K σ = guardK ((σ.get j).wanted want) (okAll σ.ev (ps.toList.map (·.2))) (opBg C (fun x => (σ.ev x).strip) σ.st (.buildSlice T n ps)) (liveB (fun x => (σ.ev x).strip) σ.st (.buildSlice T n ps)) d K σ := op_guard rfl rfl
theorem og_slice {T : TypeId} {X : Operand} {lo hi mx : Option Operand} : aOp C ⟨d, some (j, want), .slice T X lo hi mx⟩ K σ = guardK ((σ.get j).wanted want) (okAll σ.ev (X :: (lo.toList ++ hi.toList ++ mx.toList))) (opBg C (fun x => (σ.ev x).strip) σ.st (.slice T X lo hi mx)) (liveB (fun x => (σ.ev x).strip) σ.st (.slice T X lo hi mx)) d K σ := by
  rw [op_guard rfl rfl]
  cases lo <;> cases hi <;> cases mx <;> rfl
theorem og_call {f : FuncId} {args : Array Operand} {ts : Array TypeId} (h : conGentle (C.con f) = true) : aOp C ⟨d, some (j, want), .call ⟨.value (.func f), args, ts⟩⟩ K σ = guardK ((σ.get j).wanted want) (okAll σ.ev (.func f :: args.toList)) (callK C f (σ.st.borrows (args.toList.map fun x => (σ.ev x).strip))) ((σ.st.borrows (args.toList.map fun x => (σ.ev x).strip)).isSome = true) d K σ := by
  have hb : barOf C (.call ⟨.value (.func f), args, ts⟩) = none := by
    unfold barOf
    dsimp only
    split
    · next h' => rw [h'] at h; cases h
    · rfl
  rw [op_guard rfl hb, bg_call rfl, live_call rfl]
  simp [Op.operands, Call.operands]
/-- How a call under a contract goes. -/
theorem call_fn {f : FuncId} {α : Type} {A : Arms α} {p : α → Prop} {r : α → AV} (h : C.con f = some (fnCon A p r)) :
    (∀ d args ts K σ, aOp C ⟨d, none, .call ⟨.value (.func f), args, ts⟩⟩ K σ = gT (callK C f (σ.st.borrows (args.toList.map σ.ev))) d K σ) ∧
    (∀ d j want args ts K σ, aOp C ⟨d, some (j, want), .call ⟨.value (.func f), args, ts⟩⟩ K σ = guardK ((σ.get j).wanted want) (okAll σ.ev (.func f :: args.toList)) (callK C f (σ.st.borrows (args.toList.map fun x => (σ.ev x).strip))) ((σ.st.borrows (args.toList.map fun x => (σ.ev x).strip)).isSome = true) d K σ) ∧
    (∀ as ros, callV C f as ros = decK (A.dec as) p r ros) :=
  ⟨fun _ _ _ _ _ => op_call (by rw [h]; rfl), fun _ _ _ _ _ _ _ => og_call (by rw [h]; rfl), fun _ _ => callV_fn h⟩

theorem call_scal {f : FuncId} {α : Type} {A : Arms α} {p : α → Prop} {r : α → AV} (h : C.con f = some (fnScal A p r)) :
    (∀ d args ts K σ, aOp C ⟨d, none, .call ⟨.value (.func f), args, ts⟩⟩ K σ = gT (callK C f (σ.st.borrows (args.toList.map σ.ev))) d K σ) ∧
    (∀ d j want args ts K σ, aOp C ⟨d, some (j, want), .call ⟨.value (.func f), args, ts⟩⟩ K σ = guardK ((σ.get j).wanted want) (okAll σ.ev (.func f :: args.toList)) (callK C f (σ.st.borrows (args.toList.map fun x => (σ.ev x).strip))) ((σ.st.borrows (args.toList.map fun x => (σ.ev x).strip)).isSome = true) d K σ) ∧
    (∀ as ros, callV C f as ros = decS (A.dec as) p r) :=
  ⟨fun _ _ _ _ _ => op_call (by rw [h]; rfl), fun _ _ _ _ _ _ _ => og_call (by rw [h]; rfl), fun _ _ => callV_scal h⟩

theorem guard_mk {ok c live : Prop} {av : List Nat → AV} : guardK (some true) ok ⟨c, [], [], av⟩ live d K σ = ((ok ∧ c) ∧ live ∧ K (σ.put d (.opt true (av [])))) := by
  refine propext ⟨fun ⟨⟨h1, h2⟩, h3⟩ => ⟨h1, h2, h3 [] trivial⟩, fun ⟨h1, h2, h3⟩ => ⟨⟨h1, h2⟩, fun gs hg => ?_⟩⟩
  cases gs with
  | nil => exact h3
  | cons _ _ => exact hg.elim
end
def vr30 := PLift.up (And.intro @guard_mk <| And.intro @og_move (And.intro @og_assign (And.intro @og_load (And.intro @og_bin (And.intro @og_un (And.intro @og_conv (And.intro @og_fieldAddr (And.intro @og_field (And.intro @og_indexAddr (And.intro @og_index (And.intro @og_extract (And.intro @og_nil (And.intro @og_len (And.intro @og_build (And.intro @og_buildSlice (@og_slice))))))))))))))))
end Go.Eng

namespace Go.Eng
open Go.ChangeShapes Go.WideShapes
section
variable {P : Program} {t e : TypeId} {α β : Type} [Cell α] [Cell β]

/-- Cells that read at a type stand for a value of Lean's. -/
def Reads (P : Program) (t : TypeId) (α : Type) [Cell α] (good : α → Prop) : Prop :=
  ∀ (H : Type) (enc : TypeId × Value → H) (W : World) (n : Nat) (cs : List Value) (x : DataW H × List MemPlace), DataW.trod enc P W 0 (fun _ => true) true n t cs = some x →
    cs.length = Cell.width α ∧ ∃ y : α, good y ∧ ∀ i, i < Cell.width α → RepT W Nothing ((Cell.enc y).getD i default) (cs.getD i undef)

def goodInt (n : Int) : Prop := -9223372036854775808 ≤ n ∧ n ≤ 9223372036854775807
def goodAny {α : Type} (_ : α) : Prop := True
def goodStr (s : List UInt8) : Prop := s.length ≤ maxLen
def goodList {α : Type} (g : α → Prop) (l : List α) : Prop := l.length ≤ maxLen ∧ ∀ x ∈ l, g x

theorem reads_int (ht : P.underlying t = some (.int .i64)) : Reads P t Int goodInt := by
  intro H enc W n cs x h
  obtain ⟨k, rfl, _, hw⟩ := DataW.trod_int ht h
  refine ⟨rfl, k, ?_, fun i hi => ?_⟩
  · simpa [Lit.wf, IntKind.min, IntKind.max, IntKind.signed, IntKind.bits, goodInt] using hw
  · obtain rfl : i = 0 := by simpa using hi
    exact .int _ _

theorem reads_u8 (ht : P.underlying t = some (.int .u8)) : Reads P t Byt goodAny := by
  intro H enc W n cs x h
  obtain ⟨k, rfl, _, hw⟩ := DataW.trod_int ht h
  have hk : 0 ≤ k ∧ k ≤ 255 := by simpa [Lit.wf, IntKind.min, IntKind.max, IntKind.signed, IntKind.bits] using hw
  refine ⟨rfl, ⟨UInt8.ofNat k.toNat⟩, trivial, fun i hi => ?_⟩
  obtain rfl : i = 0 := by simpa using hi
  rw [← byt_enc hk.1 (by omega)]
  exact .int _ _

theorem u32_enc {x : Int} (h0 : 0 ≤ x) (h1 : x < 4294967296) : [TV.int .u32 x] = Cell.enc (UInt32.ofNat x.toNat) := by
  have : ((UInt32.ofNat x.toNat).toNat : Int) = x := by
    rw [UInt32.toNat_ofNat']
    omega
  simp only [enc_u32, this]

theorem reads_u32 (ht : P.underlying t = some (.int .u32)) : Reads P t UInt32 goodAny := by
  intro H enc W n cs x h
  obtain ⟨k, rfl, _, hw⟩ := DataW.trod_int ht h
  have hk : 0 ≤ k ∧ k ≤ 4294967295 := by simpa [Lit.wf, IntKind.min, IntKind.max, IntKind.signed, IntKind.bits] using hw
  refine ⟨rfl, UInt32.ofNat k.toNat, trivial, fun i hi => ?_⟩
  obtain rfl : i = 0 := by simpa using hi
  rw [← u32_enc hk.1 (by omega)]
  exact .int _ _

theorem reads_bool (ht : P.underlying t = some .bool) : Reads P t Bool goodAny := by
  intro H enc W n cs x h
  obtain ⟨k, rfl, _⟩ := DataW.trod_bool ht h
  refine ⟨rfl, k, trivial, fun i hi => ?_⟩
  obtain rfl : i = 0 := by simpa using hi
  exact .bool _

theorem reads_str (ht : P.underlying t = some .string) : Reads P t (List UInt8) goodStr := by
  intro H enc W n cs x h
  obtain ⟨s, rfl, _, hs⟩ := DataW.trod_string ht h
  refine ⟨rfl, s.data.toList, by simpa [goodStr] using hs, fun i hi => ?_⟩
  obtain rfl : i = 0 := by simpa using hi
  exact .str _

theorem list_of {γ : Type} (R : Nat → γ → Prop) : ∀ n, (∀ i, i < n → ∃ y, R i y) → ∃ l : List γ, l.length = n ∧ ∀ i y, l[i]? = some y → R i y
  | 0, _ => ⟨[], rfl, fun i y h => by simp at h⟩
  | n + 1, h => by
    obtain ⟨l, h1, h2⟩ := list_of R n fun i hi => h i (by omega)
    obtain ⟨y, hy⟩ := h n (by omega)
    refine ⟨l ++ [y], by simp [h1], fun i z hz => ?_⟩
    by_cases hi : i < l.length
    · rw [List.getElem?_append_left hi] at hz; exact h2 i z hz
    · rw [List.getElem?_append_right (by omega)] at hz
      have hi0 : i - l.length = 0 := by
        refine Classical.byContradiction fun hne => ?_
        rw [List.getElem?_eq_none (by simp; omega)] at hz; cases hz
      rw [hi0] at hz
      simp at hz
      subst hz
      have : i = n := by omega
      subst this; exact hy

theorem cells_at {W : World} {a : Addr} {n : Nat} {cs : List Value} (h : W.cells? 0 a n = some cs) : cs.length = n ∧ ∀ j, j < n → W.cell? (a.add j) = some (cs.getD j undef) := by
  unfold World.cells? at h
  rw [if_pos (Nat.zero_le _)] at h
  have key : ∀ (l : List Nat) (cs : List Value), (l.mapM fun i => W.cell? (a.add i)) = some cs → cs.length = l.length ∧ ∀ j, j < l.length → W.cell? (a.add (l.getD j 0)) = some (cs.getD j undef) := by
    intro l
    induction l with
    | nil => intro cs h; simp at h; subst h; exact ⟨rfl, fun j hj => by simp at hj⟩
    | cons b r ih =>
      intro cs h
      rw [List.mapM_cons] at h
      cases h1 : W.cell? (a.add b) with
      | none => rw [h1] at h; cases h
      | some v =>
        cases h2 : (r.mapM fun i => W.cell? (a.add i)) with
        | none => rw [h1, h2] at h; cases h
        | some q =>
          rw [h1, h2] at h
          cases h
          obtain ⟨g1, g2⟩ := ih q h2
          refine ⟨by simp [g1], fun j hj => ?_⟩
          cases j with
          | zero => simpa using h1
          | succ j => simpa using g2 j (by simpa using hj)
  obtain ⟨g1, g2⟩ := key _ cs h
  simp only [List.length_range] at g1 g2
  refine ⟨g1, fun j hj => ?_⟩
  have := g2 j hj
  simpa [List.getD_eq_getElem?_getD, hj] using this

theorem reads_list {good : α → Prop} (ht : P.underlying t = some (.slice e)) (hr : Reads P e α good) (hw : P.cellsOf e = Cell.width α) (hw0 : 0 < Cell.width α) : Reads P t (List α) (goodList good) := by
  intro H enc W n cs x h
  have nilcase : ∀ (a : Option Addr) (cap : Nat), RepT W Nothing (sl ([] : List α)) (.slice a 0 cap) := fun a cap =>
    .seq _ _ a 0 cap 0 0 (fun _ _ => default) rfl (Nat.zero_le _) (.inl rfl) (fun i hi => by simp at hi) (fun i j hi => by simp at hi) (fun i j hi => by simp at hi) fun i j hi => by simp at hi
  rcases DataW.trod_slice ht h with ⟨rfl, _⟩ | ⟨a, len, cap, elems, rest, m, _, rfl, _, _, hl, hcap, hlen, hel, _⟩
  · refine ⟨rfl, [], ⟨Nat.zero_le _, fun x hx => by cases hx⟩, fun i hi => ?_⟩
    obtain rfl : i = 0 := by simpa using hi
    exact nilcase _ _
  · refine ⟨rfl, ?_⟩
    have hex : ∀ i, i < len → ∃ y : α, good y ∧ ∀ j, j < Cell.width α → ∃ v, W.cell? ((a.add (i * Cell.width α)).add j) = some v ∧ RepT W Nothing ((Cell.enc y).getD j default) v := by
      intro i hi
      have h1 := hel i hi
      rw [hw] at h1
      have h2 : elems[i]? = some elems[i] := List.getElem?_eq_getElem (by omega)
      rw [h2, Option.bind_eq_some_iff] at h1
      obtain ⟨ci, h3, h4⟩ := h1
      obtain ⟨h5, y, h6, h7⟩ := hr H enc W m ci _ h4
      obtain ⟨h8, h9⟩ := cells_at h3
      exact ⟨y, h6, fun j hj => ⟨_, h9 j hj, h7 j hj⟩⟩
    obtain ⟨l, hll, hl2⟩ := list_of _ len hex
    refine ⟨l, ⟨by omega, fun x hx => ?_⟩, fun i hi => ?_⟩
    · obtain ⟨i, hi, rfl⟩ := List.getElem_of_mem hx
      exact (hl2 i _ (List.getElem?_eq_getElem hi)).1
    · obtain rfl : i = 0 := by simpa using hi
      change RepT W Nothing (sl l) (.slice (some a) len cap)
      by_cases h0 : len = 0
      · subst h0
        obtain rfl := List.length_eq_zero_iff.1 hll
        exact nilcase _ _
      · have hspot : a.spot = none := by
          obtain ⟨_, hc⟩ := hl2 0 l[0] (List.getElem?_eq_getElem (by omega))
          obtain ⟨v, hv, _⟩ := hc 0 hw0
          simp only [Nat.zero_mul, Addr.add, if_true] at hv
          unfold World.cell? at hv
          split at hv
          · split at hv
            · cases hv
            · next hs => simpa using hs
          · cases hv
        obtain ⟨b, off, sp⟩ := a
        obtain rfl : sp = none := hspot
        have hadd : ∀ i j, ((⟨b, off, none⟩ : Addr).add (i * Cell.width α)).add j = ⟨b, off + (i * Cell.width α + j), none⟩ := fun i j => by
          rw [add_at, add_at]; congr 1; omega
        refine .seq _ _ _ len cap b off (fun i j => (W.cell? ⟨b, off + (i * Cell.width α + j), none⟩).getD undef) (by simp [hll]) hl (.inr rfl) (fun i hi => ?_) (fun i j hi hj => ?_) (fun _ _ _ _ => id) fun i j hi hj => ?_
        · simp only [List.length_map] at hi
          simp [List.getD_eq_getElem?_getD, hi, Cell.len]
        · simp only [List.length_map] at hi
          obtain ⟨_, hc⟩ := hl2 i l[i] (List.getElem?_eq_getElem hi)
          obtain ⟨v, hv, _⟩ := hc j hj
          rw [hadd] at hv
          rw [hv]; rfl
        · simp only [List.length_map] at hi
          obtain ⟨_, hc⟩ := hl2 i l[i] (List.getElem?_eq_getElem hi)
          obtain ⟨v, hv, hrep⟩ := hc j hj
          rw [hadd] at hv
          have e1 : (l.map Cell.enc).getD i [] = Cell.enc l[i] := by simp [List.getD_eq_getElem?_getD, hi]
          rw [e1, hv]
          exact hrep

/-- Types one behind the other. -/
def ReadsL (P : Program) (es : List TypeId) (α : Type) [Cell α] (good : α → Prop) : Prop :=
  (es.map P.cellsOf).sum = Cell.width α ∧ ∀ (H : Type) (enc : TypeId × Value → H) (W : World) (n : Nat) (cs : List Value),
    (∀ i e, es[i]? = some e → ∃ x, DataW.trod enc P W 0 (fun _ => true) true n e ((cs.drop ((es.take i).map P.cellsOf).sum).take (P.cellsOf e)) = some x) →
    ∃ y : α, good y ∧ ∀ i, i < Cell.width α → RepT W Nothing ((Cell.enc y).getD i default) (cs.getD i undef)

theorem gdv_take {l : List Value} {n i : Nat} (h : i < n) : (l.take n).getD i undef = l.getD i undef := by
  simp [List.getD_eq_getElem?_getD, h]
theorem gdv_drop {l : List Value} {n i : Nat} : (l.drop n).getD i undef = l.getD (n + i) undef := by
  simp [List.getD_eq_getElem?_getD, List.getElem?_drop]

theorem readsL_one {good : α → Prop} (hr : Reads P e α good) (hw : P.cellsOf e = Cell.width α) : ReadsL P [e] α good := by
  refine ⟨by simp [hw], fun H enc W n cs h => ?_⟩
  obtain ⟨x, hx⟩ := h 0 e rfl
  simp only [List.take_zero, List.map_nil, List.sum_nil, List.drop_zero] at hx
  obtain ⟨_, y, h1, h2⟩ := hr H enc W n _ x hx
  refine ⟨y, h1, fun i hi => ?_⟩
  have := h2 i hi
  rwa [gdv_take (by rw [hw]; exact hi)] at this

theorem readsL_cons {es : List TypeId} {g : α → Prop} {g' : β → Prop} (hr : Reads P e α g) (hw : P.cellsOf e = Cell.width α) (hl : ReadsL P es β g') : ReadsL P (e :: es) (α × β) fun y => g y.1 ∧ g' y.2 := by
  obtain ⟨hs, hl⟩ := hl
  refine ⟨by simp only [List.map_cons, List.sum_cons, hs, hw]; rfl, fun H enc W n cs h => ?_⟩
  obtain ⟨x, hx⟩ := h 0 e rfl
  simp only [List.take_zero, List.map_nil, List.sum_nil, List.drop_zero] at hx
  obtain ⟨_, y, h1, h2⟩ := hr H enc W n _ x hx
  obtain ⟨z, h3, h4⟩ := hl H enc W n (cs.drop (P.cellsOf e)) fun i e' he => by
    have := h (i + 1) e' (by simpa using he)
    simpa [List.take_succ_cons, List.drop_drop] using this
  refine ⟨(y, z), ⟨h1, h3⟩, fun i hi => ?_⟩
  have hly : (Cell.enc y).length = Cell.width α := Cell.len y
  change RepT W Nothing ((Cell.enc y ++ Cell.enc z).getD i default) _
  by_cases hi1 : i < Cell.width α
  · rw [gd_app_l (by rw [hly]; exact hi1)]
    have := h2 i hi1
    rwa [gdv_take (by rw [hw]; exact hi1)] at this
  · rw [gd_app_r (by rw [hly]; omega), hly]
    have hi' : i < Cell.width α + Cell.width β := hi
    have := h4 (i - Cell.width α) (by omega)
    rwa [gdv_drop, hw, show Cell.width α + (i - Cell.width α) = i from by omega] at this

theorem reads_arr {n : Nat} {good : α → Prop} (ht : P.underlying t = some (.array n e)) (hc : P.cellsOf t = n * P.cellsOf e) (hl : ReadsL P (List.replicate n e) α good) : Reads P t α good := by
  intro H enc W f cs x h
  obtain ⟨xs, m, _, _, hlen, hxl, hel⟩ := DataW.trod_array ht h
  obtain ⟨hs, hl⟩ := hl
  refine ⟨by rw [hlen, hc, ← hs]; simp, ?_⟩
  refine hl H enc W m cs fun i e' he => ?_
  have hi : i < n := by
    refine Classical.byContradiction fun hne => ?_
    rw [List.getElem?_eq_none (by simp; omega)] at he; cases he
  have he' : e' = e := by
    simp [hi] at he; exact he.symm
  subst he'
  have h1 := hel i hi
  have h2 : xs[i]? = some xs[i] := List.getElem?_eq_getElem (by omega)
  rw [h2] at h1
  have e1 : (((List.replicate n e').take i).map P.cellsOf).sum = i * P.cellsOf e' := by
    simp [List.take_replicate, Nat.min_eq_left (Nat.le_of_lt hi)]
  rw [e1]
  exact ⟨_, h1⟩

def offsOk (P : Program) : List Field → Nat → Bool
  | [], _ => true
  | f :: r, o => decide (f.offset = o) && offsOk P r (o + P.cellsOf f.type)

theorem offs_at {P : Program} : ∀ {fs : List Field} {o : Nat}, offsOk P fs o = true → ∀ i f, fs[i]? = some f → f.offset = o + (((fs.map (·.type)).take i).map P.cellsOf).sum
  | [], _, _, i, f, h => by simp at h
  | g :: r, o, hk, i, f, h => by
    simp only [offsOk, Bool.and_eq_true, decide_eq_true_eq] at hk
    cases i with
    | zero => simp at h; subst h; simpa using hk.1
    | succ i =>
      have := offs_at hk.2 i f (by simpa using h)
      simp only [List.map_cons, List.take_succ_cons, List.sum_cons]
      omega

theorem reads_struct {fs : Array Field} {good : α → Prop} (ht : P.underlying t = some (.struct fs)) (ho : offsOk P fs.toList 0 = true) (hc : P.cellsOf t = Cell.width α) (hl : ReadsL P (fs.toList.map (·.type)) α good) : Reads P t α good := by
  intro H enc W f cs x h
  obtain ⟨xs, m, _, _, hlen, hxl, hel⟩ := DataW.trod_struct ht h
  obtain ⟨hs, hl⟩ := hl
  refine ⟨by rw [hlen, hc], ?_⟩
  refine hl H enc W m cs fun i e' he => ?_
  rw [List.getElem?_map, Option.map_eq_some_iff] at he
  obtain ⟨fd, hfd, rfl⟩ := he
  have h1 := hel i fd (by simpa using hfd)
  have hi : i < xs.length := by
    rw [hxl]
    have := (List.getElem?_eq_some_iff.1 hfd).1
    simpa using this
  have h2 : xs[i]? = some xs[i] := List.getElem?_eq_getElem hi
  rw [h2] at h1
  have h3 := offs_at ho i fd hfd
  rw [Nat.zero_add] at h3
  rw [← h3]
  exact ⟨_, h1⟩

/-- A struct of Lean's, by its parts. -/
theorem reads_iso {γ : Type} {f : γ → α} {g : α → γ} {h : ∀ x, g (f x) = x} {h' : ∀ y, f (g y) = y} {good : α → Prop} (hr : Reads P t α good) : @Reads P t γ (Cell.iso f g h h') fun y => good (f y) := by
  intro H enc W n cs x hx
  obtain ⟨h1, y, h2, h3⟩ := hr H enc W n cs x hx
  refine ⟨h1, g y, (by rw [h']; exact h2 : good (f (g y))), fun i hi => ?_⟩
  have := h3 i hi
  change RepT W Nothing ((Cell.enc (f (g y))).getD i default) _
  rw [h']
  exact this

/-! ### All arguments -/
def ReadsA (P : Program) (ts : List TypeId) {α : Type} (A : Arms α) (good : α → Prop) : Prop :=
  ∀ (H : Type) (enc : TypeId × Value → H) (W : World) (base : Nat) (vs : List Value) (ds : List (DataW H)) (ps : List MemPlace),
    (∀ (j : Nat) t v, ts[j]? = some t → vs[j]? = some v → Value.okWide P W .any base t v) → DataW.TrodAll enc P W 0 (fun _ => true) true ts vs ds ps →
    ∃ x, good x ∧ A.dec (A.enc x) = some x ∧ (A.enc x).length = vs.length ∧ ∀ i, i < vs.length → Rep (fun _ => none) W Nothing ((A.enc x).getD i .unk) (vs.getD i undef)

theorem readsA_nil : ReadsA P [] Arms.nil goodAny := by
  intro H enc W base vs ds ps _ h
  obtain ⟨rfl, rfl, rfl⟩ := trodAll_nil h
  exact ⟨(), trivial, rfl, rfl, fun i hi => by simp at hi⟩

def plainU : Option TypeDesc → Bool
  | some (.int _) | some .bool | some .string | some (.slice _) => true
  | _ => false

theorem plain_cells {W : World} {r : Reach} {base : Nat} {v : Value} (hu : plainU (P.underlying t) = true) (h : Value.okWide P W r base t v) : v.cells = #[v] := by
  cases v with
  | agg cs =>
    exfalso
    unfold Value.okWide Cell.okWide Cell.ok at h
    cases hx : P.underlying t with
    | none => rw [hx] at hu; cases hu
    | some u => rw [hx] at h hu; cases u <;> first | (cases hu; done) | exact h
  | tuple cs =>
    exfalso
    unfold Value.okWide Cell.okWide Cell.ok at h
    cases hx : P.underlying t with
    | none => rw [hx] at hu; cases hu
    | some u => rw [hx] at h hu; cases u <;> first | (cases hu; done) | exact h
  | _ => rfl

theorem readsA_T {ts : List TypeId} {γ : Type} {A : Arms γ} {g : α → Prop} {g' : γ → Prop} (hr : Reads P t α g) (hu : plainU (P.underlying t) = true) (hA : ReadsA P ts A g') : ReadsA P (t :: ts) (Arms.cons (argT α) A) fun x => g x.1 ∧ g' x.2 := by
  intro H enc W base vs ds ps hv h
  obtain ⟨v, vs', d, ds', p, q, rfl, rfl, rfl, ⟨n, h1⟩, h2⟩ := trodAll_cons h
  have hcv := plain_cells hu (hv 0 t v rfl rfl)
  rw [hcv] at h1
  obtain ⟨hlen, y, g1, g2⟩ := hr H enc W n _ _ h1
  obtain ⟨z, g3, g6, g4, g5⟩ := hA H enc W base vs' ds' q (fun j t v ht hv' => hv (j + 1) t v (by simpa using ht) (by simpa using hv')) h2
  have hone : [one y] = Cell.enc y := by
    have hw : 1 = Cell.width α := hlen
    have hl := Cell.len y
    unfold one
    generalize Cell.enc y = l at hl
    match l, hl with
    | [c], _ => rfl
    | [], hl => simp at hl; omega
    | _ :: _ :: _, hl => simp at hl; omega
  have hd : (argT α).dec ((argT α).enc y) = some y := by
    change Cell.dec [one y] = some y
    rw [hone, Cell.dec_enc]
  refine ⟨(y, z), ⟨g1, g3⟩, by simp [Arms.cons, hd, g6], by simp [Arms.cons, g4], fun i hi => ?_⟩
  cases i with
  | zero =>
    have hw : 1 = Cell.width α := hlen
    have := g2 0 (by omega)
    simp only [List.getD_cons_zero] at this
    have hl := Cell.len y
    rw [← hw] at hl
    simp only [Arms.cons, argT, List.getD_cons_zero]
    refine .t _ _ ?_
    unfold one
    generalize Cell.enc y = l at this hl
    cases l with
    | nil => simp at hl
    | cons c r => exact this
  | succ i => simpa [Arms.cons] using g5 i (by simpa using hi)

def aggU : Option TypeDesc → Bool
  | some (.struct _) | some (.array _ _) => true
  | _ => false

theorem readsA_A {ts : List TypeId} {γ : Type} {A : Arms γ} {g : α → Prop} {g' : γ → Prop} (hr : Reads P t α g) (hu : aggU (P.underlying t) = true) (hA : ReadsA P ts A g') : ReadsA P (t :: ts) (Arms.cons (argA α) A) fun x => g x.1 ∧ g' x.2 := by
  intro H enc W base vs ds ps hv h
  obtain ⟨v, vs', d, ds', p, q, rfl, rfl, rfl, ⟨n, h1⟩, h2⟩ := trodAll_cons h
  obtain ⟨cs, rfl⟩ : ∃ cs, v = .agg cs := by
    have hv0 := hv 0 t v rfl rfl
    unfold Value.okWide at hv0
    cases hx : P.underlying t with
    | none => rw [hx] at hu; cases hu
    | some u => rw [hx] at hv0 hu; cases u <;> first | (cases hu; done) | exact ⟨_, hv0.choose_spec.1⟩
  obtain ⟨hlen, y, g1, g2⟩ := hr H enc W n _ _ h1
  obtain ⟨z, g3, g6, g4, g5⟩ := hA H enc W base vs' ds' q (fun j t v ht hv' => hv (j + 1) t v (by simpa using ht) (by simpa using hv')) h2
  have hd : (argA α).dec ((argA α).enc y) = some y := argA_enc
  refine ⟨(y, z), ⟨g1, g3⟩, by simp [Arms.cons, hd, g6], by simp [Arms.cons, g4], fun i hi => ?_⟩
  cases i with
  | zero =>
    have hl := Cell.len y
    have hcl : cs.toList.length = Cell.width α := hlen
    simp only [Arms.cons, argA, List.getD_cons_zero]
    refine .agg _ cs (by simp [hl]; simpa using hcl.symm) (fun i hi => ?_) fun i hi => ?_
    · rw [getD_map_t _ _ (by simpa using hi)]; rfl
    · have hi' : i < (Cell.enc y).length := by simpa using hi
      rw [getD_map_t _ _ hi']
      have := g2 i (by omega)
      refine .t _ _ ?_
      have e : (Value.agg cs).cells.toList.getD i undef = cs.getD i undef := by
        change cs.toList.getD i undef = _
        simp [List.getD_eq_getElem?_getD, Array.getD_eq_getD_getElem?]
      rwa [e] at this
  | succ i => simpa [Arms.cons] using g5 i (by simpa using hi)

end
end Go.Eng

namespace Go.Eng
open Go.ChangeShapes Go.WideShapes Go.ChangeAt Go.RowKit
section
variable {P : Program}

theorem kept_of {O : Addr → Prop} {β β' : Bt} {W W' : World} (h : Frame Nothing β W O β' W') (may : MemPlace → Prop) : W.keptBut W' may := by
  refine ⟨h.os, h.output, fun i hi => ?_⟩
  rw [h.block i hi fun _ h => h]
  cases W.heap[i]? with
  | none => rfl
  | some o => cases o <;> first | exact ⟨rfl, rfl, rfl, fun _ _ => rfl⟩ | exact .inr ⟨rfl, rfl⟩ | rfl

theorem same_of {O : Addr → Prop} {β β' : Bt} {W W' : World} (h : Frame Nothing β W O β' W') (p : MemPlace) (hp : p.block < W.heap.size) : W.sameAt W' p := by
  cases p with
  | cell b off =>
    change W'.cell? ⟨b, off, none⟩ = W.cell? ⟨b, off, none⟩
    unfold World.cell?
    rw [h.block b hp fun _ h => h]
  | map b => exact h.block b hp fun _ h => h

def tsOk (P : Program) (ts : List TypeId) : Bool := ts.all fun t => P.readableRec t && decide (t < P.types.size)

theorem trodAll_stays (hl : laidOutB P = true) {H : Type} {enc : TypeId × Value → H} {W W' : World} {sp' : Nat → Bool} :
    ∀ {ts : List TypeId} {vs : List Value} {ds : List (DataW H)} {ps : List MemPlace}, tsOk P ts = true → DataW.TrodAll enc P W 0 (fun _ => true) true ts vs ds ps → (∀ p ∈ ps, W.sameAt W' p) → (∀ p ∈ ps, sp' p.block = true) →
      DataW.TrodAll enc P W' 0 sp' true ts vs ds ps
  | [], _, _, _, _, h, _, _ => by
    obtain ⟨rfl, rfl, rfl⟩ := trodAll_nil h
    rfl
  | t :: ts, _, _, _, hk, h, hs, hsp => by
    simp only [tsOk, List.all_cons, Bool.and_eq_true, decide_eq_true_eq] at hk
    obtain ⟨v, vs, d, ds, p, q, rfl, rfl, rfl, h1, h2⟩ := trodAll_cons h
    refine ⟨p, q, WideElems.Trod_stays hl hk.1.1 hk.1.2 h1 (fun x hx => hs x (List.mem_append_left _ hx)) fun x hx => hsp x (List.mem_append_left _ hx), ?_, rfl⟩
    exact trodAll_stays hl hk.2 h2 (fun x hx => hs x (List.mem_append_right _ hx)) fun x hx => hsp x (List.mem_append_right _ hx)

/-- The law's answer. -/
def rTrue {α : Type} (_ : α) : AV := .t (.bool true)

/-- A spec that says 'true, and the arguments as they were'. -/
def SaysTrue (s : ChangeSpec) (n : Nat) : Prop := s.vars = [] ∧ ∀ (H : Type) (ds : List (DataW H)), ds.length = n → (s.fn H ds).results = [.lit (.bool true)] ∧ (s.fn H ds).args = ds ∧ (s.fn H ds).vars = []

theorem trodAll_len {H : Type} {enc : TypeId × Value → H} {W : World} {sp : Nat → Bool} {base : Nat} {held : Bool} : ∀ {ts : List TypeId} {vs : List Value} {ds : List (DataW H)} {ps : List MemPlace}, DataW.TrodAll enc P W base sp held ts vs ds ps → ds.length = ts.length
  | [], _, _, _, h => by
    obtain ⟨rfl, rfl, rfl⟩ := trodAll_nil h
    rfl
  | t :: ts, _, _, _, h => by
    obtain ⟨v, vs, d, ds, p, q, rfl, rfl, rfl, h1, h2⟩ := trodAll_cons h
    simp [trodAll_len h2]

theorem law_contract {f : FuncId} {fn : Func} {ts : List TypeId} {tb : TypeId} {α : Type} {A : Arms α} {p : α → Prop} {good : α → Prop} {s : ChangeSpec}
    (hok : COk P f (fnScal A p rTrue)) (hts : fn.params.toList = ts) (hres : fn.resultTypes = #[tb]) (hb : P.underlying tb = some .bool) (hl : laidOutB P = true) (hk : tsOk P ts = true)
    (hA : ReadsA P ts A good) (hp : ∀ x, good x → p x) (hs : SaysTrue s ts.length)
    (H : Type) (enc : TypeId × Value → H) (W : World) (base : Nat) (args : Array Value) (ds gs : List (DataW H)) (before : List MemPlace)
    (hval : ∀ (j : Nat) t v, fn.params[j]? = some t → args[j]? = some v → Value.okWide P W .any base t v)
    (hW : DataW.Whole enc P fn.params.toList s.vars false W args.toList ds gs before) :
    Calls P f args W fun e W' => ∃ v, e = .returned v ∧ s.post enc P fn false true false false W args v W' := by
  have hW' := hW
  obtain ⟨q, q', hT, hV, rfl, _, _⟩ := hW
  rw [hs.1] at hV
  have hgs : gs = [] ∧ q' = [] := by
    cases gs with
    | nil => exact ⟨rfl, hV⟩
    | cons _ _ => exact hV.elim
  obtain ⟨rfl, rfl⟩ := hgs
  rw [hts] at hT
  obtain ⟨x, hg, hde, hlen, hrep⟩ := hA H enc W base args.toList ds q (fun j t v ht hv => hval j t v (by rw [← Array.getElem?_toList, hts]; exact ht) (by simpa using hv)) hT
  have hargs : Args (fun _ => none) W Nothing (A.enc x) args := by
    refine ⟨by rw [hlen]; simp, fun i hi => ?_⟩
    have := hrep i (by omega)
    simpa [List.getD_eq_getElem?_getD, Array.getD_eq_getD_getElem?] using this
  have hdec : ∃ y, A.dec (A.enc x) = some y ∧ p y := ⟨x, hde, hp x hg⟩
  have hc := hok.2 (A.enc x) args (fun _ => none) W Nothing (fun _ h => h.elim) ⟨0, fun _ _ => rfl⟩ (fun _ _ h => by cases h) hargs hdec
  refine hc.mono fun e W' ⟨O', β', v, he, hf, hv⟩ => ⟨v, he, ?_⟩
  have hvt : v = .bool true := by
    have h1 := hv (fun _ => none) W Nothing
    have e1 : (match A.dec (A.enc x) with | some x => rTrue x | none => .unk) = .t (.bool true) := by rw [hde]; rfl
    change Rep _ W _ (match A.dec (A.enc x) with | some x => rTrue x | none => .unk) v at h1
    rw [e1] at h1
    exact h1.bool_inv
  subst hvt
  have hds := trodAll_len hT
  obtain ⟨s1, s2, s3⟩ := hs.2 H (ds ++ []) (by simpa using hds)
  refine ⟨ds, [], q ++ [], [], q, [], hW', ?_, ?_, ?_, kept_of hf _, fun h => by cases h⟩
  · rw [s1, hres]
    exact trodAll_cons_mk (shut_bool hb _) trodAll_mk0
  · rw [s2, hts, List.append_nil]
    refine trodAll_stays hl hk hT (fun p hp => same_of hf p ?_) fun p hp => ?_
    · exact hW'.lt p (by simpa using hp)
    · simpa using hW'.lt p (by simpa using hp)
  · rw [s3, hs.1]
    rfl

end
end Go.Eng

namespace Go.Eng
section
variable {s : Store} {α : Type} [Cell α]
theorem borrow1_set {g w n : Nat} {rows : List (List TV)} {ro : Bool} : (s.set g (some (.row w rows ro))).borrow1 (.tok g w 0 n) = if n ≤ rows.length then some (.seq w (rows.take n), [g]) else none := by
  simp only [Store.borrow1, Store.set_same]
  simp
theorem argT_seq {n : Nat} {rows : List (List TV)} : (argT (List α)).dec (.t (.seq n rows)) = if n = Cell.width α then decAll rows else none := rfl
theorem decAll_nil : decAll ([] : List (List TV)) = some ([] : List α) := rfl
theorem decAll_cons {r : List TV} {t : List (List TV)} : decAll (r :: t) = (Cell.dec r).bind fun x : α => (decAll t).map (x :: ·) := rfl
theorem dec_int {n : Int} : Cell.dec [.int .i64 n] = some n := rfl
theorem dec_bool {b : Bool} : Cell.dec [.bool b] = some b := rfl
theorem dec_str {x : List UInt8} : Cell.dec [.str x] = some x := rfl
theorem dec_u32 {n : UInt32} : Cell.dec [.int .u32 (n.toNat : Int)] = some n := Cell.dec_enc n
theorem dec_enc {x : α} : Cell.dec (Cell.enc x) = some x := Cell.dec_enc x
theorem dec_sl {l : List α} : Cell.dec [sl l] = some l := Cell.dec_enc l

/-! ### Arrays of the argument's own: as parts -/
theorem enc_pair {β : Type} [Cell β] {x : α} {y : β} : Cell.enc (x, y) = Cell.enc x ++ Cell.enc y := rfl
theorem enc_prod {β : Type} [Cell β] {x : α × β} : Cell.enc x = Cell.enc x.1 ++ Cell.enc x.2 := rfl
def liveP (s : Store) : List AV → Prop
  | [] => True
  | v :: r => (s.borrowAll v.cells).isSome = true ∧ liveP s r
theorem liveP_nil : liveP s [] = True := rfl
theorem liveP_cons {v : AV} {r : List AV} : liveP s (v :: r) = ((s.borrowAll v.cells).isSome = true ∧ liveP s r) := rfl
theorem liveP_iff : ∀ {l : List AV}, liveP s l ↔ ∀ v ∈ l, (s.borrowAll v.cells).isSome = true
  | [] => by simp [liveP]
  | v :: r => by simp [liveP, liveP_iff (l := r)]
theorem live_bs {ev : Operand → AV} {T : TypeId} {n : Nat} {ps : Array (Nat × Operand)} : liveB ev s (.buildSlice T n ps) = liveP s (ps.toList.map fun p => ev p.2) := by
  refine propext (Iff.trans ?_ liveP_iff.symm)
  simp only [liveB, List.mem_map, forall_exists_index, and_imp]
  exact ⟨fun h v p hp e => e ▸ h p hp, fun h p hp => h _ p hp rfl⟩
end
def vr40 := PLift.up (And.intro @liveP_nil <| And.intro @liveP_cons <| And.intro @live_bs <| And.intro @borrow1_set (And.intro @borrow_tok (And.intro @argT_seq (And.intro @decAll_nil (And.intro @decAll_cons (And.intro @dec_int (And.intro @dec_bool (And.intro @dec_str (And.intro @dec_u32 (And.intro @dec_enc (And.intro @dec_sl (And.intro @w_int (And.intro @w_bool (And.intro @w_str (And.intro @w_u32 (@w_list))))))))))))))))
end Go.Eng

namespace Go.Eng
section
variable {C : Ctx} {T e : TypeId} {n m : Nat} {z : List TV} {d : Option Nat} {K : St → Prop} {σ : St} {ok live : Prop} {b : B}

theorem og_append {x y : Operand} {j : Nat} {want : Bool} : aOp C ⟨d, some (j, want), .call ⟨.builtin .append, #[x, y], #[T, T]⟩⟩ K σ = (match (σ.get j).wanted want with
      | some wb => (wb = true → okAll σ.ev [x, y] ∧ appendV C T (σ.ev x).strip (σ.ev y).strip (fun v s => K (({ σ with st := s } : St).put d v)) σ.st) ∧ (wb = false → K (σ.put d (.opt false .unk)))
      | none => False) := by
  simp [aOp, barOf, barT, appendV, Op.operands, Call.operands]
  rfl
def guardA (o : Option Bool) (p q : Prop) : Prop :=
  match o with
  | some wb => (wb = true → p) ∧ (wb = false → q)
  | none => False
theorem og_append' {x y : Operand} {j : Nat} {want : Bool} : aOp C ⟨d, some (j, want), .call ⟨.builtin .append, #[x, y], #[T, T]⟩⟩ K σ = guardA ((σ.get j).wanted want) (okAll σ.ev [x, y] ∧ appendV C T (σ.ev x).strip (σ.ev y).strip (fun v s => K (({ σ with st := s } : St).put d v)) σ.st) (K (σ.put d (.opt false .unk))) := by
  rw [og_append]
  unfold guardA
  cases (σ.get j).wanted want <;> rfl
theorem guardA_true {p q : Prop} : guardA (some true) p q = p := by simp [guardA]
theorem guardA_false {p q : Prop} : guardA (some false) p q = q := by simp [guardA]
theorem guardA_some {w : Bool} {p q : Prop} : guardA (some w) p q = ((w = true → p) ∧ (w = false → q)) := rfl

theorem one_t {x : TV} : AV.one (.t x) = true := rfl
theorem all_map_t {l : List TV} : (l.map .t).all AV.one = true := by simp [AV.one]
theorem box_agg {cs : List AV} : boxB (.agg cs) = .new (cs.all AV.one = true) [] (.box cs false) fun g => .ptr g 0 := rfl
theorem box_t {x : TV} : boxB (.t x) = .new True [] (.box [.t x] false) fun g => .ptr g 0 := by simp [boxB, AV.cells, AV.one]
theorem weak_at {Q : Exit → St → Prop} (l : List (Nat × AV)) (s' : Store) (hs : Fewer σ.st s') (hl : WkAll σ s' l) (h : Q .normal (mkS l s')) : avp C .weak Q σ := ⟨_, wk_to hs hl, h⟩
theorem w2_imm' {s s' : Store} {g : Nat} {l : List TV} {ro : Bool} (hg : s.f g = some (.box (l.map .t) ro)) (hd : s'.f g = none) : W2 s s' (.ptr g 0) (.imm l) = True := propext ⟨fun _ => trivial, fun _ => w2_imm hg hd⟩
theorem w2_lv' {α : Type} [Cell α] {s : Store} {v : AV} {l : List α} (h : LV s v l) : W2 s .empty v (.t (sl l)) = True := propext ⟨fun _ => trivial, fun _ => h.w2 fun _ _ => rfl⟩

theorem LV.strip {α : Type} [Cell α] {s : Store} {v : AV} {l : List α} (h : LV s v l) : v.strip = v := by
  rcases h with ⟨_, rfl⟩ | ⟨g, rfl, _⟩ <;> rfl
theorem LV.okc {α : Type} [Cell α] {s : Store} {v : AV} {l : List α} (h : LV s v l) : v.okc = True := by
  rcases h with ⟨_, rfl⟩ | ⟨g, rfl, _⟩ <;> rfl


theorem chunks_one {β : Type} [Cell β] (hw : Cell.width β = 1) : ∀ (l : List β), chunks 1 l.length (l.map one) = l.map Cell.enc
  | [] => rfl
  | x :: r => by
    have h1 : [one x] = Cell.enc x := by
      have hl := Cell.len x
      rw [hw] at hl
      unfold one
      generalize Cell.enc x = c at hl
      match c, hl with
      | [y], _ => rfl
      | [], hl => simp at hl
      | _ :: _ :: _, hl => simp at hl
    have ih := chunks_one hw r
    simp only [List.length_cons, List.map_cons, chunks, List.take_succ_cons, List.take_zero, List.drop_succ_cons, List.drop_zero, h1, ih]
/-- A piece of an array of the call's own, lent. -/
theorem borrow_btok {β : Type} [Cell β] (hw : Cell.width β = 1) {s : Store} {g m : Nat} {l : List β} {ro : Bool} (h : s.f g = some (.box ((l.map one).map .t) ro)) (hm : m ≤ l.length) : s.borrow (.btok g 1 0 m) = some (.t (sl (l.take m)), [g]) := by
  have e : tvs? ((((l.map one).map AV.t).drop 0).take (m * 1)) = some ((l.take m).map one) := by
    rw [List.drop_zero, Nat.mul_one, ← List.map_take, ← List.map_take]
    exact tvs_of _
  have hl : (l.take m).length = m := by simp; omega
  have hc := chunks_one hw (l.take m)
  rw [hl] at hc
  simp only [Store.borrow, Store.borrow1, h, List.length_map]
  rw [if_pos (by omega), e]
  simp only [Option.map_some, hc, sl, hw]

theorem guard_false : guardK (some false) ok b live d K σ = K (σ.put d (.opt false .unk)) := rfl
theorem pick_f {y : AV} {w : Bool} : pickB (.t (.bool false)) y (.t (.bool w)) = .val True (.t (.bool w)) := by simp [pickB, AV.asB]
theorem pick_t {y : AV} {w : Bool} : pickB (.t (.bool true)) (.t (.bool w)) y = .val True (.t (.bool w)) := by simp [pickB, AV.asB]

theorem rz_orNone {o : Option (Prop × TV)} : (orNone o).ros = [] ∧ (orNone o).es = [] := by
  unfold orNone
  split <;> exact ⟨rfl, rfl⟩
theorem rz_bin {op : BinOp} {x y : AV} : (binB C T op x y).ros = [] ∧ (binB C T op x y).es = [] := by
  unfold binB
  repeat' split
  all_goals first | exact ⟨rfl, rfl⟩ | exact rz_orNone
theorem rz_un {op : UnOp} {x : AV} : (unB op x).ros = [] ∧ (unB op x).es = [] := by
  unfold unB
  repeat' split
  all_goals exact ⟨rfl, rfl⟩
theorem rz_idx {x y : AV} : (idxB C T x y).ros = [] ∧ (idxB C T x y).es = [] := by
  unfold idxB
  repeat' split
  all_goals exact ⟨rfl, rfl⟩
theorem rz_part {d : TyD} {cs : List AV} : (partB d cs).ros = [] ∧ (partB d cs).es = [] := by
  unfold partB
  split <;> exact ⟨rfl, rfl⟩
theorem rz_index {x y : AV} : (indexB C T x y).ros = [] ∧ (indexB C T x y).es = [] := by
  unfold indexB
  repeat' split
  all_goals exact ⟨rfl, rfl⟩
theorem rz_load {s : Store} {x : AV} : (loadB C s T x).ros = [] ∧ (loadB C s T x).es = [] := by
  unfold loadB
  repeat' split
  all_goals first | exact ⟨rfl, rfl⟩ | exact rz_part
theorem rz_field {x : AV} {i : Nat} : (fieldB C T x i).ros = [] ∧ (fieldB C T x i).es = [] := by
  unfold fieldB
  repeat' split
  all_goals first | exact ⟨rfl, rfl⟩ | exact rz_part
theorem rz_fieldAddr {x : AV} {i : Nat} : (fieldAddrB C T x i).ros = [] ∧ (fieldAddrB C T x i).es = [] := by
  unfold fieldAddrB
  repeat' split
  all_goals exact ⟨rfl, rfl⟩
theorem rz_len {x : AV} : (lenB C T x).ros = [] ∧ (lenB C T x).es = [] := by
  unfold lenB
  repeat' split
  all_goals exact ⟨rfl, rfl⟩
theorem rz_ext {x : AV} {i : Nat} : (extB x i).ros = [] ∧ (extB x i).es = [] := by
  unfold extB
  split <;> exact ⟨rfl, rfl⟩
theorem rz_nil {x : AV} : (nilB x).ros = [] ∧ (nilB x).es = [] := by
  unfold nilB
  split <;> exact ⟨rfl, rfl⟩
theorem rz_pick {x y w : AV} : (pickB x y w).ros = [] ∧ (pickB x y w).es = [] := ⟨rfl, rfl⟩
theorem rz_slice {x : AV} {lo hi mx : Option AV} : (sliceB C T x lo hi mx).ros = [] ∧ (sliceB C T x lo hi mx).es = [] := by
  unfold sliceB
  repeat' split
  all_goals exact ⟨rfl, rfl⟩

variable {α : Type} [Cell α] [Inhabited α]
theorem idx_true {k : IntKind} {x : Int} {l : List α} {de : TyD} (h : C.ty T = some ⟨.slice e, n, m, z⟩) (he : C.ty e = some de) (hw : de.size = Cell.width α) :
    guardK (some true) ok (idxB C T (.t (sl l)) (.t (.int k x))) live d K σ = ((ok ∧ 0 ≤ x ∧ x < (l.length : Int)) ∧ live ∧ K (σ.put d (.opt true (.imm (Cell.enc (l.getD x.toNat default)))))) := by
  unfold idxB sl
  simp only [h, he, Option.map_some, hw, List.length_map]
  rw [guard_some]
  simp only [true_and]
  refine propext ⟨fun ⟨⟨h1, h2⟩, h4, h3⟩ => ⟨⟨h1, h2⟩, h4, ?_⟩, fun ⟨⟨h1, h2⟩, h4, h3⟩ => ⟨⟨h1, h2⟩, h4, ?_⟩⟩
  · have hi : x.toNat < l.length := by omega
    simpa [List.getD_eq_getElem?_getD, hi] using h3
  · have hi : x.toNat < l.length := by omega
    simpa [List.getD_eq_getElem?_getD, hi] using h3
theorem idxt_rules (α : Type) [Cell α] [Inhabited α] {de : TyD} (h : C.ty T = some ⟨.slice e, n, m, z⟩) (he : C.ty e = some de) (hw : de.size = Cell.width α) :
    ∀ ok k x (l : List α) live d K σ, guardK (some true) ok (idxB C T (.t (sl l)) (.t (.int k x))) live d K σ = ((ok ∧ 0 ≤ x ∧ x < (l.length : Int)) ∧ live ∧ K (σ.put d (.opt true (.imm (Cell.enc (l.getD x.toNat default)))))) :=
  fun _ _ _ _ _ _ _ _ => idx_true h he hw
end
def vr50 := PLift.up (And.intro @one_t <| And.intro @all_map_t <| And.intro @box_agg <| And.intro @box_t <| And.intro @og_append' <| And.intro @guardA_true <| And.intro @guardA_false <| And.intro @guard_false (And.intro @pick_f (And.intro @pick_t (And.intro @rz_bin (And.intro @rz_un (And.intro @rz_idx (And.intro @rz_part (And.intro @rz_index (And.intro @rz_load (And.intro @rz_field (And.intro @rz_fieldAddr (And.intro @rz_len (And.intro @rz_ext (And.intro @rz_nil (And.intro @rz_pick (@rz_slice))))))))))))))))
end Go.Eng

namespace Go.Eng
section
variable {P : Program}

def sameL : List TV → List TV → Bool
  | [], [] => true
  | a :: r, b :: s => a.same b && sameL r s
  | _, _ => false

theorem sameL_cells : ∀ as bs : List TV, sameCells (as.map .t) (bs.map .t) = sameL as bs
  | [], [] => rfl
  | [], _ :: _ => rfl
  | _ :: _, [] => rfl
  | a :: r, b :: s => by simp only [List.map_cons, sameCells, sameL, sameL_cells r s]

theorem sameL_app : ∀ (as as' bs bs' : List TV), as.length = bs.length → sameL (as ++ as') (bs ++ bs') = (sameL as bs && sameL as' bs')
  | [], as', [], bs', _ => by simp [sameL]
  | a :: r, as', b :: s, bs', h => by simp only [List.cons_append, sameL, sameL_app r as' s bs' (by simpa using h), Bool.and_assoc]
  | [], _, _ :: _, _, h => by simp at h
  | _ :: _, _, [], _, h => by simp at h

/-- A type's kinds, by its fields in their order. -/
def fieldsK (P : Program) (k : TypeId → Option (List Nat)) : List Field → Nat → Option (List Nat)
  | [], _ => some []
  | f :: r, o => if f.name ≠ "_" ∧ f.offset = o then match k f.type with
      | some ks => if (tyOf P f.type).map (·.size) = some ks.length then (fieldsK P k r (o + ks.length)).map (ks ++ ·) else none
      | none => none
    else none

def kindsAt (P : Program) : Nat → TypeId → Option (List Nat)
  | 0, _ => none
  | n + 1, t => match P.underlying t with
    | some .bool => some [2]
    | some .string => some [3]
    | some (.int k) => some [ikCode k]
    | some (.array m e) => match kindsAt P n e with
      | some ks => if (tyOf P e).map (·.size) = some ks.length ∧ P.cellsOf e = ks.length ∧ (P.info? e).isSome = true then some ((List.replicate m ks).flatten) else none
      | none => none
    | some (.struct fs) => if P.stoodInHeld t = false then fieldsK P (fun e => kindsAt P n e) fs.toList 0 else none
    | _ => none

def aggT (P : Program) (t : TypeId) : Bool := match P.underlying t with | some (.array _ _) | some (.struct _) => true | _ => false

/-- Two values of a type whose cells are numbers, bools and texts. -/
def EqV (P : Program) (dd : Nat) (t : TypeId) (ks : List Nat) : Prop :=
  ∀ (w : World) (x y : Value) (as bs : List TV), isAgg x = aggT P t → isAgg y = aggT P t → x.cells.toList.map TV.ofValue = as.map some → y.cells.toList.map TV.ofValue = bs.map some → as.map TV.kindB = ks → bs.map TV.kindB = ks →
    (Op.equalIn dd t x y).run P w = .ok (sameL as bs) w

theorem one_cell {v : Value} {x : TV} (h : isAgg v = false) (hc : v.cells.toList.map TV.ofValue = [x].map some) : TV.ofValue v = some x := by
  cases v with
  | agg cs => simp [isAgg] at h
  | tuple cs =>
    exfalso
    have : (Value.tuple cs).cells = #[.tuple cs] := rfl
    rw [this] at hc
    simp [TV.ofValue] at hc
  | _ => simpa [Value.cells] using hc

theorem kind_bool {x : TV} (h : x.kindB = 2) : ∃ b, x = .bool b := by
  cases x with
  | bool b => exact ⟨b, rfl⟩
  | int k n => cases k <;> simp [TV.kindB, ikCode] at h
  | _ => simp [TV.kindB] at h
theorem kind_str {x : TV} (h : x.kindB = 3) : ∃ s, x = .str s := by
  cases x with
  | str s => exact ⟨s, rfl⟩
  | int k n => cases k <;> simp [TV.kindB, ikCode] at h
  | _ => simp [TV.kindB] at h
theorem kind_int {x : TV} {k : IntKind} (h : x.kindB = ikCode k) : ∃ n, x = .int k n := by
  cases x with
  | int k' n =>
    have : k' = k := by cases k <;> cases k' <;> first | rfl | (simp [TV.kindB, ikCode] at h; done)
    exact ⟨n, by rw [this]⟩
  | bool b => cases k <;> simp [TV.kindB, ikCode] at h
  | str b => cases k <;> simp [TV.kindB, ikCode] at h
  | _ => cases k <;> simp [TV.kindB, ikCode] at h

theorem ofV_bool {v : Value} {b : Bool} (h : TV.ofValue v = some (.bool b)) : v = .bool b := by
  unfold TV.ofValue at h; split at h <;> simp_all
theorem ofV_int {v : Value} {k : IntKind} {n : Int} (h : TV.ofValue v = some (.int k n)) : v = .int k n := by
  unfold TV.ofValue at h; split at h <;> simp_all
theorem ofV_str {v : Value} {s : List UInt8} (h : TV.ofValue v = some (.str s)) : ∃ a : ByteArray, v = .string a ∧ a.toList = s := by
  unfold TV.ofValue at h
  split at h <;> simp_all
  rw [ByteArray.toList_eq]; exact h

theorem single {as : List TV} {k : Nat} (h : as.map TV.kindB = [k]) : ∃ x, as = [x] ∧ x.kindB = k := by
  match as, h with
  | [x], h => exact ⟨x, rfl, by simpa using h⟩
  | [], h => simp at h
  | _ :: _ :: _, h => simp at h

/-- A part's cells. -/
theorem part_run {e : TypeId} {d : TyD} (hd : tyOf P e = some d) (w : World) {xs : Array Value} {off : Nat} {as : List TV} (hx : (xs.toList.drop off).map TV.ofValue = as.map some) (hl : d.size ≤ as.length) (h0 : d.agg = false → d.size = 1) :
    ∃ a, (part e xs off).run P w = .ok a w ∧ isAgg a = d.agg ∧ a.cells.toList.map TV.ofValue = (as.take d.size).map some := by
  have hlen : (xs.toList.drop off).length = as.length := by have := congrArg List.length hx; simpa using this
  cases ha : d.agg with
  | true =>
    refine ⟨.agg (xs.extract off (off + d.size)), by simp [part, run_isAgg (C := ⟨tyOf P, fun _ => none, fun _ => none⟩) (tyOf_ok P) hd, ha, run_sizeOf (C := ⟨tyOf P, fun _ => none, fun _ => none⟩) (tyOf_ok P) hd], rfl, ?_⟩
    change (xs.extract off (off + d.size)).toList.map TV.ofValue = _
    rw [List.map_take, ← hx, ← List.map_take]
    congr 1
    simp [Array.toList_extract, List.take_drop]
  | false =>
    have h1 := h0 ha
    have hx1 : off < xs.size := by simp at hlen; omega
    have hne : 0 < as.length := by omega
    obtain ⟨y, r, rfl⟩ : ∃ y r, as = y :: r := by
      cases as with
      | nil => simp at hne
      | cons y r => exact ⟨y, r, rfl⟩
    have hg : TV.ofValue xs[off] = some y := by
      have := congrArg (fun l => l[0]?) hx
      simpa [hx1] using this
    have hna : isAgg xs[off] = false := by
      cases hv : xs[off] <;> rw [hv] at hg <;> first | rfl | (simp [TV.ofValue] at hg; done)
    refine ⟨xs[off], by simp [part, run_isAgg (C := ⟨tyOf P, fun _ => none, fun _ => none⟩) (tyOf_ok P) hd, ha, hx1], hna, ?_⟩
    have hc1 : (xs[off]).cells = #[xs[off]] := by
      cases hv : xs[off] <;> rw [hv] at hg <;> first | rfl | (simp [TV.ofValue] at hg; done)
    rw [hc1, h1]
    simpa using hg

theorem agg_of {e : TypeId} {d : TyD} (hd : tyOf P e = some d) : d.agg = aggT P e := by
  obtain ⟨i, u, z, h1, h2, h3, _⟩ := tyOf_ok P e d hd
  unfold TyD.agg aggT
  rw [h2]
  cases hs : d.sh <;> rw [hs] at h3 <;> cases u <;> first | rfl | (simp [shOk] at h3; done)

theorem size_one {e : TypeId} {d : TyD} (hd : tyOf P e = some d) (ha : d.agg = false) : d.size = 1 := by
  obtain ⟨i, u, z, h1, h2, h3, h4, _, h5, h6, h7, h8, h9⟩ := tyOf_ok P e d hd
  have := cells_one (h9 ha)
  rw [this] at h6
  have hl := congrArg List.length h6
  simp at hl
  omega

theorem step_eq {e : TypeId} {dd : Nat} {ks : List Nat} (IH : EqV P dd e ks) (hs : (tyOf P e).map (·.size) = some ks.length) (w : World) {xs ys : Array Value} {off : Nat} {as bs : List TV}
    (hx : (xs.toList.drop off).map TV.ofValue = as.map some) (hy : (ys.toList.drop off).map TV.ofValue = bs.map some) (ka : (as.take ks.length).map TV.kindB = ks) (kb : (bs.take ks.length).map TV.kindB = ks) :
    ∃ a b, (part e xs off).run P w = .ok a w ∧ (part e ys off).run P w = .ok b w ∧ (Op.equalIn dd e a b).run P w = .ok (sameL (as.take ks.length) (bs.take ks.length)) w := by
  rw [Option.map_eq_some_iff] at hs
  obtain ⟨d, hd, hsz⟩ := hs
  have la : ks.length ≤ as.length := by have := congrArg List.length ka; simp at this; omega
  have lb : ks.length ≤ bs.length := by have := congrArg List.length kb; simp at this; omega
  obtain ⟨a, p1, f1, c1⟩ := part_run hd w hx (by omega) (size_one hd)
  obtain ⟨b, p2, f2, c2⟩ := part_run hd w hy (by omega) (size_one hd)
  rw [hsz] at c1 c2
  rw [agg_of hd] at f1 f2
  exact ⟨a, b, p1, p2, IH w a b _ _ f1 f2 c1 c2 ka kb⟩

theorem split_k {as : List TV} {ks ks' : List Nat} (h : as.map TV.kindB = ks ++ ks') : (as.take ks.length).map TV.kindB = ks ∧ (as.drop ks.length).map TV.kindB = ks' := by
  constructor
  · rw [List.map_take, h, List.take_left]
  · rw [List.map_drop, h, List.drop_left]

theorem fields_eq {dd : Nat} {k : TypeId → Option (List Nat)} (IH : ∀ e ks, k e = some ks → EqV P dd e ks) (w : World) {xs ys : Array Value} :
    ∀ (fs : List Field) (o : Nat) (ks : List Nat) (as bs : List TV), fieldsK P k fs o = some ks → (xs.toList.drop o).map TV.ofValue = as.map some → (ys.toList.drop o).map TV.ofValue = bs.map some → as.map TV.kindB = ks → bs.map TV.kindB = ks →
      (Op.eqFields dd xs ys fs).run P w = .ok (sameL as bs) w
  | [], o, ks, as, bs, hk, _, _, ka, kb => by
    simp only [fieldsK, Option.some.injEq] at hk
    subst hk
    have h1 : as = [] := by simpa using ka
    have h2 : bs = [] := by simpa using kb
    subst h1 h2
    simp [Op.eqFields, sameL]
  | f :: fs, o, ks, as, bs, hk, hx, hy, ka, kb => by
    simp only [fieldsK] at hk
    split at hk
    · next hc =>
      obtain ⟨hn, ho⟩ := hc
      split at hk
      · next ks1 hk1 =>
        split at hk
        · next hsz =>
          rw [Option.map_eq_some_iff] at hk
          obtain ⟨ks2, hk2, rfl⟩ := hk
          obtain ⟨a1, a2⟩ := split_k ka
          obtain ⟨b1, b2⟩ := split_k kb
          subst ho
          obtain ⟨a, b, p1, p2, p3⟩ := step_eq (IH _ _ hk1) hsz w hx hy a1 b1
          have hx2 : (xs.toList.drop (f.offset + ks1.length)).map TV.ofValue = (as.drop ks1.length).map some := by
            rw [← List.drop_drop, List.map_drop, hx, List.map_drop]
          have hy2 : (ys.toList.drop (f.offset + ks1.length)).map TV.ofValue = (bs.drop ks1.length).map some := by
            rw [← List.drop_drop, List.map_drop, hy, List.map_drop]
          have ih := fields_eq IH w fs _ ks2 _ _ hk2 hx2 hy2 a2 b2
          have la : (as.take ks1.length).length = (bs.take ks1.length).length := by
            have h1 := congrArg List.length a1
            have h2 := congrArg List.length b1
            simp only [List.length_map] at h1 h2
            omega
          have hs : sameL as bs = (sameL (as.take ks1.length) (bs.take ks1.length) && sameL (as.drop ks1.length) (bs.drop ks1.length)) := by
            rw [← sameL_app _ _ _ _ la, List.take_append_drop, List.take_append_drop]
          simp only [Op.eqFields, hn, ne_eq, not_false_eq_true, if_true, Sem.run_bind, p1, p2, p3, Result.andThen_ok, hs]
          cases sameL (as.take ks1.length) (bs.take ks1.length)
          · simp
          · simpa using ih
        · cases hk
      · cases hk
    · cases hk

theorem items_eq {dd : Nat} {e : TypeId} {ks : List Nat} (IH : EqV P dd e ks) (hsz : (tyOf P e).map (·.size) = some ks.length) (w : World) {xs ys : Array Value} :
    ∀ (n i : Nat) (as bs : List TV), (xs.toList.drop (i * ks.length)).map TV.ofValue = as.map some → (ys.toList.drop (i * ks.length)).map TV.ofValue = bs.map some → as.map TV.kindB = (List.replicate n ks).flatten → bs.map TV.kindB = (List.replicate n ks).flatten →
      (Op.eqItems dd e ks.length xs ys (List.range' i n)).run P w = .ok (sameL as bs) w
  | 0, i, as, bs, _, _, ka, kb => by
    have h1 : as = [] := by simpa using ka
    have h2 : bs = [] := by simpa using kb
    subst h1 h2
    simp [Op.eqItems, sameL]
  | n + 1, i, as, bs, hx, hy, ka, kb => by
    rw [List.replicate_succ, List.flatten_cons] at ka kb
    obtain ⟨a1, a2⟩ := split_k ka
    obtain ⟨b1, b2⟩ := split_k kb
    obtain ⟨a, b, p1, p2, p3⟩ := step_eq IH hsz w hx hy a1 b1
    have e1 : (i + 1) * ks.length = i * ks.length + ks.length := by rw [Nat.add_mul]; omega
    have hx2 : (xs.toList.drop ((i + 1) * ks.length)).map TV.ofValue = (as.drop ks.length).map some := by
      rw [e1, ← List.drop_drop, List.map_drop, hx, List.map_drop]
    have hy2 : (ys.toList.drop ((i + 1) * ks.length)).map TV.ofValue = (bs.drop ks.length).map some := by
      rw [e1, ← List.drop_drop, List.map_drop, hy, List.map_drop]
    have ih := items_eq IH hsz w n (i + 1) _ _ hx2 hy2 a2 b2
    have la : (as.take ks.length).length = (bs.take ks.length).length := by
      have h1 := congrArg List.length a1
      have h2 := congrArg List.length b1
      simp only [List.length_map] at h1 h2
      omega
    have hs : sameL as bs = (sameL (as.take ks.length) (bs.take ks.length) && sameL (as.drop ks.length) (bs.drop ks.length)) := by
      rw [← sameL_app _ _ _ _ la, List.take_append_drop, List.take_append_drop]
    simp only [List.range'_succ, Op.eqItems, Sem.run_bind, p1, p2, p3, Result.andThen_ok, hs]
    cases sameL (as.take ks.length) (bs.take ks.length)
    · simp
    · simpa using ih

theorem eq_deep (d : Nat) : ∀ (n : Nat) (t : TypeId) (ks : List Nat), kindsAt P n t = some ks → EqV P (d + n) t ks
  | 0, _, _, h => by simp [kindsAt] at h
  | n + 1, t, ks, h => by
    intro w x y as bs fx fy hx hy ka kb
    unfold kindsAt at h
    have scal : aggT P t = false → ∀ k, ks = [k] → ∃ u v, as = [u] ∧ bs = [v] ∧ TV.ofValue x = some u ∧ TV.ofValue y = some v ∧ u.kindB = k ∧ v.kindB = k := by
      intro ha k hk
      rw [ha] at fx fy
      subst hk
      obtain ⟨u, rfl, hu⟩ := single ka
      obtain ⟨v, rfl, hv⟩ := single kb
      exact ⟨u, v, rfl, rfl, one_cell fx hx, one_cell fy hy, hu, hv⟩
    split at h
    · next hu =>
      cases h
      obtain ⟨u, v, rfl, rfl, hx, hy, ku, kv⟩ := scal (by simp [aggT, hu]) 2 rfl
      obtain ⟨a, rfl⟩ := kind_bool ku
      obtain ⟨b, rfl⟩ := kind_bool kv
      rw [ofV_bool hx, ofV_bool hy, show d + (n + 1) = (d + n) + 1 from rfl, run_equalIn_bool' w _ t a b hu]
      simp [sameL, TV.same]
    · next hu =>
      cases h
      obtain ⟨u, v, rfl, rfl, hx, hy, ku, kv⟩ := scal (by simp [aggT, hu]) 3 rfl
      obtain ⟨a, rfl⟩ := kind_str ku
      obtain ⟨b, rfl⟩ := kind_str kv
      obtain ⟨a', rfl, ha⟩ := ofV_str hx
      obtain ⟨b', rfl, hb⟩ := ofV_str hy
      rw [show d + (n + 1) = (d + n) + 1 from rfl, run_equalIn_string w _ t a' b' hu, ha, hb]
      simp [sameL, TV.same]
    · next k hu =>
      cases h
      obtain ⟨u, v, rfl, rfl, hx, hy, ku, kv⟩ := scal (by simp [aggT, hu]) _ rfl
      obtain ⟨a, rfl⟩ := kind_int ku
      obtain ⟨b, rfl⟩ := kind_int kv
      rw [ofV_int hx, ofV_int hy]
      rw [show d + (n + 1) = (d + n) + 1 from rfl, run_equalIn_int w _ t k k a b hu]
      simp [sameL, TV.same]
    · next m e hu =>
      split at h
      · next ks1 hk1 =>
        split at h
        · next hc =>
          obtain ⟨h1, h2, h3⟩ := hc
          cases h
          have hagg : aggT P t = true := by simp [aggT, hu]
          rw [hagg] at fx fy
          obtain ⟨xs, rfl⟩ : ∃ xs, x = .agg xs := by cases x <;> simp [isAgg] at fx; exact ⟨_, rfl⟩
          obtain ⟨ys, rfl⟩ : ∃ ys, y = .agg ys := by cases y <;> simp [isAgg] at fy; exact ⟨_, rfl⟩
          obtain ⟨i, hi⟩ := Option.isSome_iff_exists.1 h3
          rw [show d + (n + 1) = (d + n) + 1 from rfl, run_equalIn_array w (d + n) xs ys hu hi, h2, List.range_eq_range']
          exact items_eq (eq_deep d n e ks1 hk1) h1 w m 0 as bs (by simpa [Value.cells] using hx) (by simpa [Value.cells] using hy) ka kb
        · cases h
      · cases h
    · next fs hu =>
      split at h
      · next hc =>
        have hagg : aggT P t = true := by simp [aggT, hu]
        rw [hagg] at fx fy
        obtain ⟨xs, rfl⟩ : ∃ xs, x = .agg xs := by cases x <;> simp [isAgg] at fx; exact ⟨_, rfl⟩
        obtain ⟨ys, rfl⟩ : ∃ ys, y = .agg ys := by cases y <;> simp [isAgg] at fy; exact ⟨_, rfl⟩
        have hfs : P.fieldsOf t = fs := by simp [Program.fieldsOf, hu]
        rw [show d + (n + 1) = (d + n) + 1 from rfl, run_equalIn_struct w (d + n) t xs ys (by rw [hfs]; exact hu) hc, hfs]
        exact fields_eq (fun e ks hk => eq_deep d n e ks hk) w fs.toList 0 ks as bs h (by simpa [Value.cells] using hx) (by simpa [Value.cells] using hy) ka kb
      · cases h
    · cases h

def eqOf (P : Program) (t : TypeId) : Option (List Nat) :=
  if aggT P t = true ∧ P.eqGuardType P.depth t = false then match kindsAt P 8 t with
    | some ks => if ks.all (· != 0) then some ks else none
    | none => none
  else none

theorem eqOf_ok (P : Program) (con : FuncId → Option Con) : EqOk P ⟨tyOf P, eqOf P, con⟩ := by
  intro T ks h
  change eqOf P T = some ks at h
  unfold eqOf at h
  split at h
  · next hc =>
    split at h
    · next ks1 hk =>
      split at h
      · cases h
        refine ⟨hc.2, fun xs ys as bs w ka kb hx hy => ?_⟩
        have := eq_deep (P := P) 9992 8 T ks hk w (.agg xs) (.agg ys) as bs (by rw [hc.1]; rfl) (by rw [hc.1]; rfl) (by simpa [Value.cells] using hx) (by simpa [Value.cells] using hy) ka kb
        rw [sameL_cells]
        exact this
      · cases h
    · cases h
  · cases h

theorem eqOf_nz (P : Program) : ∀ T ks, eqOf P T = some ks → ∀ k ∈ ks, k ≠ 0 := by
  intro T ks h k hk
  unfold eqOf at h
  split at h
  · split at h
    · split at h
      · next hall =>
        cases h
        rw [List.all_eq_true] at hall
        simpa using hall k hk
      · cases h
    · cases h
  · cases h

theorem sys_of' {l : List (Nat × Con)} (h : COkL P l) : Sys P ⟨tyOf P, eqOf P, cl l⟩ :=
  ⟨tyOf_ok P, eqOf_ok P _, eqOf_nz P, fun f k hk => by
    obtain ⟨h1, h2⟩ := conOk_at h f k hk
    exact ⟨h1, by cases k <;> exact h2⟩⟩

end
end Go.Eng
namespace Go.Eng
section
variable {C : Ctx} {T : TypeId}
theorem eq_rules {ks : List Nat} (h : C.eqk T = some ks) :
    (∀ cs ds, binB C T .eql (.agg cs) (.agg ds) = .val (kindsOf cs = ks ∧ kindsOf ds = ks) (.t (.bool (sameCells cs ds)))) ∧ (∀ cs ds, binB C T .neq (.agg cs) (.agg ds) = .val (kindsOf cs = ks ∧ kindsOf ds = ks) (.t (.bool (!sameCells cs ds)))) := by
  have e : ∀ cs, (C.eqk T = some (kindsOf cs)) = (kindsOf cs = ks) := fun cs => by
    rw [h]; exact propext ⟨fun h => by cases h; rfl, fun h => by rw [h]⟩
  exact ⟨fun cs ds => by simp only [binB, e], fun cs ds => by simp only [binB, e]⟩
theorem kinds_nil : kindsOf [] = [] := rfl
theorem kinds_cons {x : TV} {r : List AV} : kindsOf (.t x :: r) = x.kindB :: kindsOf r := rfl
theorem kind_i64 {n : Int} : (TV.int .i64 n).kindB = 13 := rfl
theorem kind_u8 {n : Int} : (TV.int .u8 n).kindB = 14 := rfl
theorem kind_u32 {n : Int} : (TV.int .u32 n).kindB = 16 := rfl
theorem kind_b {n : Bool} : (TV.bool n).kindB = 2 := rfl
theorem kind_s {n : List UInt8} : (TV.str n).kindB = 3 := rfl
theorem sc_nil : sameCells [] [] = true := rfl
theorem sc_cons {x y : TV} {r s : List AV} : sameCells (.t x :: r) (.t y :: s) = (x.same y && sameCells r s) := rfl
theorem same_int {k k' : IntKind} {a b : Int} : (TV.int k a).same (.int k' b) = decide (a = b) := beq_dec a b
theorem same_bool {a b : Bool} : (TV.bool a).same (.bool b) = decide (a = b) := beq_dec a b
theorem same_str {a b : List UInt8} : (TV.str a).same (.str b) = decide (a = b) := beq_dec a b
end
def vr60 := PLift.up (And.intro @kinds_nil <| And.intro @kinds_cons <| And.intro @kind_i64 <| And.intro @kind_u8 <| And.intro @kind_u32 <| And.intro @kind_b <| And.intro @kind_s <| And.intro @sc_nil <| And.intro @sc_cons <| And.intro @same_int <| And.intro @same_bool (@same_str))
end Go.Eng

namespace Go.Eng
section
variable {C : Ctx} {T e t : TypeId} {n m m' : Nat} {z : List TV} {d de : TyD}

theorem alloc_rules (h : C.ty T = some d) : allocB C T = .new True [] (.box (d.zero.map .t) false) fun g => .ptr g 0 := by simp [allocB, h]

def storeK (o : Option Entry) (size : Nat) (g off : Nat) (v : AV) (K : Store → Prop) (s : Store) : Prop :=
  match o with
  | some (.box cs ro) => ro = false ∧ v.cells.length = size ∧ off + size ≤ cs.length ∧ v.cells.all AV.one = true ∧ K (s.set g (some (.box (splice cs off v.cells) false)))
  | _ => False
theorem storeK_some {cs : List AV} {ro : Bool} {size g off : Nat} {v : AV} {K : Store → Prop} {s : Store} : storeK (some (.box cs ro)) size g off v K s = (ro = false ∧ v.cells.length = size ∧ off + size ≤ cs.length ∧ v.cells.all AV.one = true ∧ K (s.set g (some (.box (splice cs off v.cells) false)))) := rfl
theorem store_rules (h : C.ty T = some d) : ∀ g off v K s, storeT C T (.ptr g off) v K s = storeK (s.f g) d.size g off v K s := fun g off v K s => by
  simp only [storeT, h, storeK]
  cases s.f g with
  | none => rfl
  | some e => cases e <;> rfl

theorem set_set {s : Store} {g : Nat} {a b : Option Entry} : (s.set g a).set g b = s.set g b := Store.ext' fun k => by
  simp only [set_f]; split <;> rfl

theorem fillS_rule {fs : List (TypeId × Nat)} (i : Nat) {o : Nat} (hf : fs[i]? = some (t, o)) (ht : C.ty t = some d) :
    ∀ cells v r, fillS C fs cells ((i, v) :: r) = spl cells o d.size v.cells fun cs => fillS C fs cs r := fun _ _ _ => fillS_cons hf ht

def fillA (size : Nat) (cells : List AV) (ps : List (Nat × AV)) : Option (List AV) := fillB (fun i => some (i * size, size)) cells ps
theorem fillA_nil {size : Nat} {cells : List AV} : fillA size cells [] = some cells := rfl
theorem fillA_cons {size i : Nat} {cells : List AV} {v : AV} {r : List (Nat × AV)} : fillA size cells ((i, v) :: r) = spl cells (i * size) size v.cells fun cs => fillA size cs r := by
  simp only [fillA, fillB, spl]
theorem buildA_rules (h : C.ty T = some ⟨.arr m' e, n, m, z⟩) (he : C.ty e = some de) : ∀ ps, buildB C T ps = bdK (fillA de.size (z.map .t) ps) True := fun ps => by
  simp only [buildB, h, he, bdK, fillA]
  rfl
theorem spl_eq {cells vs : List AV} {off size : Nat} {K : List AV → Option (List AV)} : spl cells off size vs K = if vs.length = size ∧ off + size ≤ cells.length ∧ vs.all AV.one = true then K (splice cells off vs) else none := rfl
theorem splice_eq {cs vs : List AV} {off : Nat} : splice cs off vs = cs.take off ++ vs ++ cs.drop (off + vs.length) := rfl
theorem all_nil' {p : AV → Bool} : ([] : List AV).all p = true := rfl
theorem all_cons' {p : AV → Bool} {a : AV} {r : List AV} : (a :: r).all p = (p a && r.all p) := rfl
theorem one_tok {g n o l : Nat} : AV.one (.tok g n o l) = true := rfl
theorem one_ptr {g o : Nat} : AV.one (.ptr g o) = true := rfl
theorem pick_oor {c a w b : Bool} : pickB (.opt c (.t (.bool a))) (.t (.bool true)) (.opt w (.t (.bool b))) = .val (c = true ∧ (a = false → w = true)) (.t (.bool (a || b))) := by
  cases a <;> simp [pickB, AV.asB]
theorem pick_ooa {c a w b : Bool} : pickB (.opt c (.t (.bool a))) (.opt w (.t (.bool b))) (.t (.bool false)) = .val (c = true ∧ (a = true → w = true)) (.t (.bool (a && b))) := by
  cases a <;> simp [pickB, AV.asB]
theorem Store.ne_new {s : Store} {g k : Nat} {e : Entry} (h : (s.set g (some e)).f k = none) : k ≠ g := fun hk => by
  rw [hk, Store.set_same] at h; cases h
theorem Store.old_none {s : Store} {g k : Nat} {e : Entry} (h : (s.set g (some e)).f k = none) : s.f k = none := by
  rwa [Store.set_other _ _ (Store.ne_new h)] at h
end
def vr70 := PLift.up (And.intro @pick_oor <| And.intro @pick_ooa <| And.intro @storeK_some <| And.intro @set_set <| And.intro @fillA_nil <| And.intro @fillA_cons <| And.intro @spl_eq <| And.intro @splice_eq <| And.intro @all_nil' <| And.intro @all_cons' <| And.intro @one_tok <| And.intro @one_ptr <| And.intro @Store.set_same (@fillS_nil))
end Go.Eng

namespace Go.Eng
section
variable {α β : Type} [Cell α] [Cell β]
theorem argA_dec {cs : List AV} : (argA α).dec (.agg cs) = (tvs? cs).bind Cell.dec := rfl
theorem tvs_nil : tvs? [] = some [] := rfl
theorem tvs_cons {x : TV} {r : List AV} : tvs? (.t x :: r) = (tvs? r).map (x :: ·) := rfl
theorem dec_prod {cs : List TV} : (Cell.dec cs : Option (α × β)) = (Cell.dec (cs.take (Cell.width α))).bind fun a : α => (Cell.dec (cs.drop (Cell.width α))).map fun b : β => (a, b) := rfl
theorem dec_nilS : Cell.dec [.nilS] = some ([] : List α) := rfl
theorem dec_emp : Cell.dec [.emp] = some ([] : List α) := rfl
theorem dec_byt {n : UInt8} : Cell.dec [.int .u8 (n.toNat : Int)] = some (⟨n⟩ : Byt) := Cell.dec_enc (⟨n⟩ : Byt)
theorem w_prod : @Cell.width (α × β) cProd = Cell.width α + Cell.width β := rfl
end
def vr80 := PLift.up (And.intro @argA_dec <| And.intro @tvs_nil <| And.intro @tvs_cons <| And.intro @dec_prod <| And.intro @dec_nilS <| And.intro @dec_emp <| And.intro @dec_byt <| And.intro @w_byt (@w_prod))
end Go.Eng

namespace Go.Eng
section
variable {C : Ctx} {P : Program} {s : Store} {d : Option Nat} {K : St → Prop} {σ : St}

def genK (o : Option (List AV × List Nat)) (F : List AV → Store → (AV → Store → Prop) → Prop) (K : AV → Store → Prop) (s : Store) : Prop :=
  match o with
  | some (as, ros) => F as (s.marks ros) K
  | none => False
theorem genT_eq {modes : List Bool} {F : List AV → Store → (AV → Store → Prop) → Prop} {args : List AV} {K : AV → Store → Prop} : genT s modes F args K = genK (s.pass modes args) F K s := by
  unfold genT genK
  cases s.pass modes args <;> rfl
theorem genK_some {as : List AV} {ros : List Nat} {F : List AV → Store → (AV → Store → Prop) → Prop} {K : AV → Store → Prop} : genK (some (as, ros)) F K s = F as (s.marks ros) K := rfl
theorem pass_nil : s.pass [] [] = some ([], []) := rfl
theorem pass_true {ms : List Bool} {v : AV} {r : List AV} : s.pass (true :: ms) (v :: r) = consB (some (v, [])) (s.pass ms r) := by
  simp only [Store.pass, if_true, consB]
  cases s.pass ms r <;> rfl
theorem pass_false {ms : List Bool} {v : AV} {r : List AV} : s.pass (false :: ms) (v :: r) = consB (s.borrow v) (s.pass ms r) := by
  simp only [Store.pass, consB, Bool.false_eq_true, if_false]
  cases s.borrow v <;> cases s.pass ms r <;> rfl

/-- A call under a contract that writes. -/
theorem call_gen {f : FuncId} {modes : List Bool} {F : List AV → Store → (AV → Store → Prop) → Prop} (h : C.con f = some (.gen modes F)) :
    (∀ d args ts K σ, aOp C ⟨d, none, .call ⟨.value (.func f), args, ts⟩⟩ K σ = genK (σ.st.pass modes (args.toList.map σ.ev)) F (fun r s => K (({ σ with st := s } : St).put d r)) σ.st) ∧
    (∀ d j want args ts K σ, aOp C ⟨d, some (j, want), .call ⟨.value (.func f), args, ts⟩⟩ K σ = guardA ((σ.get j).wanted want) (okAll σ.ev (.func f :: args.toList) ∧
      genK (σ.st.pass modes (args.toList.map fun x => (σ.ev x).strip)) F (fun r s => K (({ σ with st := s } : St).put d r)) σ.st) (K (σ.put d (.opt false .unk)))) := by
  have hb : ∀ args ts, barOf C (.call ⟨.value (.func f), args, ts⟩) = some (.gen f args.toList) := fun args ts => by
    simp only [barOf, h]
  refine ⟨fun d args ts K σ => ?_, fun d j want args ts K σ => ?_⟩
  · unfold aOp
    simp only [hb, barT, h, genT_eq]
  · unfold aOp
    simp only [hb, barT, h, genT_eq, guardA]
    cases (σ.get j).wanted want <;> simp [Op.operands, Call.operands]

theorem fn_gok (S : Sys P C) (hmix : P.follows .mixedOrders = true) {f : FuncId} {fn : Func} {G : GCode} (hf : P.funcs[f]? = some fn) (hn : (fn.name == "runtime.NumGoroutine") = false) (hG : gof C fn = some G.strip)
    {modes : List Bool} {T : List AV → Store → (AV → Store → Prop) → Prop} {m : Nat} {rs : List ResultVar} (hm : fn.ntmps = m) (hrs : fn.results.toList = rs)
    (h1 : ∀ as s Q Q', (∀ r t, Q r t → Q' r t) → T as s Q → T as s Q') (h2 : ∀ as s Q, T as s Q → ∃ r t, Q r t)
    (hc : ∀ as s Q, T as s Q → as.length ≤ m ∧ avp C G (Ret C rs fun r s' => ∃ s'', Sub s'' s' ∧ Q r s'') (entry as s)) : COk P f (.gen modes T) := by
  obtain ⟨b, hb, hG⟩ := gof_some hG
  subst hm hrs
  exact ⟨⟨fn, hf, hn, by rw [hb]; rfl⟩, gen_of S (conMono_of S.con) hmix hf hb hG h1 h2 hc⟩

theorem fn_pok (S : Sys P C) (hmix : P.follows .mixedOrders = true) {f : FuncId} {fn : Func} {G : GCode} (hf : P.funcs[f]? = some fn) (hn : (fn.name == "runtime.NumGoroutine") = false) (hG : gof C fn = some G.strip)
    {c : List AV → Prop} {es : List AV → List Entry} {mk : List AV → List Nat → AV} {m : Nat} {rs : List ResultVar} (hm : fn.ntmps = m) (hrs : fn.results.toList = rs)
    (hc : ∀ as, c as → as.length ≤ m ∧ avp C G (Ret C rs fun r s' => ∃ gs, Fresh .empty gs (es as) ∧ r = mk as gs ∧ Sub (Store.empty.adds gs (es as)) s') (entry as .empty)) : COk P f (.pure c es mk) := by
  obtain ⟨b, hb, hG⟩ := gof_some hG
  subst hm hrs
  exact ⟨⟨fn, hf, hn, by rw [hb]; rfl⟩, pure_of S (conMono_of S.con) hmix hf hb hG hc⟩

/-- A contract: one box is made. -/
def newCon (c : List AV → Prop) (e : List AV → Entry) (mk : Nat → AV) : Con := .pure c (fun as => [e as]) fun _ gs => mk (gs.headD 0)
theorem call_new {f : FuncId} {c : List AV → Prop} {e : List AV → Entry} {mk : Nat → AV} (h : C.con f = some (newCon c e mk)) :
    (∀ d args ts K σ, aOp C ⟨d, none, .call ⟨.value (.func f), args, ts⟩⟩ K σ = gT (callK C f (σ.st.borrows (args.toList.map σ.ev))) d K σ) ∧
    (∀ as ros, callV C f as ros = .new (c as) ros (e as) mk) :=
  ⟨fun _ _ _ _ _ => op_call (by rw [h]; rfl), fun as ros => by unfold callV newCon at *; rw [h]; rfl⟩
theorem fn_nok (S : Sys P C) (hmix : P.follows .mixedOrders = true) {f : FuncId} {fn : Func} {G : GCode} (hf : P.funcs[f]? = some fn) (hn : (fn.name == "runtime.NumGoroutine") = false) (hG : gof C fn = some G.strip)
    {c : List AV → Prop} {e : List AV → Entry} {mk : Nat → AV} {m : Nat} {rs : List ResultVar} (hm : fn.ntmps = m) (hrs : fn.results.toList = rs)
    (hc : ∀ as, c as → as.length ≤ m ∧ avp C G (Ret C rs fun r s' => ∃ g, r = mk g ∧ s'.f g = some (e as)) (entry as .empty)) : COk P f (newCon c e mk) := by
  refine fn_pok S hmix hf hn hG hm hrs fun as h => ⟨(hc as h).1, avp_mono (conMono_of S.con) G _ _ _ (fun x σ hx => ?_) (hc as h).2⟩
  have key : (∀ r ∈ rs, (resB C σ r).c) ∧ (∃ g, packA (rs.map fun r => (resB C σ r).av []) = mk g ∧ σ.st.f g = some (e as)) →
      (∀ r ∈ rs, (resB C σ r).c) ∧ ∃ gs, Fresh .empty gs [e as] ∧ packA (rs.map fun r => (resB C σ r).av []) = mk (gs.headD 0) ∧ Sub (Store.empty.adds gs [e as]) σ.st := by
    rintro ⟨h1, g, h2, h3⟩
    refine ⟨h1, [g], ⟨rfl, trivial⟩, h2, fun k y hk => ?_⟩
    simp only [Store.adds, Store.set] at hk
    by_cases hkg : k = g
    · subst hkg
      rw [if_pos rfl] at hk
      rw [h3, hk]
    · rw [if_neg hkg] at hk
      cases hk
  cases x with
  | normal => exact key hx
  | ret => exact key hx
  | _ => exact hx.elim

theorem eptr_nil {g n i o : Nat} : (AV.eptr g n i o).cells = [.eptr g n i o] := rfl
theorem cells_ptr {g o : Nat} : (AV.ptr g o).cells = [.ptr g o] := rfl
theorem borrow_ptr {g o : Nat} : s.borrow (.ptr g o) = (s.immB g o).map fun p => (.imm p.1, p.2) := rfl
theorem mark_set {g : Nat} {e : Entry} : (s.set g (some e)).mark g = s.set g (some e.mark) := by
  unfold Store.mark
  rw [Store.set_same, Option.map_some]
  exact set_set
theorem marks_cons {g : Nat} {r : List Nat} : s.marks (g :: r) = (s.mark g).marks r := rfl
theorem marks_one {g : Nat} : s.marks [g] = s.mark g := rfl
theorem emark_row {n : Nat} {l : List (List TV)} {ro : Bool} : (Entry.row n l ro).mark = .row n l true := rfl
theorem emark_box {cs : List AV} {ro : Bool} : (Entry.box cs ro).mark = .box cs true := rfl
end
def vr90 := PLift.up (And.intro @genK_some <| And.intro @pass_nil <| And.intro @pass_true <| And.intro @pass_false <| And.intro @cells_ptr <| And.intro @borrow_ptr <| And.intro @mark_set <| And.intro @marks_one <| And.intro @emark_row (@emark_box))
end Go.Eng

namespace Go.Eng
section
variable {C : Ctx} {T : TypeId} {d : TyD} {s : Store}

def storeR (o : Option Entry) (size : Nat) (g n i off : Nat) (p : Option (List TV × List Nat)) (K : Store → Prop) (s : Store) : Prop :=
  match o with
  | some (.row m l ro) => match p with
    | some (xs, ros) => ro = false ∧ m = n ∧ xs.length = size ∧ i < l.length ∧ off + size ≤ n ∧ g ∉ ros ∧ K ((s.marks ros).set g (some (.row m (putRow l i off xs) false)))
    | none => False
  | _ => False
theorem storeR_some {m : Nat} {l : List (List TV)} {ro : Bool} {size g n i off : Nat} {xs : List TV} {ros : List Nat} {K : Store → Prop} :
    storeR (some (.row m l ro)) size g n i off (some (xs, ros)) K s = (ro = false ∧ m = n ∧ xs.length = size ∧ i < l.length ∧ off + size ≤ n ∧ g ∉ ros ∧ K ((s.marks ros).set g (some (.row m (putRow l i off xs) false)))) := rfl
theorem storeR_rules (h : C.ty T = some d) : ∀ g n i off v K s, storeT C T (.eptr g n i off) v K s = storeR (s.f g) d.size g n i off (s.borrowAll v.cells) K s := fun g n i off v K s => by
  simp only [storeT, h, storeR]
  cases s.f g with
  | none => rfl
  | some e =>
    cases e with
    | row m l ro => cases s.borrowAll v.cells <;> rfl
    | box cs ro => rfl

theorem put_enc {α : Type} [Cell α] {l : List α} {i : Nat} {x : α} : putRow (l.map Cell.enc) i 0 (Cell.enc x) = (l.set i x).map Cell.enc := by
  unfold putRow
  by_cases hi : i < l.length
  · have e : (l.map Cell.enc).getD i [] = Cell.enc l[i] := by simp [List.getD_eq_getElem?_getD, hi]
    rw [e, List.take_zero, List.nil_append, Nat.zero_add, List.drop_of_length_le (by rw [Cell.len, Cell.len]; exact Nat.le_refl _), List.append_nil, List.map_set]
  · rw [List.set_eq_of_length_le (by simp; omega), List.set_eq_of_length_le (by omega)]
theorem put_byt {l : List Byt} {i : Nat} {x : UInt8} : putRow (l.map Cell.enc) i 0 [.int .u8 (x.toNat : Int)] = (l.set i ⟨x⟩).map Cell.enc := put_enc (x := (⟨x⟩ : Byt))
theorem put_int {l : List Int} {i : Nat} {x : Int} : putRow (l.map Cell.enc) i 0 [.int .i64 x] = (l.set i x).map Cell.enc := put_enc (x := x)
theorem put_str {l : List (List UInt8)} {i : Nat} {x : List UInt8} : putRow (l.map Cell.enc) i 0 [.str x] = (l.set i x).map Cell.enc := put_enc (x := x)

theorem ofInt_u8 (a : UInt8) : BitVec.ofInt 8 (a.toNat : Int) = a.toBitVec := by
  apply BitVec.eq_of_toNat_eq
  rw [BitVec.ofInt_natCast, BitVec.toNat_ofNat]
  have := a.toNat_lt
  exact Nat.mod_eq_of_lt (by omega)
theorem u8_toNat (a : UInt8) : IntKind.u8.wrap (a.toNat : Int) = (a.toNat : Int) := by
  have := a.toNat_lt
  simp [IntKind.wrap, IntKind.signed, IntKind.bits]
  omega
theorem xor_u8 (a b : UInt8) : IntKind.u8.wrap ((BitVec.ofInt IntKind.u8.bits (a.toNat : Int) ^^^ BitVec.ofInt IntKind.u8.bits (b.toNat : Int)).toNat : Int) = ((a ^^^ b).toNat : Int) := by
  change IntKind.u8.wrap ((BitVec.ofInt 8 (a.toNat : Int) ^^^ BitVec.ofInt 8 (b.toNat : Int)).toNat : Int) = _
  rw [ofInt_u8, ofInt_u8, ← UInt8.toBitVec_xor]
  exact u8_toNat _
theorem rows_len {α : Type} [Cell α] {l : List α} : (l.map Cell.enc).length = l.length := List.length_map _
/-- A row's part as it is loaded. -/
theorem row_at {α : Type} [Cell α] [Inhabited α] {l : List α} {i : Nat} (h : i < l.length) : (l.map Cell.enc).getD i [] = Cell.enc (l.getD i default) := by
  simp [List.getD_eq_getElem?_getD, h]
end
def vr100 := PLift.up (And.intro @storeR_some <| And.intro @put_byt <| And.intro @put_int <| And.intro @put_str <| And.intro @xor_u8 (@rows_len))
end Go.Eng

namespace Go.Eng
section
variable {α : Type} [Cell α] {s : Store}

/-- A pointer to what is only read. -/
def argP (α : Type) [Cell α] : Arg α where
  enc x := .imm (Cell.enc x)
  dec a := match a with | .imm cs => Cell.dec cs | _ => none
  sound a x h β w O v hr := by
    split at h
    · next cs =>
      obtain ⟨h1, h2⟩ := Cell.sound cs x h
      have hl := Cell.len x
      cases hr with
      | imm _ b off c hc ho hr =>
        refine .imm _ b off c (fun j hj => hc j (by omega)) (fun j hj => ho j (by omega)) fun j hj => ?_
        exact h2 w O c (fun i hi => hr i (by omega)) j (by omega)
    · cases h

theorem argP_dec {cs : List TV} : (argP α).dec (.imm cs) = Cell.dec cs := rfl
theorem borrow_imm {c : List TV} : s.borrow (.imm c) = some (.imm c, []) := rfl
end
def vr110 := PLift.up (And.intro @argP_dec (@borrow_imm))
end Go.Eng

namespace Go.Eng
section
variable {C : Ctx} {P : Program} {s : Store} {d : Option Nat} {K : St → Prop} {σ : St}

/-- A function's contract: what it asks, what it makes, what it answers. -/
def selE {α : Type} (o : Option α) (es : α → List Entry) : List Entry := match o with | some x => es x | none => []
def selM {α : Type} (o : Option α) (mk : α → List Nat → AV) (gs : List Nat) : AV := match o with | some x => mk x gs | none => .unk
theorem selE_some {α : Type} {x : α} {es : α → List Entry} : selE (some x) es = es x := rfl
theorem selM_some {α : Type} {x : α} {mk : α → List Nat → AV} {gs : List Nat} : selM (some x) mk gs = mk x gs := rfl
def ownCon {α : Type} (A : Arms α) (p : α → Prop) (es : α → List Entry) (mk : α → List Nat → AV) : Con :=
  .pure (fun as => ∃ x, A.dec as = some x ∧ p x) (fun as => selE (A.dec as) es) fun as gs => selM (A.dec as) mk gs

def ownK {α : Type} (o : Option α) (p : α → Prop) (es : α → List Entry) (mk : α → List Nat → AV) (ros : List Nat) : B :=
  match o with
  | some x => ⟨p x, ros, es x, mk x⟩
  | none => ⟨False, ros, [], fun _ => .unk⟩
theorem ownK_some {α : Type} {x : α} {p : α → Prop} {es : α → List Entry} {mk : α → List Nat → AV} {ros : List Nat} : ownK (some x) p es mk ros = ⟨p x, ros, es x, mk x⟩ := rfl

theorem callV_own {f : FuncId} {as : List AV} {ros : List Nat} {α : Type} {A : Arms α} {p : α → Prop} {es : α → List Entry} {mk : α → List Nat → AV} (h : C.con f = some (ownCon A p es mk)) : callV C f as ros = ownK (A.dec as) p es mk ros := by
  unfold callV ownCon at *
  rw [h]
  dsimp only
  cases A.dec as with
  | none => simp [ownK, selE, selM]
  | some x => simp [ownK, selE, selM]

theorem call_own {f : FuncId} {α : Type} {A : Arms α} {p : α → Prop} {es : α → List Entry} {mk : α → List Nat → AV} (h : C.con f = some (ownCon A p es mk)) :
    (∀ d args ts K σ, aOp C ⟨d, none, .call ⟨.value (.func f), args, ts⟩⟩ K σ = gT (callK C f (σ.st.borrows (args.toList.map σ.ev))) d K σ) ∧
    (∀ as ros, callV C f as ros = ownK (A.dec as) p es mk ros) :=
  ⟨fun _ _ _ _ _ => op_call (by rw [h]; rfl), fun _ _ => callV_own h⟩

theorem gT_es1 {c : Prop} {ros : List Nat} {e : Entry} {mk : List Nat → AV} : gT ⟨c, ros, [e], mk⟩ d K σ = (c ∧ ∀ g, (σ.st.marks ros).f g = none → K (({ σ with st := (σ.st.marks ros).set g (some e) } : St).put d (mk [g]))) := by
  refine propext ⟨fun ⟨h1, h2⟩ => ⟨h1, fun g hg => h2 [g] ⟨hg, trivial⟩⟩, fun ⟨h1, h2⟩ => ⟨h1, fun gs hg => ?_⟩⟩
  match gs, hg with
  | [g], hg => exact h2 g hg.1
  | [], hg => exact hg.elim
  | _ :: _ :: _, hg => exact hg.2.elim

theorem gT_es2 {c : Prop} {ros : List Nat} {e e' : Entry} {mk : List Nat → AV} : gT ⟨c, ros, [e, e'], mk⟩ d K σ =
    (c ∧ ∀ g, (σ.st.marks ros).f g = none → ∀ g', ((σ.st.marks ros).set g (some e)).f g' = none → K (({ σ with st := ((σ.st.marks ros).set g (some e)).set g' (some e') } : St).put d (mk [g, g']))) := by
  refine propext ⟨fun ⟨h1, h2⟩ => ⟨h1, fun g hg g' hg' => h2 [g, g'] ⟨hg, hg', trivial⟩⟩, fun ⟨h1, h2⟩ => ⟨h1, fun gs hg => ?_⟩⟩
  match gs, hg with
  | [g, g'], hg => exact h2 g hg.1 g' hg.2.1
  | [], hg => exact hg.elim
  | [_], hg => exact hg.2.elim
  | _ :: _ :: _ :: _, hg => exact hg.2.2.elim

theorem fn_ook (S : Sys P C) (hmix : P.follows .mixedOrders = true) {f : FuncId} {fn : Func} {G : GCode} (hf : P.funcs[f]? = some fn) (hn : (fn.name == "runtime.NumGoroutine") = false) (hG : gof C fn = some G.strip)
    {α : Type} {A : Arms α} {p : α → Prop} {es : α → List Entry} {mk : α → List Nat → AV} {m : Nat} {rs : List ResultVar} (hm : fn.ntmps = m) (hrs : fn.results.toList = rs)
    (hc : ∀ x, p x → (A.enc x).length ≤ m ∧ avp C G (Ret C rs fun r s' => ∃ gs, Fresh .empty gs (es x) ∧ r = mk x gs ∧ Sub (Store.empty.adds gs (es x)) s') (entry (A.enc x) .empty)) : COk P f (ownCon A p es mk) := by
  obtain ⟨b, hb, hG⟩ := gof_some hG
  subst hm hrs
  refine ⟨⟨fn, hf, hn, by rw [hb]; rfl⟩, ?_⟩
  rintro as vs β w O h1 h2 h3 ha ⟨x, hx, hp⟩
  obtain ⟨hl, hv⟩ := hc x hp
  obtain ⟨la, sa⟩ := A.sound as x hx
  have hs := empty_ok h1 h2 h3
  have ha' : Args β w (Or2 O (OwnOf β .empty)) (A.enc x) vs := by
    refine ⟨la ▸ ha.1, fun i hi => ?_⟩
    exact (sa β w O (fun i => vs.getD i undef) ha.2 i (by omega)).mono fun a h => h.elim id fun h => (own_empty a h).elim
  refine (fn_calls S (conMono_of S.con) hmix hf hb hG (Q := fun r s' => ∃ gs, Fresh .empty gs (es x) ∧ r = mk x gs ∧ s' = Store.empty.adds gs (es x)) hl hs ha' ?_).mono ?_
  · have hq : (fun (r : AV) (s' : Store) => ∃ gs, Fresh .empty gs (es x) ∧ r = mk x gs ∧ Sub (Store.empty.adds gs (es x)) s') =
        fun r s' => ∃ s'', Sub s'' s' ∧ ∃ gs, Fresh .empty gs (es x) ∧ r = mk x gs ∧ s'' = Store.empty.adds gs (es x) := by
      funext r s'
      refine propext ⟨fun ⟨gs, q1, q2, q3⟩ => ⟨_, q3, gs, q1, q2, rfl⟩, fun ⟨s'', q3, gs, q1, q2, q4⟩ => ⟨gs, q1, q2, q4 ▸ q3⟩⟩
    rw [hq] at hv
    exact hv
  · rintro e w' ⟨β', r, s', v, rfl, ⟨gs, q1, rfl, rfl⟩, q4, q5, q6, q7⟩
    simp only [hx, selE_some, selM_some]
    refine ⟨β', gs, v, rfl, q1, fun g hg => (q7 g (adds_some gs _ q1 g hg)).resolve_left (fun h => h rfl), q4, ?_, ?_⟩
    · have : OwnOf β .empty = Nothing := by funext a; exact propext ⟨fun h => own_empty a h, False.elim⟩
      rw [this] at q6
      exact q6
    · exact q5

end
section
variable {C : Ctx} {P : Program} {α : Type} [Cell α]

def clA (α : Type) [Cell α] : Arms (List α × Unit) := Arms.cons (argT (List α)) Arms.nil
def clP (x : List α × Unit) : Prop := x.1.length ≤ 1099511627776
def clE (x : List α × Unit) : List Entry := [.row (Cell.width α) (x.1.map Cell.enc) false]
def clM (x : List α × Unit) (gs : List Nat) : AV := .tok (gs.headD 0) (Cell.width α) 0 x.1.length

/-- Copies of slices: whatever is handed in, a row is made that shows the same. -/
theorem clone_ok (S : Sys P C) (hmix : P.follows .mixedOrders = true) {f : FuncId} {fn : Func} {G : GCode} (hf : P.funcs[f]? = some fn) (hn : (fn.name == "runtime.NumGoroutine") = false) (hG : gof C fn = some G.strip)
    {m : Nat} {rs : List ResultVar} (hm : fn.ntmps = m) (hrs : fn.results.toList = rs) (h1m : 1 ≤ m)
    (hnil : avp C G (Ret C rs fun r _ => r = .t .nilS) (entry [.t (.emq true)] .empty))
    (hrow : ∀ (x : TV) (l : List α), (x = .emq false ∧ l = []) ∨ (∃ y r, x = sl l ∧ l = y :: r) → l.length ≤ 1099511627776 →
      avp C G (Ret C rs fun r s' => ∃ g, r = .tok g (Cell.width α) 0 l.length ∧ s'.f g = some (.row (Cell.width α) (l.map Cell.enc) false)) (entry [.t x] .empty)) : COk P f (ownCon (clA α) clP clE clM) := by
  obtain ⟨b, hb, hG⟩ := gof_some hG
  subst hm hrs
  refine ⟨⟨fn, hf, hn, by rw [hb]; rfl⟩, ?_⟩
  rintro as vs β w O h1 h2 h3 ha ⟨x, hx, hp⟩
  obtain ⟨l, ⟨⟩⟩ := x
  obtain ⟨la, sa⟩ := (clA α).sound as _ hx
  have hs := empty_ok h1 h2 h3
  simp only [hx, selE_some, selM_some]
  change Calls P f vs w fun e w' => ∃ β' gs v, e = .returned v ∧ Fresh .empty gs [.row (Cell.width α) (l.map Cell.enc) false] ∧ (∀ g ∈ gs, β g = none) ∧ StOk O β' (Store.empty.adds gs [.row (Cell.width α) (l.map Cell.enc) false]) w' ∧
      Frame Nothing β w (OwnOf β' (Store.empty.adds gs [.row (Cell.width α) (l.map Cell.enc) false])) β' w' ∧ Rep β' w' (Or2 O (OwnOf β' (Store.empty.adds gs [.row (Cell.width α) (l.map Cell.enc) false]))) (.tok (gs.headD 0) (Cell.width α) 0 l.length) v
  have hO : Or2 O (OwnOf β .empty) = O := by funext a; exact propext ⟨fun h => h.elim id fun h => (own_empty a h).elim, .inl⟩
  have hO2 : OwnOf β .empty = Nothing := by funext a; exact propext ⟨fun h => own_empty a h, False.elim⟩
  have hlen : as.length = 1 := la
  have hv0 : Rep β w O (.t (sl l)) (vs.getD 0 undef) := sa β w O (fun i => vs.getD i undef) ha.2 0 (by omega)
  have hsz : vs.size = 1 := by rw [← ha.1]; exact hlen
  have mkA : ∀ x : TV, RepT w O x (vs.getD 0 undef) → Args β w (Or2 O (OwnOf β .empty)) [.t x] vs := fun x h => ⟨by simp [hsz], fun i hi => by
    obtain rfl : i = 0 := by simpa using hi
    rw [hO]; exact .t _ _ h⟩
  have hseq := hv0.t_inv
  generalize hvv : vs.getD 0 undef = v at hseq
  have go : ∀ x : TV, RepT w O x v → (x = .emq false ∧ l = []) ∨ (∃ y r, x = sl l ∧ l = y :: r) → Calls P f vs w fun e w' => ∃ β' gs v, e = .returned v ∧ Fresh .empty gs [.row (Cell.width α) (l.map Cell.enc) false] ∧ (∀ g ∈ gs, β g = none) ∧ StOk O β' (Store.empty.adds gs [.row (Cell.width α) (l.map Cell.enc) false]) w' ∧
      Frame Nothing β w (OwnOf β' (Store.empty.adds gs [.row (Cell.width α) (l.map Cell.enc) false])) β' w' ∧ Rep β' w' (Or2 O (OwnOf β' (Store.empty.adds gs [.row (Cell.width α) (l.map Cell.enc) false]))) (.tok (gs.headD 0) (Cell.width α) 0 l.length) v := by
    intro x hxr hxl
    refine (fn_calls S (conMono_of S.con) hmix hf hb hG (Q := fun r s' => ∃ g, r = .tok g (Cell.width α) 0 l.length ∧ s' = Store.empty.set g (some (.row (Cell.width α) (l.map Cell.enc) false))) (by simpa using h1m) hs (mkA x (by rw [hvv]; exact hxr)) ?_).mono ?_
    · refine avp_mono (conMono_of S.con) G _ _ _ (fun e σ he => ?_) (hrow x l hxl hp)
      have key : ∀ r, (∃ g, r = AV.tok g (Cell.width α) 0 l.length ∧ σ.st.f g = some (.row (Cell.width α) (l.map Cell.enc) false)) → ∃ s'', Sub s'' σ.st ∧ ∃ g, r = .tok g (Cell.width α) 0 l.length ∧ s'' = Store.empty.set g (some (.row (Cell.width α) (l.map Cell.enc) false)) := fun r ⟨g, q1, q2⟩ =>
        ⟨_, (fun k e hk => by
          by_cases hkg : k = g
          · subst hkg; rw [Store.set_same] at hk; rw [q2, hk]
          · rw [Store.set_other _ _ hkg] at hk; cases hk), g, q1, rfl⟩
      cases e with
      | normal => exact ⟨he.1, key _ he.2⟩
      | ret => exact ⟨he.1, key _ he.2⟩
      | _ => exact he.elim
    · rintro e w' ⟨β', r, s', v, rfl, ⟨g, rfl, rfl⟩, q4, q5, q6, q7⟩
      rw [hO2] at q6
      refine ⟨β', [g], v, rfl, ⟨rfl, trivial⟩, fun k hk => ?_, q4, q6, q5⟩
      rw [List.mem_singleton] at hk
      subst hk
      exact (q7 k (by rw [Store.set_same]; simp)).resolve_left (fun h => h rfl)
  cases hseq with
  | seq _ _ a len cap b' off c hlen' hcap hA hns hc ho hr =>
    have hll : len = l.length := by simpa using hlen'
    cases a with
    | none =>
      have hl0 : l = [] := by
        rcases hA with hA | hA
        · simpa using hA
        · cases hA
      subst hl0
      obtain rfl : len = 0 := hll
      refine (fn_calls S (conMono_of S.con) hmix hf hb hG (Q := fun r s' => r = .t .nilS ∧ s' = .empty) (by simpa using h1m) hs (mkA (.emq true) (by rw [hvv]; exact .emq _ _ _ rfl)) ?_).mono ?_
      · refine avp_mono (conMono_of S.con) G _ _ _ (fun e σ he => ?_) hnil
        have key : ∀ r, r = AV.t .nilS → ∃ s'', Sub s'' σ.st ∧ r = .t .nilS ∧ s'' = Store.empty := fun r h => ⟨_, fun _ _ h => (by cases h), h, rfl⟩
        cases e with
        | normal => exact ⟨he.1, key _ he.2⟩
        | ret => exact ⟨he.1, key _ he.2⟩
        | _ => exact he.elim
      · rintro e w' ⟨β', r, s', v, rfl, ⟨rfl, rfl⟩, q4, q5, q6, q7⟩
        have hvn : v = .slice none 0 0 := by have := q5.t_inv; cases this; rfl
        subst hvn
        obtain ⟨N, hN⟩ := q4.fin
        have hg : β' N = none := hN N (Nat.le_refl _)
        have hgb : β N = none := by
          cases hx : β N with
          | none => rfl
          | some y => rw [q6.ext _ _ hx] at hg; cases hg
        have hno : ∀ a, OwnOf (upd β' N (some none)) (Store.empty.set N (some (.row (Cell.width α) [] false))) a → False := by
          rintro a ⟨k, b, k1, k2, k3⟩
          by_cases hk : k = N
          · subst hk; rw [upd_same] at k1; cases k1
          · rw [Store.set_other _ _ hk] at k3; exact k3
        refine ⟨upd β' N (some none), [N], _, rfl, ⟨rfl, trivial⟩, fun k hk => ?_, ?_, ?_, .tokN _ _ _ (upd_same ..)⟩
        · rw [List.mem_singleton] at hk; subst hk; exact hgb
        · refine ⟨fun k e hk => ?_, fun k j b hk hj => ?_, fin_upd q4.fin, fun k b hk => ?_, q4.far, fun a ha k hk => ?_⟩
          · change (Store.empty.set N (some (.row (Cell.width α) [] false))).f k = some e at hk
            by_cases hkN : k = N
            · subst hkN
              rw [Store.set_same] at hk
              cases hk
              exact ⟨fun i hi => by simp at hi, .inl ⟨upd_same .., rfl⟩⟩
            · rw [Store.set_other _ _ hkN] at hk; cases hk
          · intro h1 h2
            change (Store.empty.set N (some (.row (Cell.width α) [] false))).f k ≠ none at hk
            by_cases hkN : k = N
            · subst hkN; rw [upd_same] at h1; cases h1
            · rw [Store.set_other _ _ hkN] at hk; exact absurd rfl hk
          · by_cases hkN : k = N
            · subst hkN; rw [upd_same] at hk; cases hk
            · rw [upd_other _ _ hkN] at hk; exact q4.dom k b hk
          · change (Store.empty.set N (some (.row (Cell.width α) [] false))).f k ≠ none at hk
            by_cases hkN : k = N
            · subst hkN; rw [upd_same]; intro h; cases h
            · rw [Store.set_other _ _ hkN] at hk; exact absurd rfl hk
        · refine ⟨q6.os, q6.tape, q6.output, q6.size, fun b hb h => q6.block b hb (fun off h' => by rw [hO2] at h'; exact h off h'), fun b off hb h => q6.cell b off hb (fun h' => by rw [hO2] at h'; exact h h'), q6.shape, fun b off hb h => (hno _ h).elim, fun k x hk => ?_, fun k b hk => ?_⟩
          · rw [upd_other _ _ (fun e => by subst e; rw [hgb] at hk; cases hk)]
            exact q6.ext k x hk
          · by_cases hkN : k = N
            · subst hkN; rw [upd_same] at hk; cases hk
            · rw [upd_other _ _ hkN] at hk
              have := q6.new k b hk
              rw [hO2] at this
              exact this
    | some a =>
      cases hl : l with
      | nil =>
        subst hl
        obtain rfl : len = 0 := hll
        exact go (.emq false) (.emq _ _ _ rfl) (.inl ⟨rfl, rfl⟩)
      | cons y r =>
        rw [← hl]
        exact go (sl l) (.seq _ _ _ len cap b' off c hlen' hcap hA hns hc ho hr) (.inr ⟨y, r, rfl, hl⟩)

/-- What is copied is not nil: rules. -/
theorem eql_seq {T e : TypeId} {n m : Nat} {z : List TV} {y : α} {r : List α} (h : C.ty T = some ⟨.slice e, n, m, z⟩) : binB C T .eql (.t (sl (y :: r))) (.t .nilS) = .val True (.t (.bool false)) := by
  simp [binB, h, sl, AV.isNil, nilSh]
theorem eql_emq {T e : TypeId} {n m : Nat} {z : List TV} {b : Bool} (h : C.ty T = some ⟨.slice e, n, m, z⟩) : binB C T .eql (.t (.emq b)) (.t .nilS) = .val True (.t (.bool b)) := by
  simp [binB, h, AV.isNil, nilSh]
/-- append to a row of the call's own: what becomes of the store. -/
theorem append_tok {s : Store} {T e : TypeId} {n m : Nat} {z : List TV} {g : Nat} {y : AV} {l r : List α} {ro : Bool} {de : TyD} {K : AV → Store → Prop} (h : C.ty T = some ⟨.slice e, n, m, z⟩) (he : C.ty e = some de) (hw : de.size = Cell.width α) (hw0 : 0 < Cell.width α)
    (hx : s.f g = some (.row (Cell.width α) (l.map Cell.enc) ro)) (hy : Shows s y r) (h1 : l.length + r.length ≤ 140737488355328) (h2 : (l.length + r.length) * de.bytes ≤ 140737488355328)
    (hk : ∀ g', s.f g' = none → K (.tok g' (Cell.width α) 0 (l ++ r).length) ((s.set g none).set g' (some (.row (Cell.width α) ((l ++ r).map Cell.enc) ro)))) : appendV C T (.tok g (Cell.width α) 0 l.length) y K s := by
  obtain ⟨y1, y2⟩ := hy
  unfold appendV appendT
  simp only [h, he, y1, hw, hx, List.length_map, true_and]
  refine ⟨hw0, y2, h1, h2, fun g' hg' => ?_⟩
  have := hk g' hg'
  rwa [List.map_append, List.length_append] at this
theorem shows_emq {s : Store} {b : Bool} : Shows s (.t (.emq b)) ([] : List α) := ⟨rfl, .inr rfl⟩
end
section
variable {C : Ctx} {d : Option Nat} {K : St → Prop} {σ : St}
/-- A call of a value. -/
def calK (C : Ctx) (s : Store) (h : AV) (args : List AV) : B :=
  match h with
  | .fn f caps => callK C f (s.borrows (args ++ caps))
  | _ => .no
theorem calK_fn {s : Store} {f : FuncId} {caps args : List AV} : calK C s (.fn f caps) args = callK C f (s.borrows (args ++ caps)) := rfl
theorem op_callT {t : Nat} {args : Array Operand} {ts : Array TypeId} : aOp C ⟨d, none, .call ⟨.value (.tmp t), args, ts⟩⟩ K σ = gT (calK C σ.st (σ.get t) (args.toList.map σ.ev)) d K σ := by
  rw [aOp_go rfl]
  have e : opB C σ.ev σ.st (.call ⟨.value (.tmp t), args, ts⟩) = calK C σ.st (σ.get t) (args.toList.map σ.ev) := by
    simp only [opB, St.ev, calleeB, calK]
    cases σ.get t <;> first | rfl | exact callB_eq
  rw [e]
theorem mf_B {f : FuncId} {caps : List AV} : B.val (caps.all AV.one = true) (.fn f caps) = B.val (caps.all AV.one = true) (.fn f caps) := rfl
theorem op_makeFunc {f : FuncId} {caps : Array Operand} : aOp C ⟨d, none, .makeFunc (.func f) #[] caps⟩ K σ = gT (.val ((caps.toList.map σ.ev).all AV.one = true) (.fn f (caps.toList.map σ.ev))) d K σ := rfl
theorem one_imm {c : List TV} : AV.one (.imm c) = true := rfl
end
def vr120 := PLift.up (And.intro @gT_es1 <| And.intro @gT_es2 <| And.intro @ownK_some <| And.intro @calK_fn <| And.intro @op_callT <| And.intro @op_makeFunc (@one_imm))
end Go.Eng

namespace Go.Eng
section
variable {α : Type} [Cell α] {s : Store}
theorem lv_at {g n : Nat} {l : List α} {ro : Bool} (hn : n = l.length) (h : s.f g = some (.row (Cell.width α) (l.map Cell.enc) ro)) : LV s (.tok g (Cell.width α) 0 n) l := hn ▸ lv_tok h
theorem LV.one {v : AV} {l : List α} (h : LV s v l) : AV.one v = true := by
  rcases h with ⟨_, rfl⟩ | ⟨g, rfl, _⟩ <;> rfl
theorem LV.cells {v : AV} {l : List α} (h : LV s v l) : v.cells = [v] := by
  rcases h with ⟨_, rfl⟩ | ⟨g, rfl, _⟩ <;> rfl
theorem borrow1_tok {g n : Nat} {l : List α} {ro : Bool} (hn : n = l.length) (h : s.f g = some (.row (Cell.width α) (l.map Cell.enc) ro)) : s.borrow1 (.tok g (Cell.width α) 0 n) = some (sl l, [g]) := by
  subst hn
  simp only [Store.borrow1, h, sl]
  simp
  rw [List.take_of_length_le (by simp)]
theorem LV.borrow1 {v : AV} {l : List α} (hl : LV s v l) : ∃ y ros, s.borrow1 v = some (y, ros) ∧ Cell.dec [y] = some l := by
  rcases hl with ⟨rfl, rfl⟩ | ⟨g, rfl, ro, h⟩
  · exact ⟨.nilS, [], rfl, rfl⟩
  · exact ⟨sl l, [g], borrow1_tok rfl h, Cell.dec_enc l⟩
theorem map_v (l : List UInt8) : (l.map Byt.mk).map Byt.v = l := by
  induction l with
  | nil => rfl
  | cons a r ih => simp only [List.map_cons, ih]
theorem w_u8 (x : UInt8) : IntKind.i64.wrap (x.toNat : Int) = (x.toNat : Int) := IntWalk.i64_in _ (by have := x.toNat_lt; omega)
theorem tmod_nat (a b : Nat) : (a : Int).tmod (b : Int) = ((a % b : Nat) : Int) := by rw [Int.tmod_eq_emod_of_nonneg (by omega)]; rfl
theorem tdiv_nat (a b : Nat) : (a : Int).tdiv (b : Int) = ((a / b : Nat) : Int) := by rw [Int.tdiv_eq_ediv_of_nonneg (by omega)]; rfl
theorem w_nat {n : Nat} (h : n ≤ 9223372036854775807) : IntKind.i64.wrap (n : Int) = (n : Int) := IntWalk.i64_in _ (by omega)
theorem w_in {n : Int} (h : -9223372036854775808 ≤ n) (h' : n ≤ 9223372036854775807) : IntKind.i64.wrap n = n := IntWalk.i64_in _ ⟨h, h'⟩
theorem u8_nat {n : Nat} (h : n < 256) : ((UInt8.ofNat n).toNat : Int) = (n : Int) := by
  rw [UInt8.toNat_ofNat']; omega
theorem u8_bound (x : UInt8) : x.toNat < 256 := x.toNat_lt
theorem fresh1 {g : Nat} {e : Entry} : Fresh .empty [g] [e] := ⟨rfl, trivial⟩
theorem fresh2 {g g' : Nat} {e e' : Entry} (h : g' ≠ g) : Fresh .empty [g, g'] [e, e'] := ⟨rfl, by rw [Store.set_other _ _ h]; rfl, trivial⟩
theorem sub0 : Sub .empty s := fun _ _ h => by cases h
theorem sub1 {g : Nat} {e : Entry} (h : s.f g = some e) : Sub (Store.empty.adds [g] [e]) s := fun k x hk => by
  simp only [Store.adds] at hk
  by_cases hkg : k = g
  · subst hkg; rw [Store.set_same] at hk; rw [h, hk]
  · rw [Store.set_other _ _ hkg] at hk; cases hk
theorem sub2 {g g' : Nat} {e e' : Entry} (h : s.f g = some e) (h' : s.f g' = some e') : Sub (Store.empty.adds [g, g'] [e, e']) s := fun k x hk => by
  simp only [Store.adds] at hk
  by_cases hk' : k = g'
  · subst hk'; rw [Store.set_same] at hk; rw [h', hk]
  · rw [Store.set_other _ _ hk'] at hk
    by_cases hkg : k = g
    · subst hkg; rw [Store.set_same] at hk; rw [h, hk]
    · rw [Store.set_other _ _ hkg] at hk; cases hk
theorem ne_of {a b : Nat} {e : Entry} (h : s.f a = some e) (h' : s.f b = none) : a ≠ b := fun hh => by rw [hh, h'] at h; cases h
theorem ne_of' {a b : Nat} {e : Entry} (h : s.f a = some e) (h' : s.f b = none) : b ≠ a := fun hh => by rw [← hh, h'] at h; cases h
theorem row_byt {s : List UInt8} {i : Nat} (h : i < s.length) : (List.map Cell.enc (List.map Byt.mk s)).getD i [] = [.int .u8 ((s.getD i 0).toNat : Int)] := by
  rw [row_at (by simpa using h)]
  simp [enc_byt, List.getD_eq_getElem?_getD, h]
theorem set_byt {s : List UInt8} {i : Nat} {b : UInt8} : (s.map Byt.mk).set i ⟨b⟩ = (s.set i b).map Byt.mk := by
  simp [List.map_set]
/-- A row of like cells. -/
theorem repl_enc {n : Nat} {x : α} {c : List TV} (h : c = Cell.enc x) : List.replicate n c = (List.replicate n x).map Cell.enc := by
  rw [List.map_replicate, h]
theorem row_get [Inhabited α] {l : List α} {i : Nat} (h : i < l.length) : (l.map Cell.enc).getD i [] = Cell.enc (l.getD i default) := row_at h
theorem set_comm {s : Store} {g k : Nat} (h : g ≠ k) (a b : Option Entry) : (s.set g a).set k b = (s.set k b).set g a := Store.ext' fun x => by
  simp only [set_f]
  by_cases h1 : x = k
  · subst h1; simp [Ne.symm h]
  · simp [h1]
end
section
variable {C : Ctx} {T : TypeId} {d : Option Nat} {K : St → Prop} {σ : St} {s : Store}
/-- Slots by what is live, the store as it is. -/
theorem weak_here {Q : Exit → St → Prop} (l : List (Nat × AV)) (hl : WkAll σ σ.st l) (h : ∀ S, S = σ.st → Q .normal (mkS l S)) : avp C .weak Q σ := ⟨_, wk_to fewer_refl hl, h _ rfl⟩
/-- append of what was just made to a list of the call's own: what else there is stays. -/
theorem append_new {α : Type} [Cell α] {S : Store} {v y : AV} {l r : List α} {T e : TypeId} {n m : Nat} {z : List TV} {de : TyD} {g6 : Nat} {x : Entry} {K : AV → Store → Prop} (h : C.ty T = some ⟨.slice e, n, m, z⟩) (he : C.ty e = some de) (hw : de.size = Cell.width α) (hw0 : 0 < Cell.width α)
    (hv : LV S v l) (hg : S.f g6 = none) (hy : Shows (S.set g6 (some x)) y r) (h1 : l.length + r.length ≤ 140737488355328) (h2 : (l.length + r.length) * de.bytes ≤ 140737488355328)
    (hk : ∀ v' S', LV S' v' (l ++ r) → (∀ k e, S.f k = some e → Not v k → S'.f k = some e ∧ Not v' k) → K v' S') : appendV C T v y K (S.set g6 (some x)) := by
  refine append_lv h he hw hw0 (hv.fresh hg) hy h1 h2 fun v' S' hv' q1 q2 => hk v' S' hv' fun k e hk hn => ?_
  have hne : k ≠ g6 := fun hh => by rw [hh, hg] at hk; cases hk
  have hn' : Not v' k := Classical.byContradiction fun hh => by
    have := q1 k hh
    rw [Store.set_other _ _ hne, hk] at this; cases this
  exact ⟨by rw [q2 k hn' hn, Store.set_other _ _ hne]; exact hk, hn'⟩
theorem rowL_at {α : Type} [Cell α] [Inhabited α] {g i w : Nat} {l : List α} {ro : Bool} (hw : w = Cell.width α) (hs : s.f g = some (.row w (l.map Cell.enc) ro)) (hi : i < l.length) (de : TyD) (m : Nat) :
    rowL (s.f g) de w i m = .val ((partB de (((Cell.enc (l.getD i default)).drop m).map .t)).c) ((partB de (((Cell.enc (l.getD i default)).drop m).map .t)).av []) := by
  rw [hs, rowL_some, row_at hi, List.length_map]
  simp only [hi, true_and]
/-- A load off a row of the call's own. -/
theorem ld_row {α : Type} [Cell α] [Inhabited α] {de : TyD} {g i m : Nat} {l : List α} {ro : Bool} (h : C.ty T = some de) (hs : s.f g = some (.row (Cell.width α) (l.map Cell.enc) ro)) (hi : i < l.length) :
    loadB C s T (.eptr g (Cell.width α) i m) = .val ((partB de (((Cell.enc (l.getD i default)).drop m).map .t)).c) ((partB de (((Cell.enc (l.getD i default)).drop m).map .t)).av []) := by
  rw [(ld_rules h).2.2, hs, rowL_some, row_at hi, List.length_map]
  simp only [hi, true_and]
theorem rz_rowL {o : Option Entry} {de : TyD} {n i off : Nat} : (rowL o de n i off).ros = [] ∧ (rowL o de n i off).es = [] := by
  unfold rowL
  split <;> exact ⟨rfl, rfl⟩
theorem rz_boxL {o : Option Entry} {de : TyD} {off : Nat} : (boxL o de off).ros = [] ∧ (boxL o de off).es = [] := by
  unfold boxL
  split
  · exact rz_part
  · exact ⟨rfl, rfl⟩
end
def vr130 := PLift.up (And.intro @rz_rowL (@rz_boxL))
end Go.Eng
namespace Go.Eng
theorem take_next {α : Type} {l r : List α} {d : α} {i : Nat} (hi : i < l.length) (hr : i < r.length) (h : l.take i = r.take i) (he : l.getD i d = r.getD i d) : l.take (i + 1) = r.take (i + 1) := by
  simp [List.getD_eq_getElem?_getD, hi, hr] at he
  rw [List.take_add_one, List.take_add_one, h]
  simp [hi, hr, he]
end Go.Eng
namespace Go.Eng
section
variable {α : Type} [Cell α] {s : Store}
/-- A list, the call's own or only read. -/
def VW (s : Store) (v : AV) (l : List α) : Prop := v = .t (sl l) ∨ LV s v l
theorem VW.shows {v : AV} {l : List α} (h : VW s v l) : Shows s v l := h.elim (fun h => h ▸ shows_sl) shows_lv
theorem VW.one {v : AV} {l : List α} (h : VW s v l) : AV.one v = true := h.elim (fun h => h ▸ rfl) LV.one
theorem VW.cells {v : AV} {l : List α} (h : VW s v l) : v.cells = [v] := h.elim (fun h => h ▸ rfl) LV.cells
theorem VW.frz {v : AV} {l : List α} (h : VW s v l) : Frz1 s v (sl l) := h.elim (fun h => h ▸ .inl rfl) LV.frz
theorem VW.borrow1 {v : AV} {l : List α} (h : VW s v l) : ∃ y ros, s.borrow1 v = some (y, ros) ∧ Cell.dec [y] = some l := h.elim (fun h => ⟨sl l, [], by rw [h]; rfl, Cell.dec_enc l⟩) LV.borrow1
theorem VW.set {v : AV} {l : List α} {g : Nat} {x : Option Entry} (h : VW s v l) (hn : Not v g) : VW (s.set g x) v l := h.imp id fun h => h.set hn
theorem VW.fresh {v : AV} {l : List α} {g : Nat} {x : Option Entry} (h : VW s v l) (hg : s.f g = none) : VW (s.set g x) v l := h.imp id fun h => h.fresh hg
theorem VW.notbox {v : AV} {l : List α} {g : Nat} {cs : List AV} {ro : Bool} (h : VW s v l) (hg : s.f g = some (.box cs ro)) : Not v g := h.elim (fun h => h ▸ not_t) fun h => h.notbox hg
end
end Go.Eng
namespace Go.Eng
theorem idx_at {C : Ctx} {T e : TypeId} {n m : Nat} {z : List TV} {α : Type} [Cell α] [Inhabited α] {l : List α} {i : Nat} {de : TyD} (h : C.ty T = some ⟨.slice e, n, m, z⟩) (he : C.ty e = some de) (hw : de.size = Cell.width α) (hi : i < l.length) (k : IntKind) :
    idxB C T (.t (sl l)) (.t (.int k (i : Int))) = .val True (.imm (Cell.enc (l.getD i default))) := by
  have e1 : (l.map Cell.enc).getD i [] = Cell.enc (l.getD i default) := row_at hi
  have h1 : (0 : Int) ≤ (i : Int) := by omega
  have h2 : (i : Int) < (l.length : Int) := by omega
  simp only [idxB, h, he, sl, Option.map_some, hw, List.length_map, Int.toNat_natCast, e1, h1, h2, and_self]
end Go.Eng
namespace Go.Eng
/-- A copy: append to an empty row just made; what there is stays. -/
theorem append_copy {C : Ctx} {T e : TypeId} {n m : Nat} {z : List TV} {α : Type} [Cell α] {S : Store} {v : AV} {l : List α} {de : TyD} {g5 w : Nat} {K : AV → Store → Prop} (h : C.ty T = some ⟨.slice e, n, m, z⟩) (he : C.ty e = some de) (hw : de.size = Cell.width α) (hw0 : 0 < Cell.width α) (hww : w = Cell.width α)
    (hv : VW S v l) (hg : S.f g5 = none) (h1 : l.length ≤ 140737488355328) (h2 : l.length * de.bytes ≤ 140737488355328)
    (hk : ∀ v' S', LV S' v' l → (∀ k e, S.f k = some e → S'.f k = some e ∧ Not v' k) → K v' S') : appendV C T (.tok g5 w 0 0) v K (S.set g5 (some (.row w [] false))) := by
  subst hww
  refine append_tok (l := ([] : List α)) (g := g5) h he hw hw0 (Store.set_same _ _ _) (hv.fresh hg).shows (by simpa using h1) (by simpa using h2) fun g' hg' => hk _ _ (lv_at (by simp) (ro := false) (by rw [Store.set_same]; rfl)) fun k x hx => ?_
  have n1 : k ≠ g5 := ne_of hx hg
  have n2 := Store.old_none hg'
  have n3 : k ≠ g' := ne_of hx n2
  exact ⟨by rw [Store.set_other _ _ n3, Store.set_other _ _ n1, Store.set_other _ _ n1]; exact hx, not_tok (Ne.symm n3)⟩
end Go.Eng
namespace Go.Eng
/-- The same, with what the copy is. -/
theorem append_copyW {C : Ctx} {T e : TypeId} {n m : Nat} {z : List TV} {α : Type} [Cell α] {S : Store} {v : AV} {l : List α} {de : TyD} {g5 w : Nat} {K : AV → Store → Prop} (h : C.ty T = some ⟨.slice e, n, m, z⟩) (he : C.ty e = some de) (hw : de.size = Cell.width α) (hw0 : 0 < Cell.width α) (hww : w = Cell.width α)
    (hv : VW S v l) (hg : S.f g5 = none) (h1 : l.length ≤ 140737488355328) (h2 : l.length * de.bytes ≤ 140737488355328)
    (hk : ∀ g' S', S'.f g' = some (.row w (l.map Cell.enc) false) → (∀ k e, S.f k = some e → S'.f k = some e ∧ k ≠ g') → K (.tok g' w 0 l.length) S') : appendV C T (.tok g5 w 0 0) v K (S.set g5 (some (.row w [] false))) := by
  subst hww
  refine append_tok (l := ([] : List α)) (g := g5) h he hw hw0 (Store.set_same _ _ _) (hv.fresh hg).shows (by simpa using h1) (by simpa using h2) fun g' hg' => hk _ _ (by rw [Store.set_same]; rfl) fun k x hx => ?_
  have n1 : k ≠ g5 := ne_of hx hg
  have n2 := Store.old_none hg'
  have n3 : k ≠ g' := ne_of hx n2
  exact ⟨by rw [Store.set_other _ _ n3, Store.set_other _ _ n1, Store.set_other _ _ n1]; exact hx, n3⟩
end Go.Eng
namespace Go.Eng
theorem borrow1_w {α : Type} [Cell α] {s : Store} {g n w : Nat} {l : List α} {ro : Bool} (hw : w = Cell.width α) (hn : n = l.length) (h : s.f g = some (.row w (l.map Cell.enc) ro)) : s.borrow1 (.tok g w 0 n) = some (sl l, [g]) := by
  subst hw; exact borrow1_tok hn h
theorem borrow_w {α : Type} [Cell α] {s : Store} {g n w : Nat} {l : List α} {ro : Bool} (hw : w = Cell.width α) (hn : n = l.length) (h : s.f g = some (.row w (l.map Cell.enc) ro)) : s.borrow (.tok g w 0 n) = some (.t (sl l), [g]) := by
  rw [borrow_tok, borrow1_w hw hn h]; rfl
end Go.Eng
namespace Go.Eng
theorem idx_raw {C : Ctx} {T e : TypeId} {n m : Nat} {z : List TV} {α : Type} [Cell α] {l : List α} {de : TyD} (h : C.ty T = some ⟨.slice e, n, m, z⟩) (he : C.ty e = some de) (hw : de.size = Cell.width α) (k : IntKind) (x : Int) :
    idxB C T (.t (sl l)) (.t (.int k x)) = .val (0 ≤ x ∧ x < (l.length : Int)) (.imm ((l.map Cell.enc).getD x.toNat [])) := by
  simp only [idxB, h, he, sl, Option.map_some, hw, List.length_map, true_and]
end Go.Eng

namespace Go.Eng
section
variable {C : Ctx} {σ : St}
def condG (C : Ctx) (v : AV) (x y : GCode) (Q : Exit → St → Prop) (σ : St) : Prop := condA v (avp C x Q σ) (avp C y Q σ)
theorem avp_condG {c : Operand} {x y : GCode} {Q : Exit → St → Prop} : avp C (.cond c x y) Q σ = condG C (σ.ev c) x y Q σ := rfl
theorem condG_bool {b : Bool} {x y : GCode} {Q : Exit → St → Prop} : condG C (.t (.bool b)) x y Q σ = ((b = true → avp C x Q σ) ∧ (b = false → avp C y Q σ)) := rfl
theorem tf_arrow {q : Prop} : (true = false → q) = True := propext ⟨fun _ => trivial, fun _ h => absurd h (by decide)⟩
theorem ft_arrow {q : Prop} : (false = true → q) = True := propext ⟨fun _ => trivial, fun _ h => absurd h (by decide)⟩
theorem og_makeSlice {d : Option Nat} {j : Nat} {want : Bool} {T : TypeId} {x y : Operand} {K : St → Prop} : aOp C ⟨d, some (j, want), .makeSlice T x y⟩ K σ = guardK ((σ.get j).wanted want) (okAll σ.ev [x, y]) (madeB C T (σ.ev x).strip (σ.ev y).strip) True d K σ := op_guard rfl rfl
theorem madeB_sl {T e : TypeId} {n m : Nat} {z : List TV} {de : TyD} {k k' : IntKind} {l c : Int} (h : C.ty T = some ⟨.slice e, n, m, z⟩) (he : C.ty e = some de) :
    madeB C T (.t (.int k l)) (.t (.int k' c)) = .val (0 ≤ l ∧ l ≤ c ∧ c * (de.bytes : Int) ≤ 140737488355328 ∧ c ≤ 140737488355328 ∧ 0 < de.size) (.t (.seq de.size (List.replicate l.toNat de.zero))) := by
  simp only [madeB, h, he]
end
end Go.Eng

namespace Go.Eng
def vQ := PLift.up (And.intro (vR.down) <| And.intro (vr20.down) <| And.intro (vr40.down) <| And.intro (vr50.down) <| And.intro (vr60.down) <| And.intro (vr70.down) <| And.intro (vr80.down) <| And.intro (vr90.down) <| And.intro (vr100.down) <| And.intro (vr110.down) <| And.intro (vr120.down) <| And.intro (vr130.down) <| vr30.down)
def vZ := PLift.up (And.intro (@List.drop_succ_cons.{0}) <| And.intro (@List.drop_zero.{0}) <| And.intro (@List.take_succ_cons.{0}) <| And.intro (@List.take_zero.{0}) <| And.intro (@Nat.zero_add) <| And.intro (@List.map_cons.{0,0}) <| And.intro (@List.map_nil.{0,0}) <| And.intro (@Option.map_some.{0,0}) <| And.intro (@Option.map_none.{0,0}) <| And.intro (@Option.bind_some.{0,0}) <| And.intro (@List.append_nil.{0}) <| And.intro (@List.nil_append.{0}) <| And.intro (@List.length_cons.{0}) <| And.intro (@List.length_nil.{0}) <| And.intro (@List.getD_cons_zero.{0}) <| And.intro (@List.headD_cons.{0}) <| And.intro (@List.getD_cons_succ.{0}) <| And.intro (@Bool.false_eq_true) <| And.intro (@Nat.zero_lt_succ) <| And.intro (@Option.toList_some.{0}) <| And.intro (@Option.toList_none.{0}) <| And.intro (@List.cons_append.{0}) <| And.intro (@getD_byt) <| And.intro (@Int.toNat_natCast) <| And.intro (@Bool.not_eq_true') <| And.intro (@Bool.not_eq_false') <| And.intro (@Bool.and_eq_true) <| And.intro (@Bool.or_eq_true) <| And.intro (@Bool.or_eq_false_iff) <| And.intro (@Bool.and_eq_false_imp) <| And.intro (@List.length_map.{0,0}) <| And.intro (@beq_true) <| And.intro (@beq_false) <| And.intro (@Option.isSome_some.{0}) <| And.intro (@List.toList_toArray.{0}) <| And.intro (@Bool.and_true) <| And.intro (@Bool.true_and) <| And.intro (@Bool.and_false) <| And.intro (@Bool.false_and) <| And.intro (@Bool.or_true) <| And.intro (@Bool.true_or) <| And.intro (@Bool.or_false) <| And.intro (@Bool.false_or) <| And.intro (@Bool.not_true) <| And.intro (@Bool.not_false) <| And.intro (@Int.cast_ofNat_Int) <| And.intro (@Nat.le_refl) <| @Bool.not_not)
end Go.Eng

namespace Go.Eng
theorem dec_rep {α : Type} [Cell α] {x : TV} {l : List α} (h : Cell.dec [x] = some l) (w : World) (O : Addr → Prop) (z : Value) (hr : RepT w O x z) : RepT w O (sl l) z := by
  obtain ⟨h1, h2⟩ := Cell.sound [x] l h
  exact h2 w O (fun _ => z) (fun i hi => by
    obtain rfl : i = 0 := by have : i < 1 := hi; omega
    exact hr) 0 (by show 0 < 1; omega)
theorem w2_dec {α : Type} [Cell α] {s s' : Store} {v : AV} {x : TV} {ros : List Nat} {l : List α} (h : s.borrow1 v = some (x, ros)) (hd : Cell.dec [x] = some l) (hn : ∀ g ∈ ros, s'.f g = none) : W2 s s' v (.t (sl l)) :=
  .inl (.inr (.inr ⟨x, ros, h, .inr ⟨_, rfl, dec_rep hd⟩, hn⟩))
/-- A list of rows that stand for values. -/
theorem w2_rows {α : Type} [Cell α] {s s' : Store} {g n w : Nat} {rows : List (List TV)} {ro : Bool} {l : List α} (h : s.f g = some (.row w rows ro)) (hn : n = rows.length) (hd : Cell.dec [TV.seq w rows] = some l) (hs : s'.f g = none) : W2 s s' (.tok g w 0 n) (.t (sl l)) := by
  refine w2_dec (x := .seq w rows) (ros := [g]) ?_ hd fun k hk => by
    obtain rfl : k = g := by simpa using hk
    exact hs
  subst hn
  simp [Store.borrow1, h]
/-- Rows are appended, whatever they stand for. -/
theorem append_rows {C : Ctx} {α : Type} [Cell α] {S : Store} {v y : AV} {l : List α} {T e : TypeId} {n m : Nat} {z : List TV} {de : TyD} {K : AV → Store → Prop} {rows : List (List TV)} (h : C.ty T = some ⟨.slice e, n, m, z⟩) (he : C.ty e = some de) (hw : de.size = Cell.width α) (hw0 : 0 < Cell.width α)
    (hv : LV S v l) (hy : S.rowsAt y = some rows) (hyw : y.width = some (Cell.width α) ∨ y.width = none) (h1 : l.length + rows.length ≤ 140737488355328) (h2 : (l.length + rows.length) * de.bytes ≤ 140737488355328)
    (hk : ∀ g' S' ro, S'.f g' = some (.row (Cell.width α) (l.map Cell.enc ++ rows) ro) → K (.tok g' (Cell.width α) 0 (l.length + rows.length)) S') : appendV C T v y K S := by
  unfold appendV appendT
  simp only [h, he, hy, hw]
  rcases hv with ⟨rfl, rfl⟩ | ⟨g, rfl, ro, hx⟩
  · refine ⟨hw0, hyw, rfl, ?_⟩
    simp only [List.length_nil, Nat.zero_add] at h1 h2
    refine ⟨h1, h2, fun g' hg' => ?_⟩
    have := hk g' (S.set g' (some (.row (Cell.width α) rows false))) false (Store.set_same _ _ _)
    simpa using this
  · simp only [hx, List.length_map, true_and]
    exact ⟨hw0, hyw, h1, h2, fun g' hg' => hk g' _ ro (Store.set_same _ _ _)⟩
end Go.Eng

namespace Go.Eng
section
variable {F A : Addr → Prop} {β : Bt} {w : World} {s : Store}

theorem Frame.ahead' {O₀ O : Addr → Prop} {β₀ : Bt} {w₀ : World} (h : Frame O₀ β₀ w₀ O β w) (n : Nat) : Frame O₀ β₀ w₀ O β (Go.Sort.ahead w n) :=
  ⟨h.os, h.tape, h.output, h.size, h.block, h.cell, h.shape, h.own, h.ext, h.new⟩

theorem grow_at {os : Array Obj} {b : Nat} (h : b < w.heap.size) : (Go.Sort.grow w os).heap[b]? = w.heap[b]? := by
  show (w.heap ++ os)[b]? = _
  rw [Array.getElem?_append_left h]

theorem Frame.grow' {O₀ O : Addr → Prop} {β₀ : Bt} {w₀ : World} (h : Frame O₀ β₀ w₀ O β w) (os : Array Obj) : Frame O₀ β₀ w₀ O β (Go.Sort.grow w os) where
  os := h.os
  tape := h.tape
  output := h.output
  size := by rw [Go.Sort.size_grow]; exact Nat.le_trans h.size (Nat.le_add_right _ _)
  block b hb ho := (grow_at (Nat.lt_of_lt_of_le hb h.size)).trans (h.block b hb ho)
  cell b off hb ho := by
    rw [← h.cell b off hb ho]
    simp only [World.cell?, grow_at (Nat.lt_of_lt_of_le hb h.size)]
  shape b hb := by
    rw [← h.shape b hb]
    simp only [World.shape?, grow_at (Nat.lt_of_lt_of_le hb h.size)]
  own := h.own
  ext := h.ext
  new := h.new

theorem StOk.ahead' (h : StOk F β s w) (n : Nat) : StOk F β s (Go.Sort.ahead w n) :=
  h.evolve ((Frame.refl _ _ _).ahead' n) (fun _ _ hg => .inl ⟨hg, fun _ _ => rfl⟩) h.inj h.fin h.dom h.apart

theorem StOk.grow' (h : StOk F β s w) (os : Array Obj) : StOk F β s (Go.Sort.grow w os) :=
  h.evolve ((Frame.refl _ _ _).grow' os) (fun _ _ hg => .inl ⟨hg, fun _ hb => grow_at (h.dom _ _ hb)⟩) h.inj h.fin (fun g b hb => by rw [Go.Sort.size_grow]; have := h.dom g b hb; omega) h.apart

theorem putCells_size {d : Array Int} {c : Array Value} {off : Nat} : (Go.Sort.putCells (Value.int .i64) off d c).size = c.size := by simp [Go.Sort.putCells]

theorem putRow_repl {b : Nat} {c : Array Value} {T : TypeId} {fr : Nat × Nat} {d : Array Int} (h : w.heap[b]? = some (.cells c T fr)) :
    Go.Sort.putRow (Value.int .i64) w b 0 d = repl w b (Go.Sort.putCells (Value.int .i64) 0 d c) T fr := by
  unfold Go.Sort.putRow Go.Sort.mapBlock repl
  congr 1
  apply Array.ext_getElem?
  intro k
  rw [Array.getElem?_modify, Array.getElem?_setIfInBounds]
  by_cases hk : b = k
  · subst hk
    have hlt : b < w.heap.size := (Array.getElem?_eq_some_iff.1 h).1
    rw [if_pos rfl, if_pos rfl, if_pos hlt, h]
    rfl
  · rw [if_neg hk, if_neg hk]

def intRow (zs : List Int) : List (List TV) := zs.map Cell.enc
theorem intRow_len {zs : List Int} : (intRow zs).length = zs.length := by simp [intRow]
theorem intRow_at {zs : List Int} {i : Nat} (h : i < zs.length) : (intRow zs).getD i [] = [.int .i64 zs[i]] := by
  simp [intRow, List.getD_eq_getElem?_getD, h]
  rfl

/-- What a list of numbers is in memory. -/
theorem ints_hold (hs : StOk F β s w) {g b : Nat} {zs : List Int} {ro : Bool} (hg : s.f g = some (.row 1 (intRow zs) ro)) (hb : β g = some (some b)) :
    b < w.heap.size ∧ Go.Sort.Holds (Value.int .i64) w b 0 zs.toArray ∧ ∃ c T fr, w.heap[b]? = some (.cells c T fr) ∧ thawed fr c.size ∧ zs.length ≤ c.size ∧ ∀ i (h : i < zs.length), c.getD i undef = .int .i64 zs[i] := by
  obtain ⟨h1, h2⟩ := hs.ents _ _ hg
  rcases h2 with ⟨h2, _⟩ | ⟨b', c, T, fr, h2, h3, h4, h5, h6⟩
  · rw [hb] at h2; cases h2
  · rw [hb] at h2
    obtain rfl : b = b' := by simpa using h2
    rw [intRow_len] at h5 h6
    have hc : ∀ i (h : i < zs.length), c.getD i undef = .int .i64 zs[i] := fun i hi => by
      have := h6 i 0 hi (by omega)
      rw [intRow_at hi] at this
      simp only [Nat.mul_one, Nat.add_zero, List.getD_cons_zero] at this
      generalize c.getD i undef = x at this
      cases this
      rfl
    refine ⟨hs.dom _ _ hb, fun j hj => ?_, c, T, fr, h3, h4, by omega, hc⟩
    have hj' : j < zs.length := by simpa using hj
    have hjc : j < c.size := by omega
    have e := hc j hj'
    rw [Array.getD_eq_getD_getElem?, Array.getElem?_eq_getElem hjc, Option.getD_some] at e
    refine ⟨?_, ?_⟩
    · simp only [World.cell?, h3, Nat.zero_add]
      rw [Array.getElem?_eq_getElem hjc, e]
      simp [hj']
    · simp only [World.frozen?, h3, Nat.zero_add]
      have := h4 j hjc
      simpa using this

theorem own_row {g b : Nat} {n : Nat} {l : List (List TV)} (hg : s.f g = some (.row n l false)) (hb : β g = some (some b)) (off : Nat) : OwnOf β s ⟨b, off, none⟩ :=
  ⟨g, b, hb, rfl, by rw [hg]; intro h; cases h⟩

/-- A list of numbers is written over. -/
theorem ints_write (hs : StOk F β s w) {g b : Nat} {zs zs' : List Int} (hg : s.f g = some (.row 1 (intRow zs) false)) (hb : β g = some (some b)) (hl : zs'.length = zs.length) (n : Nat) (os : Array Obj) :
    StOk F β (s.set g (some (.row 1 (intRow zs') false))) (Go.Sort.grow (Go.Sort.putRow (Value.int .i64) (Go.Sort.ahead w n) b 0 zs'.toArray) os) ∧
    Frame (OwnOf β s) β w (OwnOf β (s.set g (some (.row 1 (intRow zs') false)))) β (Go.Sort.grow (Go.Sort.putRow (Value.int .i64) (Go.Sort.ahead w n) b 0 zs'.toArray) os) := by
  obtain ⟨_, _, c, T, fr, h3, h4, h5, h6⟩ := ints_hold hs hg hb
  rw [Go.Sort.putRow_ahead, putRow_repl h3]
  have hf : Frame (OwnOf β s) β w (OwnOf β (s.set g (some (.row 1 (intRow zs') false)))) β (repl w b (Go.Sort.putCells (Value.int .i64) 0 zs'.toArray c) T fr) := by
    refine repl_frame h3 putCells_size (fun q hq => ?_) (fun k q hk ha => ?_) (fun _ _ h => h) fun _ _ h => .inl h
    · exact absurd (own_row hg hb q) hq
    · obtain ⟨k', b'', g1, g2, g3⟩ := ha
      by_cases hkg : k' = g
      · subst hkg
        exact ⟨k', b'', g1, g2, by rw [hg]; intro h; cases h⟩
      · rw [Store.set_other _ _ hkg] at g3; exact ⟨k', b'', g1, g2, g3⟩
  have hs' : StOk F β (s.set g (some (.row 1 (intRow zs') false))) (repl w b (Go.Sort.putCells (Value.int .i64) 0 zs'.toArray c) T fr) := by
    have dom' : ∀ k, (s.set g (some (.row 1 (intRow zs') false))).f k ≠ none → s.f k ≠ none := fun k hk => by
      by_cases hkg : k = g
      · subst hkg; rw [hg]; simp
      · rwa [Store.set_other _ _ hkg] at hk
    refine hs.evolve hf (fun k e he => ?_) (fun k m b hk hm => hs.inj k m b (dom' k hk) (dom' m hm)) hs.fin (fun k q hq => by rw [repl_size]; exact hs.dom k q hq) fun a ha k hk => hs.apart a ha k (dom' k hk)
    by_cases hkg : k = g
    · subst hkg
      rw [Store.set_same] at he
      cases he
      right
      refine ⟨fun i hi => ?_, .inr ⟨b, _, T, fr, hb, repl_same h3, by rw [putCells_size]; exact h4, by rw [putCells_size, intRow_len]; omega, fun i j hi hj => ?_⟩⟩
      · rw [intRow_at (by simpa [intRow_len] using hi)]; rfl
      · have hi' : i < zs'.length := by simpa [intRow_len] using hi
        obtain rfl : j = 0 := by omega
        rw [intRow_at hi']
        have hic : i < c.size := by omega
        have e : (Go.Sort.putCells (Value.int .i64) 0 zs'.toArray c).getD i undef = .int .i64 zs'[i] := by
          simp only [Go.Sort.putCells, Array.getD_eq_getD_getElem?, Array.getElem?_mapIdx, Array.getElem?_eq_getElem hic, Option.map_some, Option.getD_some]
          rw [if_pos ⟨by omega, by simpa using hi'⟩]
          simp [hi']
        simp only [Nat.mul_one, Nat.add_zero, List.getD_cons_zero, e]
        exact .int _ _
    · rw [Store.set_other _ _ hkg] at he
      refine .inl ⟨he, fun q hq => repl_other fun hqb => ?_⟩
      subst hqb
      exact hkg (hs.inj k g q (by rw [he]; simp) (by rw [hg]; simp) hq hb)
  exact ⟨(hs'.ahead' n).grow' os, (hf.ahead' n).grow' os⟩

/-- What a function does that writes a list of numbers over: nil is left alone. -/
def inPlace (b : Nat) (f : List Int → List Int) (r : List Int → AV → AV) : List AV → Store → (AV → Store → Prop) → Prop
  | [.t .nilS], s, K => K (r [] (.t .nilS)) s
  | [.tok g n off len], s, K => n = 1 ∧ off = 0 ∧ ∃ zs, s.f g = some (.row 1 (intRow zs) false) ∧ len = zs.length ∧ zs.length < b ∧ K (r zs (.tok g n off len)) (s.set g (some (.row 1 (intRow (f zs)) false)))
  | _, _, _ => False

theorem inPlace_mono {b : Nat} {f : List Int → List Int} {r : List Int → AV → AV} (as : List AV) (s : Store) (Q Q' : AV → Store → Prop) (h : ∀ r t, Q r t → Q' r t) (hT : inPlace b f r as s Q) : inPlace b f r as s Q' := by
  unfold inPlace at hT ⊢
  split at hT
  · exact h _ _ hT
  · obtain ⟨h1, h2, zs, h3, h4, h5, h6⟩ := hT
    exact ⟨h1, h2, zs, h3, h4, h5, h _ _ h6⟩
  · exact hT.elim
theorem inPlace_ex {b : Nat} {f : List Int → List Int} {r : List Int → AV → AV} (as : List AV) (s : Store) (Q : AV → Store → Prop) (hT : inPlace b f r as s Q) : ∃ r t, Q r t := by
  unfold inPlace at hT
  split at hT
  · exact ⟨_, _, hT⟩
  · obtain ⟨h1, h2, zs, h3, h4, h5, h6⟩ := hT
    exact ⟨_, _, h6⟩
  · exact hT.elim

/-- slices.Sort. -/
def sortF (f : List Int → List Int) : List AV → Store → (AV → Store → Prop) → Prop := inPlace 4611686018427387904 f fun _ _ => .tup []
/-- slices.Compact: what is left; noughts stand behind it. -/
def compF (f : List Int → List Int) : List AV → Store → (AV → Store → Prop) → Prop :=
  inPlace 4611686018427387904 (fun zs => f zs ++ List.replicate (zs.length - (f zs).length) 0) fun zs v => match v with | .tok g n off _ => .tok g n off (f zs).length | v => v

theorem args1 {v : AV} {vs : Array Value} (h : Args β w A [v] vs) : ∃ x, vs = #[x] ∧ Rep β w A v x := by
  obtain ⟨h1, h2⟩ := h
  have h1 : vs.size = 1 := h1.symm
  refine ⟨vs[0], Array.ext (by simp [h1]) fun i hi hi' => ?_, ?_⟩
  · obtain rfl : i = 0 := by simp at hi'; omega
    rfl
  · have := h2 0 (by simp)
    simpa [h1] using this

theorem sort_ok {P : Program} {fid : FuncId} {f : List Int → List Int} (hf : ∀ zs, (f zs).length = zs.length)
    (h : ∀ (blk off cap : Nat) (zs : List Int) (w : World), Go.Sort.Holds (Value.int .i64) w blk off zs.toArray → blk < w.heap.size → zs.length < 4611686018427387904 →
      Calls P fid #[.slice (some ⟨blk, off, none⟩) zs.length cap] w fun e w' => e = .returned (.tuple #[]) ∧ ∃ n os, w' = Go.Sort.grow (Go.Sort.putRow (Value.int .i64) (Go.Sort.ahead w n) blk off (f zs).toArray) os)
    (h0 : ∀ (p : Option Addr) (cap : Nat) (w : World), Calls P fid #[.slice p 0 cap] w fun e w' => e = .returned (.tuple #[]) ∧ w' = w) : GenOk P fid (sortF f) := by
  refine ⟨inPlace_mono, inPlace_ex, fun as vs β s w F Q hT hs ha => ?_⟩
  have nil : ∀ {v : AV} {β : Bt} {w : World} {s : Store} {p : Option Addr} {cap : Nat}, StOk F β s w → Q (.tup []) s → Calls P fid #[.slice p 0 cap] w fun e w' => ∃ β' r s' v, e = .returned v ∧ Q r s' ∧ StOk F β' s' w' ∧ Rep β' w' (Or2 F (OwnOf β' s')) r v ∧ Frame (OwnOf β s) β w (OwnOf β' s') β' w' ∧ Grew β s s' := fun hs hq => by
    refine (h0 _ _ _).mono ?_
    rintro e w' ⟨rfl, rfl⟩
    exact ⟨_, _, _, _, rfl, hq, hs, .tup [] #[] rfl fun i hi => by simp at hi, Frame.refl _ _ _, .refl _ _⟩
  unfold sortF inPlace at hT
  split at hT
  · obtain ⟨x, rfl, hr⟩ := args1 ha
    cases hr with
    | t _ _ hr =>
      cases hr
      exact nil (v := .t .nilS) hs hT
  · obtain ⟨rfl, rfl, zs, hg, rfl, hb, hK⟩ := hT
    obtain ⟨x, rfl, hr⟩ := args1 ha
    rename_i g
    generalize hz : zs.length = ln at hr
    cases hr with
    | tokN g n a hβ =>
      obtain rfl : zs = [] := List.length_eq_zero_iff.1 hz
      obtain ⟨h1, h2⟩ := hs.ents _ _ hg
      have e : f [] = [] := List.length_eq_zero_iff.1 (hf [])
      have hset : s.set g (some (.row 1 (intRow (f [])) false)) = s := Store.ext' fun k => by
        by_cases hk : k = g
        · subst hk; rw [Store.set_same, hg, e]
        · rw [Store.set_other _ _ hk]
      rw [hset] at hK
      exact nil (v := .t .nilS) hs hK
    | tok g n off len b a cap T sz hβ hle hm hsh ha' =>
      obtain ⟨rfl, hsz⟩ : a = some ⟨b, 0, none⟩ ∧ sz = cap := by
        rcases ha' with ⟨h1, h2⟩ | ⟨_, h2⟩
        · exact ⟨by simpa using h1, by simpa using h2⟩
        · exact absurd rfl h2
      obtain ⟨q1, q2, _⟩ := ints_hold hs hg hβ
      rw [← hz]
      refine (h b 0 cap zs w q2 q1 hb).mono ?_
      rintro e w' ⟨rfl, n, os, rfl⟩
      obtain ⟨r1, r2⟩ := ints_write hs hg hβ (hf zs) n os
      exact ⟨β, _, _, _, rfl, hK, r1, .tup [] #[] rfl fun i hi => by simp at hi, r2, .set (.inl (by rw [hg]; simp))⟩
  · exact hT.elim

theorem comp_ok {P : Program} {fid : FuncId} {f : List Int → List Int} (hf : ∀ zs, (f zs).length ≤ zs.length)
    (h : ∀ (blk off cap : Nat) (zs : List Int) (w : World), Go.Sort.Holds (Value.int .i64) w blk off zs.toArray → zs.length ≤ 9223372036854775807 → zs.length ≤ cap →
      Calls P fid #[.slice (some ⟨blk, off, none⟩) zs.length cap] w fun e w' => e = .returned (.slice (some ⟨blk, off, none⟩) (f zs).length cap) ∧ ∃ q, w' = Go.Sort.putRow (Value.int .i64) (Go.Sort.ahead w q) blk off (f zs ++ List.replicate (zs.length - (f zs).length) 0).toArray)
    (h0 : ∀ (p : Option Addr) (cap : Nat) (w : World), Calls P fid #[.slice p 0 cap] w fun e w' => e = .returned (.slice p 0 cap) ∧ w' = w) : GenOk P fid (compF f) := by
  refine ⟨inPlace_mono, inPlace_ex, fun as vs β s w F Q hT hs ha => ?_⟩
  unfold compF inPlace at hT
  split at hT
  · obtain ⟨x, rfl, hr⟩ := args1 ha
    cases hr with
    | t _ _ hr =>
      cases hr
      refine (h0 _ _ _).mono ?_
      rintro e w' ⟨rfl, rfl⟩
      exact ⟨_, _, _, _, rfl, hT, hs, .t _ _ .nilS, Frame.refl _ _ _, .refl _ _⟩
  · obtain ⟨rfl, rfl, zs, hg, rfl, hb, hK⟩ := hT
    obtain ⟨x, rfl, hr⟩ := args1 ha
    rename_i g
    generalize hz : zs.length = ln at hr
    cases hr with
    | tokN g n a hβ =>
      obtain rfl : zs = [] := List.length_eq_zero_iff.1 hz
      have e : f [] = [] := List.length_eq_zero_iff.1 (Nat.le_zero.1 (hf []))
      have hset : s.set g (some (.row 1 (intRow (f [] ++ List.replicate (([] : List Int).length - (f []).length) 0)) false)) = s := Store.ext' fun k => by
        by_cases hk : k = g
        · subst hk; rw [Store.set_same, hg, e]; rfl
        · rw [Store.set_other _ _ hk]
      rw [hset] at hK
      refine (h0 _ _ _).mono ?_
      rintro e' w' ⟨rfl, rfl⟩
      refine ⟨β, _, _, _, rfl, hK, hs, ?_, Frame.refl _ _ _, .refl _ _⟩
      simp only [e]
      exact .tokN g 1 a hβ
    | tok g n off len b a cap T sz hβ hle hm hsh ha' =>
      obtain ⟨rfl, hsz⟩ : a = some ⟨b, 0, none⟩ ∧ sz = cap := by
        rcases ha' with ⟨h1, h2⟩ | ⟨_, h2⟩
        · exact ⟨by simpa using h1, by simpa using h2⟩
        · exact absurd rfl h2
      obtain ⟨q1, q2, _⟩ := ints_hold hs hg hβ
      rw [← hz]
      refine (h b 0 cap zs w q2 (by omega) (by omega)).mono ?_
      rintro e w' ⟨rfl, n, rfl⟩
      have hl : (f zs ++ List.replicate (zs.length - (f zs).length) 0).length = zs.length := by
        have := hf zs
        simp
        omega
      have e0 : Go.Sort.putRow (Value.int .i64) (Go.Sort.ahead w n) b 0 (f zs ++ List.replicate (zs.length - (f zs).length) 0).toArray = Go.Sort.grow (Go.Sort.putRow (Value.int .i64) (Go.Sort.ahead w n) b 0 (f zs ++ List.replicate (zs.length - (f zs).length) 0).toArray) #[] := (Go.Sort.grow_empty _).symm
      obtain ⟨r1, r2⟩ := ints_write hs hg hβ hl n #[]
      rw [← e0] at r1 r2
      have hshape := r2.shape b q1
      have := hf zs
      exact ⟨β, _, _, _, rfl, hK, r1, .tok g 1 0 _ b _ cap T sz hβ (by omega) hm (hshape.trans hsh) (.inl ⟨by simp, by simpa using hsz⟩), r2, .set (.inl (by rw [hg]; simp))⟩
  · exact hT.elim

end
end Go.Eng

namespace Go.Eng
def vP := PLift.up (And.intro (vQ.down) <| And.intro (vZ.down) <| And.intro (@ne_eq.{1}) <| And.intro (@not_false_eq_true) <| And.intro (@not_true_eq_false) <| And.intro (@true_and) <| And.intro (@and_true) <| And.intro (@implies_true.{0}) <| And.intro (@implies_true.{1}) <| And.intro (@forall_const.{0}) <| And.intro (@forall_const.{1}) <| And.intro (@decide_eq_true_eq) <| And.intro (@decide_eq_false_iff_not) <| And.intro (@Decidable.not_not) <| And.intro (@imp_self) <| And.intro (@and_self) <| And.intro (@decide_true) <| And.intro (@decide_false) <| And.intro (@eq_self.{1}) (@condG_bool))
def wP := PLift.up (And.intro (@wkAll_cons) <| And.intro (@wkAll_nil) <| And.intro (@w2_refl) <| And.intro (@w2_nil) <| And.intro (@w2_emp) (@empty_none))
end Go.Eng

namespace Go.Eng
section
variable {F A : Addr → Prop} {β : Bt} {w : World} {s : Store}

/-- slices.Grow at nil: a row without cells, or nil. -/
def growF (wd bytes : Nat) (xs : List AV) (s : Store) (Q : AV → Store → Prop) : Prop :=
  ∃ n : Nat, xs = [.t .nilS, .t (.int .i64 (n : Int))] ∧ n * bytes ≤ 140737488355328 ∧ n ≤ 4611686018427387904 ∧ (n = 0 → Q (.t .nilS) s) ∧ (n ≠ 0 → ∀ g, s.f g = none → Q (.tok g wd 0 0) (s.set g (some (.row wd [] false))))

theorem growF_mono {wd bytes : Nat} (as : List AV) (s : Store) (Q Q' : AV → Store → Prop) (h : ∀ r t, Q r t → Q' r t) (hT : growF wd bytes as s Q) : growF wd bytes as s Q' :=
  let ⟨n, a, b, c, d, e⟩ := hT
  ⟨n, a, b, c, fun h0 => h _ _ (d h0), fun h0 g hg => h _ _ (e h0 g hg)⟩
theorem growF_ex {wd bytes : Nat} (as : List AV) (s : Store) (Q : AV → Store → Prop) (hT : growF wd bytes as s Q) : ∃ r t, Q r t := by
  obtain ⟨n, a, b, c, d, e⟩ := hT
  by_cases h : n = 0
  · exact ⟨_, _, d h⟩
  · obtain ⟨N, hN⟩ := s.fin
    exact ⟨_, _, e h N (hN N (Nat.le_refl _))⟩

theorem args2 {v u : AV} {vs : Array Value} (h : Args β w A [v, u] vs) : ∃ x y, vs = #[x, y] ∧ Rep β w A v x ∧ Rep β w A u y := by
  obtain ⟨h1, h2⟩ := h
  have h1 : vs.size = 2 := h1.symm
  refine ⟨vs[0], vs[1], Array.ext (by simp [h1]) fun i hi hi' => ?_, ?_, ?_⟩
  · have : i = 0 ∨ i = 1 := by simp at hi'; omega
    rcases this with rfl | rfl <;> rfl
  · have := h2 0 (by simp)
    simpa [h1] using this
  · have := h2 1 (by simp)
    simpa [h1] using this

theorem grow_ok {P : Program} {fid : FuncId} {wd bytes : Nat} {T : TypeId}
    (h0 : ∀ w : World, Calls P fid #[.slice none 0 0, .int .i64 0] w fun e w' => e = .returned (.slice none 0 0) ∧ w' = w)
    (h : ∀ (n : Nat) (w : World), 0 < n → n * bytes ≤ 140737488355328 → n ≤ 4611686018427387904 →
      Calls P fid #[.slice none 0 0, .int .i64 n] w fun e w' => ∃ (cap : Nat) (c : Array Value), e = .returned (.slice (some ⟨w.heap.size, 0, none⟩) 0 cap) ∧ cap ≤ maxLen ∧ c.size = cap * wd ∧ w' = w.drew.alloc (.cells c T)) : GenOk P fid (growF wd bytes) := by
  refine ⟨growF_mono, growF_ex, fun as vs β s w F Q hT hs ha => ?_⟩
  obtain ⟨n, rfl, hb, hn, q0, q1⟩ := hT
  obtain ⟨x, y, rfl, hx, hy⟩ := args2 ha
  cases hx with
  | t _ _ hx =>
    cases hx
    cases hy with
    | t _ _ hy =>
      cases hy
      by_cases hn0 : n = 0
      · subst hn0
        refine (h0 w).mono ?_
        rintro e w' ⟨rfl, rfl⟩
        exact ⟨_, _, _, _, rfl, q0 rfl, hs, .t _ _ .nilS, Frame.refl _ _ _, .refl _ _⟩
      · refine (h n w (by omega) hb hn).mono ?_
        rintro e w' ⟨cap, c, rfl, hcap, hc, rfl⟩
        obtain ⟨g, hg⟩ := hs.fresh
        have hgn := hs.none_of hg
        have hf : Frame (OwnOf β s) β w (OwnOf (upd β g (some (some w.heap.size))) (s.set g (some (.row wd [] false)))) (upd β g (some (some w.heap.size))) (w.drew.alloc (.cells c T)) :=
          (Frame.refl _ _ _).drew.trans (alloc_frame (w := w.drew) hg (.cells c T) (some (.row wd [] false)))
        have hheap : (w.drew.alloc (.cells c T)).heap[w.heap.size]? = some (.cells c T (0, 0)) := by
          show (w.heap.push _)[w.heap.size]? = _
          simp
        have hst := alloc_ok (w := w.drew) hs.drew hg (.cells c T) (.row wd [] false) ⟨fun i hi => by simp at hi, .inr ⟨w.heap.size, c, T, (0, 0), upd_same _ _ _, hheap, fun i _ hh => by omega, by simp, fun i j hi => by simp at hi⟩⟩
        refine ⟨_, _, _, _, rfl, q1 hn0 g hgn, hst, ?_, hf, fun k hk => ?_⟩
        · refine .tok g wd 0 0 w.heap.size _ cap T c.size (upd_same _ _ _) (Nat.zero_le _) hcap (shape_of hheap) (.inl ⟨by simp, by rw [hc]; simp⟩)
        · by_cases hkg : k = g
          · subst hkg; exact .inr hg
          · rw [Store.set_other _ _ hkg] at hk; exact .inl hk
end
end Go.Eng
