/-
  Sorting, what stands twice, room for more: the library's contracts, laid at this program by the kit's tool.
-/
import Derived.Test.YtofcmdkmhbbbjaaBase
import Derived.Shelf.Sort.Plain
import Derived.Shelf.Slices.CompactI
import Derived.Shelf.Slices.In.SortNone
import Derived.Shelf.Spec.SlicesGrow
import Derived.Laws.AppendOwn
set_option linter.unusedSimpArgs false
set_option linter.unusedVariables false
open Nat renaming reduceEqDiff → qA, reduceAdd → qB, reduceSub → qC, reduceMul → qD, reduceLeDiff → qE, reduceLT → qF
open Int renaming reduceToNat → qG, reduceEq → qH, reduceLT → qI, reduceLE → qJ
namespace Go.Proofs.Ytofcmdkmhbbbjaa
open Go Go.Eng Go.Shelf Go.Proofs
def lays189_ren : Go.Shelf.Ren := ⟨fun | 189 => 92 | 125 => 101 | 257 => 100 | 128 => 112 | 129 => 113 | 294 => 103 | 295 => 104 | 296 => 105 | 297 => 106 | 298 => 107 | 299 => 108 | 216 => 109 | 300 => 110 | 301 => 111 | 328 => 115 | 329 => 116 | 330 => 117 | 331 => 118 | 332 => 119 | 215 => 120 | 343 => 121 | n => n, fun | 28 => 58 | 3 => 3 | 46 => 103 | 0 => 0 | 51 => 25 | 53 => 152 | 4 => 4 | 183 => 144 | 182 => 143 | 131 => 148 | 5 => 5 | 9 => 9 | 218 => 155 | 222 => 159 | 228 => 161 | 229 => 162 | n => n, fun | n => n⟩
theorem lays189 : Go.Proofs.Lays.n189 Try.prog lays189_ren := {
  mixed := by kernel_rfl
  f125 := Try.func101.trans (congrArg some (by kernel_rfl))
  f128 := Try.func112.trans (congrArg some (by kernel_rfl))
  f129 := Try.func113.trans (congrArg some (by kernel_rfl))
  f189 := Try.func92.trans (congrArg some (by kernel_rfl))
  f215 := Try.func120.trans (congrArg some (by kernel_rfl))
  f216 := Try.func109.trans (congrArg some (by kernel_rfl))
  f257 := Try.func100.trans (congrArg some (by kernel_rfl))
  f294 := Try.func103.trans (congrArg some (by kernel_rfl))
  f295 := Try.func104.trans (congrArg some (by kernel_rfl))
  f296 := Try.func105.trans (congrArg some (by kernel_rfl))
  f297 := Try.func106.trans (congrArg some (by kernel_rfl))
  f298 := Try.func107.trans (congrArg some (by kernel_rfl))
  f299 := Try.func108.trans (congrArg some (by kernel_rfl))
  f300 := Try.func110.trans (congrArg some (by kernel_rfl))
  f301 := Try.func111.trans (congrArg some (by kernel_rfl))
  f328 := Try.func115.trans (congrArg some (by kernel_rfl))
  f329 := Try.func116.trans (congrArg some (by kernel_rfl))
  f330 := Try.func117.trans (congrArg some (by kernel_rfl))
  f331 := Try.func118.trans (congrArg some (by kernel_rfl))
  f332 := Try.func119.trans (congrArg some (by kernel_rfl))
  f343 := Try.func121.trans (congrArg some (by kernel_rfl))
  t0 := Try.underlying0
  a0 := Try.isAgg0
  z0 := Try.sizeOf0
  v0 := Try.zeroValue0
  t3 := Try.underlying3
  a3 := Try.isAgg3
  z3 := Try.sizeOf3
  v3 := Try.zeroValue3
  t4 := Try.underlying4
  a4 := Try.isAgg4
  z4 := Try.sizeOf4
  v4 := Try.zeroValue4
  t5 := Try.underlying5
  a5 := Try.isAgg5
  z5 := Try.sizeOf5
  v5 := Try.zeroValue5
  t9 := Try.underlying9
  a9 := Try.isAgg9
  z9 := Try.sizeOf9
  v9 := Try.zeroValue9
  t28 := Try.underlying58
  a28 := Try.isAgg58
  z28 := Try.sizeOf58
  v28 := Try.zeroValue58
  t46 := Try.underlying103
  a46 := Try.isAgg103
  z46 := Try.sizeOf103
  v46 := Try.zeroValue103
  t51 := Try.underlying25
  a51 := Try.isAgg25
  z51 := Try.sizeOf25
  v51 := Try.zeroValue25
  t53 := Try.underlying152
  a53 := Try.isAgg152
  z53 := Try.sizeOf152
  v53 := Try.zeroValue152
  t131 := Try.underlying148
  a131 := Try.isAgg148
  z131 := Try.sizeOf148
  v131 := Try.zeroValue148
  t182 := Try.underlying143
  a182 := Try.isAgg143
  z182 := Try.sizeOf143
  v182 := Try.zeroValue143
  t183 := Try.underlying144
  a183 := Try.isAgg144
  z183 := Try.sizeOf144
  v183 := Try.zeroValue144
  t218 := Try.underlying155
  a218 := Try.isAgg155
  z218 := Try.sizeOf155
  v218 := Try.zeroValue155
  t222 := Try.underlying159
  a222 := Try.isAgg159
  z222 := Try.sizeOf159
  v222 := Try.zeroValue159
  t228 := Try.underlying161
  a228 := Try.isAgg161
  z228 := Try.sizeOf161
  v228 := Try.zeroValue161
  t229 := Try.underlying162
  a229 := Try.isAgg162
  z229 := Try.sizeOf162
  v229 := Try.zeroValue162 }
open Go.Sort Go.RowKit in
theorem slices_Sort_int (blk off cap : Nat) (zs : List Int) (w : World) (hH : Holds (Value.int .i64) w blk off zs.toArray) (hblk : blk < w.heap.size) (hsz : zs.length < 4611686018427387904) :
    Calls Try.prog 92 #[.slice (some ⟨blk, off, none⟩) zs.length cap] w fun e w' =>
      e = .returned (.tuple #[]) ∧ ∃ n os, w' = grow (putRow (Value.int .i64) (Sort.ahead w n) blk off (zs.mergeSort fun x y => decide (x ≤ y)).toArray) os := Any.slices_Sort_int lays189 blk off cap zs w hH hblk hsz
def laysNm220_ren : Go.Shelf.Ren := ⟨fun | 20 => 93 | n => n, fun | 22 => 58 | 3 => 3 | 4 => 4 | 0 => 0 | n => n, fun | n => n⟩
theorem laysNm220 : Go.Proofs.Lays2.n20 Try.prog laysNm220_ren := {
  mixed := by kernel_rfl
  f20 := Try.func93.trans (congrArg some (by kernel_rfl))
  t0 := Try.underlying0
  a0 := Try.isAgg0
  z0 := Try.sizeOf0
  v0 := Try.zeroValue0
  t3 := Try.underlying3
  a3 := Try.isAgg3
  z3 := Try.sizeOf3
  v3 := Try.zeroValue3
  t4 := Try.underlying4
  a4 := Try.isAgg4
  z4 := Try.sizeOf4
  v4 := Try.zeroValue4
  t22 := Try.underlying58
  a22 := Try.isAgg58
  z22 := Try.sizeOf58
  v22 := Try.zeroValue58
  i3 := by kernel_rfl }
open Go.RowKit Go.Lib Go.Sort in
theorem slices_Compact_int (blk off cap : Nat) (zs : List Int) (w : World) (hH : Holds (Value.int .i64) w blk off zs.toArray) (hsz : zs.length ≤ 9223372036854775807) (hcap : zs.length ≤ cap) :
    Calls Try.prog 93 #[.slice (some ⟨blk, off, none⟩) zs.length cap] w fun e w' => e = .returned (.slice (some ⟨blk, off, none⟩) (Lib.compact zs).length cap) ∧ ∃ q, w' = putRow (Value.int .i64) (Sort.ahead w q) blk off (Lib.compact zs ++ List.replicate (zs.length - (Lib.compact zs).length) 0).toArray := Any.slices_Compact_int laysNm220 blk off cap zs w hH hsz hcap
open Go.RowKit Go.Lib Go.Sort in
theorem slices_Compact_int_empty (a : Option Addr) (cap : Nat) (w : World) :
    Calls Try.prog 93 #[.slice a 0 cap] w fun e w' => e = .returned (.slice a 0 cap) ∧ w' = w := Any.slices_Compact_int_empty laysNm220 a cap w
open Go.RowKit Go.Sort in
theorem slices_Sort_int_none (p : Option Addr) (cap : Nat) (w : World) :
    Calls Try.prog 92 #[.slice p 0 cap] w fun e w' => e = .returned (.tuple #[]) ∧ w' = w := Any.slices_Sort_int_none lays189 p cap w
def laysGrow_ren : Go.Shelf.Ren := ⟨fun | 4 => 114 | n => n, fun | 22 => 52 | 25 => 69 | 3 => 3 | 4 => 4 | 9 => 9 | 20 => 20 | 0 => 0 | 2 => 3 | n => n, fun | n => n⟩
theorem laysGrow : Go.Proofs.Lays8.n4 Try.prog laysGrow_ren := {
  mixed := by kernel_rfl
  f4 := ⟨Try.f114.name, by decide, Try.func114.trans (congrArg some (by kernel_rfl))⟩
  t0 := Try.underlying0
  a0 := Try.isAgg0
  z0 := Try.sizeOf0
  v0 := Try.zeroValue0
  t3 := Try.underlying3
  a3 := Try.isAgg3
  z3 := Try.sizeOf3
  v3 := Try.zeroValue3
  t4 := Try.underlying4
  a4 := Try.isAgg4
  z4 := Try.sizeOf4
  v4 := Try.zeroValue4
  t9 := Try.underlying9
  a9 := Try.isAgg9
  z9 := Try.sizeOf9
  v9 := Try.zeroValue9
  t20 := Try.underlying20
  a20 := Try.isAgg20
  z20 := Try.sizeOf20
  v20 := Try.zeroValue20
  t22 := Try.underlying52
  a22 := Try.isAgg52
  z22 := Try.sizeOf52
  v22 := Try.zeroValue52 }
end Go.Proofs.Ytofcmdkmhbbbjaa
namespace Go.Eng
structure Rg (a b : Nat) (l l' : List Int) : Prop where
  len : l'.length = l.length
  out : ∀ i, (i < a ∨ b ≤ i) → l'.getD i default = l.getD i default
  perm : l'.Perm l
  tr : ∀ P : Int → Prop, (∀ i, a ≤ i → i < b → P (l.getD i default)) → ∀ i, a ≤ i → i < b → P (l'.getD i default)
theorem Rg.refl {a b : Nat} {l : List Int} : Rg a b l l := ⟨rfl, fun _ _ => rfl, .refl _, fun _ h => h⟩
theorem Rg.trans {a b : Nat} {l m r : List Int} (h : Rg a b l m) (k : Rg a b m r) : Rg a b l r :=
  ⟨k.len.trans h.len, fun i hi => (k.out i hi).trans (h.out i hi), k.perm.trans h.perm, fun P hp => k.tr P (h.tr P hp)⟩
theorem Rg.wide {a b c d : Nat} {l m : List Int} (h : Rg a b l m) (h1 : c ≤ a) (h2 : b ≤ d) : Rg c d l m :=
  ⟨h.len, fun i hi => h.out i (by omega), h.perm, fun P hp i hi hd => by
    by_cases hc : a ≤ i ∧ i < b
    · exact h.tr P (fun j hj hk => hp j (by omega) (by omega)) i hc.1 hc.2
    · rw [h.out i (by omega)]; exact hp i hi hd⟩
def sw (l : List Int) (i j : Nat) : List Int := (l.set i (l.getD j default)).set j (l.getD i default)
theorem sw_len {l : List Int} {i j : Nat} : (sw l i j).length = l.length := by simp [sw]
theorem sw_at {l : List Int} {i j k : Nat} (hi : i < l.length) (hj : j < l.length) :
    (sw l i j).getD k default = if k = j then l.getD i default else if k = i then l.getD j default else l.getD k default := by
  unfold sw
  simp only [List.getD_eq_getElem?_getD, List.getElem?_set, List.length_set]
  by_cases h1 : k = j
  · subst h1; simp [hj]
  · by_cases h2 : k = i
    · subst h2; simp [h1, Ne.symm h1, hi]
    · simp [h1, h2, Ne.symm h1, Ne.symm h2]
theorem sw_perm {l : List Int} {i j : Nat} (hi : i < l.length) (hj : j < l.length) : (sw l i j).Perm l := by
  have e : ∀ k (h : k < l.length), l.getD k default = l[k] := fun k h => by simp [List.getD_eq_getElem?_getD, h]
  unfold sw
  rw [e i hi, e j hj]
  exact List.set_set_perm hi hj
theorem Rg.sw {a b i j : Nat} {l : List Int} (hb : b ≤ l.length) (h1 : a ≤ i) (h2 : i < b) (h3 : a ≤ j) (h4 : j < b) : Rg a b l (sw l i j) :=
  ⟨sw_len, fun k hk => by rw [sw_at (by omega) (by omega), if_neg (by omega), if_neg (by omega)], sw_perm (by omega) (by omega), fun P hp k ha hk => by
    rw [sw_at (by omega) (by omega)]
    split
    · exact hp i h1 h2
    · split
      · exact hp j h3 h4
      · exact hp k ha hk⟩
def Up (a b : Nat) (l : List Int) : Prop := ∀ i j, a ≤ i → i ≤ j → j < b → l.getD i default ≤ l.getD j default
theorem Up.sub {a b c d : Nat} {l : List Int} (h : Up a b l) (h1 : a ≤ c) (h2 : d ≤ b) : Up c d l := fun i j a1 a2 a3 => h i j (by omega) a2 (by omega)
theorem Up.keep {a b : Nat} {l m : List Int} (h : Up a b l) (e : ∀ i, a ≤ i → i < b → m.getD i default = l.getD i default) : Up a b m := fun i j a1 a2 a3 => by
  rw [e i a1 (by omega), e j (by omega) a3]; exact h i j a1 a2 a3
def Low (a b : Nat) (l : List Int) : Prop := a = 0 ∨ ∀ i, a ≤ i → i < b → l.getD (a - 1) default ≤ l.getD i default
theorem Low.keep {a b : Nat} {l m : List Int} (h : Low a b l) (r : Rg a b l m) : Low a b m := by
  rcases h with h | h
  · exact .inl h
  · by_cases ha : a = 0
    · exact .inl ha
    · exact .inr fun i h1 h2 => by rw [r.out (a - 1) (by omega)]; exact r.tr (fun x => l.getD (a - 1) default ≤ x) h i h1 h2
theorem Low.sub {a b d : Nat} {l : List Int} (h : Low a b l) (h2 : d ≤ b) : Low a d l := h.imp id fun h i h1 hd => h i h1 (by omega)
structure Ins (a i j : Nat) (l : List Int) : Prop where
  up : ∀ p q, a ≤ p → p ≤ q → q ≤ i → p ≠ j → q ≠ j → l.getD p default ≤ l.getD q default
  low : ∀ q, j < q → q ≤ i → l.getD j default ≤ l.getD q default
theorem Ins.done {a i j : Nat} {l : List Int} (h : Ins a i j l) (hj : a ≤ j) (hd : j = a ∨ l.getD (j - 1) default ≤ l.getD j default) : Up a (i + 1) l := by
  intro p q h1 h2 h3
  by_cases hp : p = j
  · by_cases hq : q = p
    · rw [hq]; exact Int.le_refl _
    · subst hp; exact h.low q (by omega) (by omega)
  · by_cases hq : q = j
    · subst hq
      have hne : q ≠ a := by omega
      have h0 := hd.resolve_left hne
      exact Int.le_trans (h.up p (q - 1) h1 (by omega) (by omega) hp (by omega)) h0
    · exact h.up p q h1 h2 (by omega) hp hq
theorem Ins.step {a i j : Nat} {l : List Int} (h : Ins a i j l) (hl : i < l.length) (hj : a < j) (hi : j ≤ i) (hlt : l.getD j default < l.getD (j - 1) default) : Ins a i (j - 1) (sw l j (j - 1)) := by
  refine ⟨fun p q h1 h2 h3 h4 h5 => ?_, fun q h1 h2 => ?_⟩
  · rw [sw_at (by omega) (by omega), sw_at (by omega) (by omega), if_neg h4, if_neg h5]
    by_cases hp : p = j
    · rw [if_pos hp]
      by_cases hq : q = j
      · rw [if_pos hq]; exact Int.le_refl _
      · rw [if_neg hq]; exact h.up (j - 1) q (by omega) (by omega) h3 (by omega) hq
    · rw [if_neg hp]
      by_cases hq : q = j
      · rw [if_pos hq]; exact h.up p (j - 1) h1 (by omega) (by omega) hp (by omega)
      · rw [if_neg hq]; exact h.up p q h1 h2 h3 hp hq
  · rw [sw_at (by omega) (by omega), sw_at (by omega) (by omega), if_pos rfl, if_neg (by omega)]
    by_cases hq : q = j
    · rw [if_pos hq]; omega
    · rw [if_neg hq]; exact h.low q (by omega) h2
def Hp (f lo hi : Nat) (l : List Int) : Prop := ∀ k c, lo ≤ k → (c = 2 * k + 1 ∨ c = 2 * k + 2) → c < hi → l.getD (f + c) default ≤ l.getD (f + k) default
structure Sf (f lo hi r : Nat) (l : List Int) : Prop where
  hp : ∀ k c, lo ≤ k → k ≠ r → (c = 2 * k + 1 ∨ c = 2 * k + 2) → c < hi → l.getD (f + c) default ≤ l.getD (f + k) default
  up : ∀ p c, lo ≤ p → (r = 2 * p + 1 ∨ r = 2 * p + 2) → (c = 2 * r + 1 ∨ c = 2 * r + 2) → c < hi → l.getD (f + c) default ≤ l.getD (f + p) default
theorem Sf.done {f lo hi r : Nat} {l : List Int} (h : Sf f lo hi r l) (hd : ∀ c, (c = 2 * r + 1 ∨ c = 2 * r + 2) → c < hi → l.getD (f + c) default ≤ l.getD (f + r) default) : Hp f lo hi l := fun k c h1 h2 h3 => by
  by_cases hk : k = r
  · subst hk; exact hd c h2 h3
  · exact h.hp k c h1 hk h2 h3
theorem Sf.step {f lo hi r c : Nat} {l : List Int} (h : Sf f lo hi r l) (hl : f + hi ≤ l.length) (hr : lo ≤ r) (hc : c = 2 * r + 1 ∨ c = 2 * r + 2) (hh : c < hi)
    (hlt : l.getD (f + r) default < l.getD (f + c) default) (hm : ∀ d, (d = 2 * r + 1 ∨ d = 2 * r + 2) → d < hi → l.getD (f + d) default ≤ l.getD (f + c) default) : Sf f lo hi c (sw l (f + r) (f + c)) := by
  refine ⟨fun k d h1 h2 h3 h4 => ?_, fun p d h1 h2 h3 h4 => ?_⟩
  · rw [sw_at (by omega) (by omega), sw_at (by omega) (by omega)]
    rw [if_neg (show ¬ f + k = f + c by omega)]
    by_cases hk : k = r
    · subst hk
      rw [if_pos (show f + k = f + k from rfl)]
      by_cases hd : d = c
      · subst hd; rw [if_pos rfl]; omega
      · rw [if_neg (by omega), if_neg (by omega)]; exact hm d h3 h4
    · rw [if_neg (show ¬ f + k = f + r by omega)]
      have hdc : d ≠ c := by omega
      rw [if_neg (by omega)]
      by_cases hd : d = r
      · subst hd; rw [if_pos rfl]; exact h.up k c h1 h3 hc hh
      · rw [if_neg (by omega)]; exact h.hp k d h1 hk h3 h4
  · have hp : p = r := by omega
    subst hp
    rw [sw_at (by omega) (by omega), sw_at (by omega) (by omega), if_neg (by omega), if_neg (by omega), if_neg (by omega), if_pos rfl]
    exact h.hp c d (by omega) (by omega) h3 h4
theorem Hp.keep {f lo hi : Nat} {l m : List Int} (h : Hp f lo hi l) (e : ∀ k, lo ≤ k → k < hi → m.getD (f + k) default = l.getD (f + k) default) : Hp f lo hi m := fun k c h1 h2 h3 => by
  rw [e k h1 (by omega), e c (by omega) h3]; exact h k c h1 h2 h3
theorem up_unique {l m : List Int} (hp : l.Perm m) (h1 : Up 0 l.length l) (h2 : Up 0 m.length m) : l = m := by
  have pw : ∀ {l : List Int}, Up 0 l.length l → l.Pairwise (· ≤ ·) := fun {l} h => by
    rw [List.pairwise_iff_getElem]
    intro i j hi hj hij
    have := h i j (by omega) (by omega) hj
    simpa [List.getD_eq_getElem?_getD, hi, hj] using this
  exact List.Perm.eq_of_pairwise (fun a b _ _ h h' => Int.le_antisymm h h') (pw h1) (pw h2) hp
def insL (x : Int) : List Int → List Int
  | [] => [x]
  | y :: r => if x ≤ y then x :: y :: r else y :: insL x r
def sortL : List Int → List Int
  | [] => []
  | x :: r => insL x (sortL r)
theorem insL_perm (x : Int) : ∀ l, (insL x l).Perm (x :: l)
  | [] => .refl _
  | y :: r => by
    unfold insL
    split
    · exact .refl _
    · exact ((insL_perm x r).cons y).trans (.swap x y r)
theorem sortL_perm : ∀ l, (sortL l).Perm l
  | [] => .refl _
  | x :: r => (insL_perm x _).trans ((sortL_perm r).cons x)
theorem insL_pw (x : Int) : ∀ l : List Int, l.Pairwise (· ≤ ·) → (insL x l).Pairwise (· ≤ ·)
  | [], _ => List.pairwise_singleton ..
  | y :: r, h => by
    unfold insL
    have h' := List.pairwise_cons.1 h
    split
    · rename_i hx
      exact List.pairwise_cons.2 ⟨fun z hz => by
        rcases List.mem_cons.1 hz with rfl | hz
        · exact hx
        · exact Int.le_trans hx (h'.1 z hz), h⟩
    · rename_i hx
      refine List.pairwise_cons.2 ⟨fun z hz => ?_, insL_pw x r h'.2⟩
      rcases List.mem_cons.1 ((insL_perm x r).mem_iff.1 hz) with rfl | hz
      · omega
      · exact h'.1 z hz
theorem sortL_pw : ∀ l, (sortL l).Pairwise (· ≤ ·)
  | [] => .nil
  | x :: r => insL_pw x _ (sortL_pw r)
theorem up_of_pw {l : List Int} (h : l.Pairwise (· ≤ ·)) : Up 0 l.length l := fun i j _ h2 h3 => by
  by_cases he : i = j
  · rw [he]; exact Int.le_refl _
  · have := List.pairwise_iff_getElem.1 h i j (by omega) h3 (by omega)
    have hi : i < l.length := by omega
    simpa [List.getD_eq_getElem?_getD, hi, h3] using this
theorem sortL_len (l : List Int) : (sortL l).length = l.length := (sortL_perm l).length_eq
theorem up_sortL {l m : List Int} (hp : m.Perm l) (h : Up 0 m.length m) : m = sortL l := up_unique (hp.trans (sortL_perm l).symm) h (up_of_pw (sortL_pw l))
end Go.Eng
namespace Go.Proofs.Ytofcmdkmhbbbjaa
open Go Go.Eng
set_option maxRecDepth 100000
end Go.Proofs.Ytofcmdkmhbbbjaa
namespace Go.Proofs.Ytofcmdkmhbbbjaa
open Go Go.Eng
set_option maxRecDepth 100000
theorem pick_of {x : AV} {w : Bool} : pickB (.opt true (.t (.bool false))) x (.t (.bool w)) = .val True (.t (.bool w)) := by simp [pickB, AV.asB]
theorem pick_ot {x : AV} {w : Bool} : pickB (.opt true (.t (.bool true))) (.t (.bool w)) x = .val True (.t (.bool w)) := by simp [pickB, AV.asB]
theorem run_ext {a b : TRun} (h : a.From = b.From ∧ a.To = b.To) : a = b := by
  cases a; cases b; simp only at h; rw [h.1, h.2]
end Go.Proofs.Ytofcmdkmhbbbjaa
namespace Go.Proofs.Ytofcmdkmhbbbjaa
open Go Go.Eng
set_option maxRecDepth 100000
def inR (r : TRun) (i : Int) : Bool := decide (r.From ≤ i) && decide (i < r.To)
def hasR (l : List TRun) (i : Int) : Bool := l.any fun r => inR r i
theorem hasR_cons {r : TRun} {l : List TRun} {i : Int} : hasR (r :: l) i = (inR r i || hasR l i) := rfl
theorem hasR_app {l m : List TRun} {i : Int} : hasR (l ++ m) i = (hasR l i || hasR m i) := by simp [hasR]
theorem hasR_next {l : List TRun} {i : Nat} {at' : Int} (h : i < l.length) : hasR (l.take (i + 1)) at' = (hasR (l.take i) at' || inR (l.getD i default) at') := by
  rw [List.take_add_one, hasR_app]
  simp [List.getD_eq_getElem?_getD, h, hasR]
def G_span_run_has : GCode := .seq (.region [⟨(some 2), none, .box 133 (.tmp 0)⟩, ⟨(some 4), none, .assign (.const (.bool false))⟩]) (.seq (.seq .weak (.region [⟨(some 5), none, .fieldAddr 133 (.tmp 2) 0⟩, ⟨(some 6), none, .fieldAddr 69 (.tmp 5) 0⟩, ⟨(some 7), none, .load 3 (.tmp 6)⟩, ⟨(some 8), none, .move (.tmp 1)⟩, ⟨(some 9), none, .binOp .leq 3 (.tmp 7) (.tmp 8) 3⟩, ⟨(some 10), none, .move (.tmp 9)⟩, ⟨(some 11), (some (10, true)), .move (.tmp 1)⟩, ⟨(some 12), (some (10, true)), .fieldAddr 133 (.tmp 2) 0⟩, ⟨(some 13), (some (10, true)), .fieldAddr 69 (.tmp 12) 1⟩, ⟨(some 14), (some (10, true)), .load 3 (.tmp 13)⟩, ⟨(some 15), (some (10, true)), .binOp .lss 3 (.tmp 11) (.tmp 14) 3⟩, ⟨(some 16), none, .pick (.tmp 10) (.tmp 15) (.const (.bool false))⟩, ⟨(some 4), none, .assign (.tmp 16)⟩])) (.ret))
noncomputable def l_span_run_has : List (Nat × Con) := []
noncomputable abbrev K_span_run_has : Ctx := ctx (cl l_span_run_has)
theorem geq_span_run_has : gof K_span_run_has Try.f89 = some G_span_run_has.strip := by kernel_rfl
theorem sys_span_run_has : Go.Eng.Sys Try.prog K_span_run_has := sys_of' (l := []) trivial
def A_span_run_has := Arms.cons (argA TRun) (Arms.cons (argT Int) Arms.nil)
def p_span_run_has (_ : TRun × Int × Unit) : Prop := True
def r_span_run_has (x : TRun × Int × Unit) : AV := .t (.bool (inR x.1 x.2.1))
theorem body_span_run_has (x : TRun × Int × Unit) (hp : p_span_run_has x) : avp K_span_run_has G_span_run_has (Ret K_span_run_has [.tmp 4] fun v _ => v = r_span_run_has x) (entry (A_span_run_has.enc x) .empty) := by
  obtain ⟨r, a, ⟨⟩⟩ := x
  change avp _ _ (Ret _ _ fun v _ => v = .t (.bool (inR r a))) (entry [.agg ((Cell.enc r).map .t), .t (.int .i64 a)] .empty)
  unfold G_span_run_has
  simp only [vP.down, vS.down, vE.down, qA, qB, qC, qD, qE, qF, qG, reduceIte, reduceCtorEq, qH, qI, qJ, ↓avp_condG, ↓tf_arrow, ↓ft_arrow]
  intro g hg
  refine weak_at [(1, .t (.int .i64 a)), (2, .imm [.int .i64 r.From, .int .i64 r.To])] .empty fewer_empty (by simp only [vP.down, vS.down, vE.down, qA, qB, qC, qD, qE, qF, qG, reduceIte, reduceCtorEq, qH, qI, qJ, ↓avp_condG, ↓tf_arrow, ↓ft_arrow, wP.down]; exact w2_imm (l := [.int .i64 r.From, .int .i64 r.To]) (ro := false) (Store.set_same _ _ _) rfl) ?_
  unfold inR
  by_cases c1 : r.From ≤ a
  · simp only [vP.down, vS.down, vE.down, qA, qB, qC, qD, qE, qF, qG, reduceIte, reduceCtorEq, qH, qI, qJ, ↓avp_condG, ↓tf_arrow, ↓ft_arrow, c1, ge_iff_le, pick_of, pick_ot, false_implies]
    simp only [vP.down, vS.down, vE.down, qA, qB, qC, qD, qE, qF, qG, reduceIte, reduceCtorEq, qH, qI, qJ, ↓avp_condG, ↓tf_arrow, ↓ft_arrow, vT.down]
  · simp only [vP.down, vS.down, vE.down, qA, qB, qC, qD, qE, qF, qG, reduceIte, reduceCtorEq, qH, qI, qJ, ↓avp_condG, ↓tf_arrow, ↓ft_arrow, c1, ge_iff_le, pick_of, pick_ot, false_implies]
    simp only [vP.down, vS.down, vE.down, qA, qB, qC, qD, qE, qF, qG, reduceIte, reduceCtorEq, qH, qI, qJ, ↓avp_condG, ↓tf_arrow, ↓ft_arrow, vT.down]
noncomputable def c_span_run_has : Con := fnScal A_span_run_has p_span_run_has r_span_run_has
theorem ok_span_run_has : COk Try.prog 89 c_span_run_has := fn_sok sys_span_run_has mixed Try.func89 (by kernel_rfl) geq_span_run_has Try.ntmps89 (by rw [Try.results89]) (fun x => by unfold r_span_run_has; simp [AV.scal]) fun x hx => ⟨Nat.le_of_ble_eq_true rfl, body_span_run_has x hx⟩
end Go.Proofs.Ytofcmdkmhbbbjaa
namespace Go.Eng
def argAt : Arg Int where
  enc n := .imm [.int .i64 n]
  dec a := match a with | .imm [.int .i64 n] => some n | _ => none
  sound a x h := by
    split at h
    · cases h; exact fun _ _ _ _ hr => hr
    · cases h
theorem argAt_dec {n : Int} : argAt.dec (.imm [.int .i64 n]) = some n := rfl
def argCl (f : Nat) : Arg Int where
  enc n := .fn f [.imm [.int .i64 n]]
  dec a := match a with | .fn g [.imm [.int .i64 n]] => if g = f then some n else none | _ => none
  sound a x h := by
    split at h
    · split at h
      · next e => cases h; subst e; exact fun _ _ _ _ hr => hr
      · cases h
    · cases h
theorem argCl_dec {f : Nat} {n : Int} : (argCl f).dec (.fn f [.imm [.int .i64 n]]) = some n := by simp [argCl]
end Go.Eng
namespace Go.Proofs.Ytofcmdkmhbbbjaa
open Go Go.Eng
set_option maxRecDepth 100000
def idxR (a : Int) : List TRun → Nat → Int
  | [], _ => -1
  | r :: t, k => if inR r a = true then (k : Int) else idxR a t (k + 1)
theorem idxR_drop {a : Int} : ∀ {l : List TRun} {i : Nat}, i ≤ l.length → hasR (l.take i) a = false → idxR a l 0 = idxR a (l.drop i) i := fun {l i} hi h => by
  induction i with
  | zero => rfl
  | succ i ih =>
    have hl : i < l.length := by omega
    rw [hasR_next hl] at h
    simp only [Bool.or_eq_false_iff] at h
    rw [ih (by omega) h.1, List.drop_eq_getElem_cons hl, idxR, if_neg]
    have := h.2
    rw [List.getD_eq_getElem?_getD, List.getElem?_eq_getElem hl, Option.getD_some] at this
    rw [this]; simp
theorem idxR_pos {a : Int} : ∀ (l : List TRun) (k : Nat), decide (0 ≤ idxR a l k) = hasR l a
  | [], _ => rfl
  | r :: t, k => by
    rw [idxR, hasR_cons]
    by_cases h : inR r a = true
    · rw [if_pos h, h]; simp
    · rw [if_neg h, idxR_pos t (k + 1)]
      simp only [Bool.not_eq_true] at h
      rw [h]; rfl
def G_span_Has_1 : GCode := .seq (.region [⟨(some 2), none, .box 69 (.tmp 0)⟩, ⟨(some 3), none, .assign (.const (.bool false))⟩]) (.seq (.region [⟨(some 4), none, .load 69 (.tmp 2)⟩, ⟨(some 5), none, .build 133 #[(0, .tmp 4)]⟩, ⟨(some 6), none, .load 3 (.tmp 1)⟩, ⟨(some 7), none, .call ⟨.value (.func 89), #[.tmp 5, .tmp 6], #[133, 3]⟩⟩, ⟨(some 3), none, .assign (.tmp 7)⟩]) (.ret))
noncomputable def l_span_Has_1 : List (Nat × Con) := [(89, c_span_run_has)]
noncomputable abbrev K_span_Has_1 : Ctx := ctx (cl l_span_Has_1)
theorem geq_span_Has_1 : gof K_span_Has_1 Try.f88 = some G_span_Has_1.strip := by kernel_rfl
theorem sys_span_Has_1 : Go.Eng.Sys Try.prog K_span_Has_1 := sys_of' ⟨ok_span_run_has, trivial⟩
noncomputable def k_span_Has_1_span_run_has := PLift.up (call_scal (C := K_span_Has_1) (f := 89) (A := A_span_run_has) (p := p_span_run_has) (r := r_span_run_has) rfl)
def A_span_Has_1 := Arms.cons (argA TRun) (Arms.cons argAt Arms.nil)
def p_span_Has_1 (_ : TRun × Int × Unit) : Prop := True
def r_span_Has_1 (x : TRun × Int × Unit) : AV := .t (.bool (inR x.1 x.2.1))
theorem body_span_Has_1 (x : TRun × Int × Unit) (hp : p_span_Has_1 x) : avp K_span_Has_1 G_span_Has_1 (Ret K_span_Has_1 [.tmp 3] fun v _ => v = r_span_Has_1 x) (entry (A_span_Has_1.enc x) .empty) := by
  obtain ⟨r, a, ⟨⟩⟩ := x
  change avp _ _ (Ret _ _ fun v _ => v = .t (.bool (inR r a))) (entry [.agg ((Cell.enc r).map .t), .imm [.int .i64 a]] .empty)
  unfold G_span_Has_1
  simp only [vP.down, vS.down, vE.down, qA, qB, qC, qD, qE, qF, qG, reduceIte, reduceCtorEq, qH, qI, qJ, ↓avp_condG, ↓tf_arrow, ↓ft_arrow]
  intro g hg
  have hd : (argA TRun).dec (.agg [.t (.int .i64 r.From), .t (.int .i64 r.To)]) = some r := rfl
  simp only [vP.down, vS.down, vE.down, qA, qB, qC, qD, qE, qF, qG, reduceIte, reduceCtorEq, qH, qI, qJ, ↓avp_condG, ↓tf_arrow, ↓ft_arrow, hd, k_span_Has_1_span_run_has.down, A_span_run_has, p_span_run_has, r_span_run_has]
  simp only [vP.down, vS.down, vE.down, qA, qB, qC, qD, qE, qF, qG, reduceIte, reduceCtorEq, qH, qI, qJ, ↓avp_condG, ↓tf_arrow, ↓ft_arrow, vT.down]
noncomputable def c_span_Has_1 : Con := fnScal A_span_Has_1 p_span_Has_1 r_span_Has_1
theorem ok_span_Has_1 : COk Try.prog 88 c_span_Has_1 := fn_sok sys_span_Has_1 mixed Try.func88 (by kernel_rfl) geq_span_Has_1 Try.ntmps88 (by rw [Try.results88]) (fun x => by unfold r_span_Has_1; simp [AV.scal]) fun x hx => ⟨Nat.le_of_ble_eq_true rfl, body_span_Has_1 x hx⟩
def G_slices_IndexFunc___api_Run_api_Run_ : GCode := .seq (.region [⟨(some 4), none, .assign (.const (.int .i64 0))⟩]) (.seq (.seq (.region [⟨(some 6), none, .move (.tmp 0)⟩, ⟨(some 7), none, .call ⟨.builtin .len, #[.tmp 6], #[52]⟩⟩, ⟨(some 8), none, .move (.const (.int .i64 0))⟩]) (.block 0 (.loop (.seq .weak (.seq (.region [⟨(some 9), none, .binOp .lss 3 (.tmp 8) (.tmp 7) 3⟩]) (.seq (.cond (.tmp 9) (.skip) (.exit 0)) (.seq (.block 1 (.seq (.region [⟨(some 10), none, .move (.tmp 8)⟩, ⟨(some 5), none, .assign (.tmp 10)⟩]) (.seq (.region [⟨(some 11), none, .move (.tmp 1)⟩, ⟨(some 12), none, .move (.tmp 0)⟩, ⟨(some 13), none, .move (.tmp 5)⟩, ⟨(some 14), none, .indexAddr 52 (.tmp 12) (.tmp 13)⟩, ⟨(some 15), none, .load 69 (.tmp 14)⟩, ⟨(some 16), none, .call ⟨.value (.tmp 11), #[.tmp 15], #[69]⟩⟩]) (.cond (.tmp 16) (.seq (.region [⟨(some 17), none, .move (.tmp 5)⟩, ⟨(some 4), none, .assign (.tmp 17)⟩]) (.ret)) (.skip))))) (.region [⟨(some 18), none, .binOp .add 3 (.tmp 8) (.const (.int .i64 1)) 3⟩, ⟨(some 8), none, .move (.tmp 18)⟩])))))))) (.seq (.region [⟨(some 4), none, .assign (.const (.int .i64 (-1)))⟩]) (.ret)))
noncomputable def l_slices_IndexFunc___api_Run_api_Run_ : List (Nat × Con) := [(88, c_span_Has_1)]
noncomputable abbrev K_slices_IndexFunc___api_Run_api_Run_ : Ctx := ctx (cl l_slices_IndexFunc___api_Run_api_Run_)
theorem geq_slices_IndexFunc___api_Run_api_Run_ : gof K_slices_IndexFunc___api_Run_api_Run_ Try.f99 = some G_slices_IndexFunc___api_Run_api_Run_.strip := by kernel_rfl
theorem sys_slices_IndexFunc___api_Run_api_Run_ : Go.Eng.Sys Try.prog K_slices_IndexFunc___api_Run_api_Run_ := sys_of' ⟨ok_span_Has_1, trivial⟩
theorem hm_slices_IndexFunc___api_Run_api_Run_ : ConMono K_slices_IndexFunc___api_Run_api_Run_ := conMono_of sys_slices_IndexFunc___api_Run_api_Run_.con
noncomputable def k_slices_IndexFunc___api_Run_api_Run__span_Has_1 := PLift.up (call_scal (C := K_slices_IndexFunc___api_Run_api_Run_) (f := 88) (A := A_span_Has_1) (p := p_span_Has_1) (r := r_span_Has_1) rfl)
def A_slices_IndexFunc___api_Run_api_Run_ := Arms.cons (argT (List TRun)) (Arms.cons (argCl 88) Arms.nil)
def p_slices_IndexFunc___api_Run_api_Run_ (x : List TRun × Int × Unit) : Prop := x.1.length < 4611686018427387904
def r_slices_IndexFunc___api_Run_api_Run_ (x : List TRun × Int × Unit) : AV := .t (.int .i64 (idxR x.2.1 x.1 0))
theorem body_slices_IndexFunc___api_Run_api_Run_ (x : List TRun × Int × Unit) (hp : p_slices_IndexFunc___api_Run_api_Run_ x) : avp K_slices_IndexFunc___api_Run_api_Run_ G_slices_IndexFunc___api_Run_api_Run_ (Ret K_slices_IndexFunc___api_Run_api_Run_ [.tmp 4] fun v _ => v = r_slices_IndexFunc___api_Run_api_Run_ x) (entry (A_slices_IndexFunc___api_Run_api_Run_.enc x) .empty) := by
  obtain ⟨l, a, ⟨⟩⟩ := x
  change l.length < 4611686018427387904 at hp
  change avp _ _ (Ret _ _ fun v _ => v = .t (.int .i64 (idxR a l 0))) (entry [.t (sl l), .fn 88 [.imm [.int .i64 a]]] .empty)
  unfold G_slices_IndexFunc___api_Run_api_Run_
  simp only [vP.down, vS.down, vE.down, qA, qB, qC, qD, qE, qF, qG, reduceIte, reduceCtorEq, qH, qI, qJ, ↓avp_condG, ↓tf_arrow, ↓ft_arrow]
  refine loop_weak hm_slices_IndexFunc___api_Run_api_Run_ (fun k σ => ∃ i : Nat, k = l.length - i ∧ i ≤ l.length ∧ hasR (l.take i) a = false ∧ σ = mkS [(0, .t (sl l)), (1, .fn 88 [.imm [.int .i64 a]]), (7, .t (.int .i64 (l.length : Nat))), (8, .t (.int .i64 (i : Nat)))] .empty) ⟨0, rfl, by omega, rfl, rfl⟩ (wk_to fewer_refl (by simp only [vP.down, vS.down, vE.down, qA, qB, qC, qD, qE, qF, qG, reduceIte, reduceCtorEq, qH, qI, qJ, ↓avp_condG, ↓tf_arrow, ↓ft_arrow, wP.down, Int.natCast_zero])) ?_
  rintro k _ ⟨i, rfl, hi, ht, rfl⟩
  have hi1 : IntKind.i64.wrap ((i : Int) + 1) = ((i + 1 : Nat) : Int) := by rw [IntWalk.i64_in _ (by omega)]; rfl
  have he := idxR_drop hi ht
  by_cases hlt : i < l.length
  case neg =>
    obtain rfl : i = l.length := by omega
    have hge : ¬ ((l.length : Int) < (l.length : Int)) := by omega
    rw [List.drop_length, idxR] at he
    simp only [vP.down, vS.down, vE.down, qA, qB, qC, qD, qE, qF, qG, reduceIte, reduceCtorEq, qH, qI, qJ, ↓avp_condG, ↓tf_arrow, ↓ft_arrow, hge]
    simp only [vP.down, vS.down, vE.down, qA, qB, qC, qD, qE, qF, qG, reduceIte, reduceCtorEq, qH, qI, qJ, ↓avp_condG, ↓tf_arrow, ↓ft_arrow, vT.down, he]
  have hlt' : (i : Int) < (l.length : Int) := by omega
  have hix := idx_at (C := K_slices_IndexFunc___api_Run_api_Run_) (l := l) ty_Lapi_Run ty_api_Run rfl hlt .i64
  obtain ⟨r, hr⟩ : ∃ r, r = l.getD i default := ⟨_, rfl⟩
  rw [← hr] at hix
  have he' : idxR a l 0 = if inR r a = true then (i : Int) else idxR a (l.drop (i + 1)) (i + 1) := by
    rw [he, List.drop_eq_getElem_cons hlt, idxR, hr, List.getD_eq_getElem?_getD, List.getElem?_eq_getElem hlt, Option.getD_some]
  have hd : (argA TRun).dec (.agg [.t (.int .i64 r.From), .t (.int .i64 r.To)]) = some r := rfl
  cases hin : inR r a with
  | true =>
    rw [hin, if_pos rfl] at he'
    simp only [vP.down, vS.down, vE.down, qA, qB, qC, qD, qE, qF, qG, reduceIte, reduceCtorEq, qH, qI, qJ, ↓avp_condG, ↓tf_arrow, ↓ft_arrow, hlt', hix, hd, hin, argAt_dec, k_slices_IndexFunc___api_Run_api_Run__span_Has_1.down, A_span_Has_1, p_span_Has_1, r_span_Has_1]
    simp only [vP.down, vS.down, vE.down, qA, qB, qC, qD, qE, qF, qG, reduceIte, reduceCtorEq, qH, qI, qJ, ↓avp_condG, ↓tf_arrow, ↓ft_arrow, vT.down, he']
  | false =>
    simp only [vP.down, vS.down, vE.down, qA, qB, qC, qD, qE, qF, qG, reduceIte, reduceCtorEq, qH, qI, qJ, ↓avp_condG, ↓tf_arrow, ↓ft_arrow, hlt', hix, hd, hin, argAt_dec, k_slices_IndexFunc___api_Run_api_Run__span_Has_1.down, A_span_Has_1, p_span_Has_1, r_span_Has_1]
    exact round_to (l.length - (i + 1)) [(0, .t (sl l)), (1, .fn 88 [.imm [.int .i64 a]]), (7, .t (.int .i64 (l.length : Nat))), (8, .t (.int .i64 (i + 1 : Nat)))] .empty (by omega) fewer_refl (by simp only [vP.down, vS.down, vE.down, qA, qB, qC, qD, qE, qF, qG, reduceIte, reduceCtorEq, qH, qI, qJ, ↓avp_condG, ↓tf_arrow, ↓ft_arrow, wP.down, hi1]) ⟨i + 1, rfl, by omega, by rw [hasR_next hlt, ht, ← hr, hin]; rfl, rfl⟩
noncomputable def c_slices_IndexFunc___api_Run_api_Run_ : Con := fnScal A_slices_IndexFunc___api_Run_api_Run_ p_slices_IndexFunc___api_Run_api_Run_ r_slices_IndexFunc___api_Run_api_Run_
theorem ok_slices_IndexFunc___api_Run_api_Run_ : COk Try.prog 99 c_slices_IndexFunc___api_Run_api_Run_ := fn_sok sys_slices_IndexFunc___api_Run_api_Run_ mixed Try.func99 (by kernel_rfl) geq_slices_IndexFunc___api_Run_api_Run_ Try.ntmps99 (by rw [Try.results99]) (fun x => by unfold r_slices_IndexFunc___api_Run_api_Run_; simp [AV.scal]) fun x hx => ⟨Nat.le_of_ble_eq_true rfl, body_slices_IndexFunc___api_Run_api_Run_ x hx⟩
def G_slices_ContainsFunc___api_Run_api_Run_ : GCode := .seq (.region [⟨(some 4), none, .assign (.const (.bool false))⟩]) (.seq (.region [⟨(some 5), none, .move (.tmp 0)⟩, ⟨(some 6), none, .move (.tmp 1)⟩, ⟨(some 7), none, .call ⟨.value (.func 99), #[.tmp 5, .tmp 6], #[52, 134]⟩⟩, ⟨(some 8), none, .binOp .geq 3 (.tmp 7) (.const (.int .i64 0)) 3⟩, ⟨(some 4), none, .assign (.tmp 8)⟩]) (.ret))
noncomputable def l_slices_ContainsFunc___api_Run_api_Run_ : List (Nat × Con) := [(99, c_slices_IndexFunc___api_Run_api_Run_)]
noncomputable abbrev K_slices_ContainsFunc___api_Run_api_Run_ : Ctx := ctx (cl l_slices_ContainsFunc___api_Run_api_Run_)
theorem geq_slices_ContainsFunc___api_Run_api_Run_ : gof K_slices_ContainsFunc___api_Run_api_Run_ Try.f87 = some G_slices_ContainsFunc___api_Run_api_Run_.strip := by kernel_rfl
theorem sys_slices_ContainsFunc___api_Run_api_Run_ : Go.Eng.Sys Try.prog K_slices_ContainsFunc___api_Run_api_Run_ := sys_of' ⟨ok_slices_IndexFunc___api_Run_api_Run_, trivial⟩
noncomputable def k_slices_ContainsFunc___api_Run_api_Run__slices_IndexFunc___api_Run_api_Run_ := PLift.up (call_scal (C := K_slices_ContainsFunc___api_Run_api_Run_) (f := 99) (A := A_slices_IndexFunc___api_Run_api_Run_) (p := p_slices_IndexFunc___api_Run_api_Run_) (r := r_slices_IndexFunc___api_Run_api_Run_) rfl)
def A_slices_ContainsFunc___api_Run_api_Run_ := Arms.cons (argT (List TRun)) (Arms.cons (argCl 88) Arms.nil)
def p_slices_ContainsFunc___api_Run_api_Run_ (x : List TRun × Int × Unit) : Prop := x.1.length < 4611686018427387904
def r_slices_ContainsFunc___api_Run_api_Run_ (x : List TRun × Int × Unit) : AV := .t (.bool (hasR x.1 x.2.1))
theorem body_slices_ContainsFunc___api_Run_api_Run_ (x : List TRun × Int × Unit) (hp : p_slices_ContainsFunc___api_Run_api_Run_ x) : avp K_slices_ContainsFunc___api_Run_api_Run_ G_slices_ContainsFunc___api_Run_api_Run_ (Ret K_slices_ContainsFunc___api_Run_api_Run_ [.tmp 4] fun v _ => v = r_slices_ContainsFunc___api_Run_api_Run_ x) (entry (A_slices_ContainsFunc___api_Run_api_Run_.enc x) .empty) := by
  obtain ⟨l, a, ⟨⟩⟩ := x
  change l.length < 4611686018427387904 at hp
  change avp _ _ (Ret _ _ fun v _ => v = .t (.bool (hasR l a))) (entry [.t (sl l), .fn 88 [.imm [.int .i64 a]]] .empty)
  unfold G_slices_ContainsFunc___api_Run_api_Run_
  have hx := idxR_pos (a := a) l 0
  simp only [vP.down, vS.down, vE.down, qA, qB, qC, qD, qE, qF, qG, reduceIte, reduceCtorEq, qH, qI, qJ, ↓avp_condG, ↓tf_arrow, ↓ft_arrow, hp, argCl_dec, k_slices_ContainsFunc___api_Run_api_Run__slices_IndexFunc___api_Run_api_Run_.down, A_slices_IndexFunc___api_Run_api_Run_, p_slices_IndexFunc___api_Run_api_Run_, r_slices_IndexFunc___api_Run_api_Run_]
  simp only [vP.down, vS.down, vE.down, qA, qB, qC, qD, qE, qF, qG, reduceIte, reduceCtorEq, qH, qI, qJ, ↓avp_condG, ↓tf_arrow, ↓ft_arrow, vT.down, ge_iff_le, hx]
noncomputable def c_slices_ContainsFunc___api_Run_api_Run_ : Con := fnScal A_slices_ContainsFunc___api_Run_api_Run_ p_slices_ContainsFunc___api_Run_api_Run_ r_slices_ContainsFunc___api_Run_api_Run_
theorem ok_slices_ContainsFunc___api_Run_api_Run_ : COk Try.prog 87 c_slices_ContainsFunc___api_Run_api_Run_ := fn_sok sys_slices_ContainsFunc___api_Run_api_Run_ mixed Try.func87 (by kernel_rfl) geq_slices_ContainsFunc___api_Run_api_Run_ Try.ntmps87 (by rw [Try.results87]) (fun x => by unfold r_slices_ContainsFunc___api_Run_api_Run_; simp [AV.scal]) fun x hx => ⟨Nat.le_of_ble_eq_true rfl, body_slices_ContainsFunc___api_Run_api_Run_ x hx⟩
def G_span_Has : GCode := .seq (.region [⟨(some 3), none, .box 3 (.tmp 1)⟩, ⟨(some 4), none, .assign (.const (.bool false))⟩]) (.seq (.seq .weak (.region [⟨(some 5), none, .move (.tmp 0)⟩, ⟨(some 6), none, .makeFunc (.func 88) #[] #[.tmp 3]⟩, ⟨(some 7), none, .call ⟨.value (.func 87), #[.tmp 5, .tmp 6], #[52, 134]⟩⟩, ⟨(some 4), none, .assign (.tmp 7)⟩])) (.ret))
noncomputable def l_span_Has : List (Nat × Con) := [(87, c_slices_ContainsFunc___api_Run_api_Run_)]
noncomputable abbrev K_span_Has : Ctx := ctx (cl l_span_Has)
theorem geq_span_Has : gof K_span_Has Try.f73 = some G_span_Has.strip := by kernel_rfl
theorem sys_span_Has : Go.Eng.Sys Try.prog K_span_Has := sys_of' ⟨ok_slices_ContainsFunc___api_Run_api_Run_, trivial⟩
noncomputable def k_span_Has_slices_ContainsFunc___api_Run_api_Run_ := PLift.up (call_scal (C := K_span_Has) (f := 87) (A := A_slices_ContainsFunc___api_Run_api_Run_) (p := p_slices_ContainsFunc___api_Run_api_Run_) (r := r_slices_ContainsFunc___api_Run_api_Run_) rfl)
def A_span_Has := Arms.cons (argT (List TRun)) (Arms.cons (argT Int) Arms.nil)
def p_span_Has (x : List TRun × Int × Unit) : Prop := x.1.length < 4611686018427387904
def r_span_Has (x : List TRun × Int × Unit) : AV := .t (.bool (hasR x.1 x.2.1))
theorem body_span_Has (x : List TRun × Int × Unit) (hp : p_span_Has x) : avp K_span_Has G_span_Has (Ret K_span_Has [.tmp 4] fun v _ => v = r_span_Has x) (entry (A_span_Has.enc x) .empty) := by
  obtain ⟨l, a, ⟨⟩⟩ := x
  change l.length < 4611686018427387904 at hp
  change avp _ _ (Ret _ _ fun v _ => v = .t (.bool (hasR l a))) (entry [.t (sl l), .t (.int .i64 a)] .empty)
  unfold G_span_Has
  simp only [vP.down, vS.down, vE.down, qA, qB, qC, qD, qE, qF, qG, reduceIte, reduceCtorEq, qH, qI, qJ, ↓avp_condG, ↓tf_arrow, ↓ft_arrow]
  intro g hg
  refine weak_at [(0, .t (sl l)), (3, .imm [.int .i64 a])] .empty fewer_empty (by simp only [vP.down, vS.down, vE.down, qA, qB, qC, qD, qE, qF, qG, reduceIte, reduceCtorEq, qH, qI, qJ, ↓avp_condG, ↓tf_arrow, ↓ft_arrow, wP.down]; exact w2_imm (l := [.int .i64 a]) (ro := false) (Store.set_same _ _ _) rfl) ?_
  simp only [vP.down, vS.down, vE.down, qA, qB, qC, qD, qE, qF, qG, reduceIte, reduceCtorEq, qH, qI, qJ, ↓avp_condG, ↓tf_arrow, ↓ft_arrow, hp, argCl_dec, k_span_Has_slices_ContainsFunc___api_Run_api_Run_.down, A_slices_ContainsFunc___api_Run_api_Run_, p_slices_ContainsFunc___api_Run_api_Run_, r_slices_ContainsFunc___api_Run_api_Run_]
  simp only [vP.down, vS.down, vE.down, qA, qB, qC, qD, qE, qF, qG, reduceIte, reduceCtorEq, qH, qI, qJ, ↓avp_condG, ↓tf_arrow, ↓ft_arrow, vT.down]
noncomputable def c_span_Has : Con := fnScal A_span_Has p_span_Has r_span_Has
theorem ok_span_Has : COk Try.prog 73 c_span_Has := fn_sok sys_span_Has mixed Try.func73 (by kernel_rfl) geq_span_Has Try.ntmps73 (by rw [Try.results73]) (fun x => by unfold r_span_Has; simp [AV.scal]) fun x hx => ⟨Nat.le_of_ble_eq_true rfl, body_span_Has x hx⟩
end Go.Proofs.Ytofcmdkmhbbbjaa
namespace Go.Eng
def OW {α : Type} [Cell α] (s : Store) (v : AV) (l : List α) : Prop := (v = .t .nilS ∧ l = []) ∨ ∃ g, v = .tok g (Cell.width α) 0 l.length ∧ s.f g = some (.row (Cell.width α) (l.map Cell.enc) false)
theorem OW.lv {α : Type} [Cell α] {s : Store} {v : AV} {l : List α} (h : OW s v l) : LV s v l := h.elim (fun ⟨a, b⟩ => by subst a b; exact lv_nil) fun ⟨g, a, b⟩ => by subst a; exact lv_tok b
theorem OW.fresh {α : Type} [Cell α] {s : Store} {v : AV} {l : List α} {g : Nat} {x : Option Entry} (h : OW s v l) (hg : s.f g = none) : OW (s.set g x) v l :=
  h.imp id fun ⟨k, a, b⟩ => ⟨k, a, by rw [Store.set_other _ _ (ne_of b hg)]; exact b⟩
theorem append_ow {C : Ctx} {α : Type} [Cell α] {S : Store} {v y : AV} {l r : List α} {T e : TypeId} {n m : Nat} {z : List TV} {de : TyD} {g6 : Nat} {x : Entry} {K : AV → Store → Prop} (h : C.ty T = some ⟨.slice e, n, m, z⟩) (he : C.ty e = some de) (hw : de.size = Cell.width α) (hw0 : 0 < Cell.width α)
    (hv : OW S v l) (hg : S.f g6 = none) (hy : Shows (S.set g6 (some x)) y r) (h1 : l.length + r.length ≤ 140737488355328) (h2 : (l.length + r.length) * de.bytes ≤ 140737488355328)
    (hk : ∀ g' S', S'.f g' = some (.row (Cell.width α) ((l ++ r).map Cell.enc) false) → (∀ k e, S.f k = some e → Not v k → S'.f k = some e ∧ k ≠ g') → K (.tok g' (Cell.width α) 0 (l ++ r).length) S') : appendV C T v y K (S.set g6 (some x)) := by
  rcases hv with ⟨rfl, rfl⟩ | ⟨g, rfl, hr⟩
  · obtain ⟨y1, y2⟩ := hy
    unfold appendV appendT
    simp only [h, he, y1, hw, List.length_map, List.length_nil, Nat.zero_add] at *
    refine ⟨hw0, y2, by trivial, h1, h2, fun g hg' => ?_⟩
    refine hk g _ (Store.set_same _ _ _) fun k e hs _ => ?_
    have n1 : k ≠ g6 := ne_of hs hg
    have n2 : k ≠ g := ne_of hs (Store.old_none hg')
    exact ⟨by rw [Store.set_other _ _ n2, Store.set_other _ _ n1]; exact hs, n2⟩
  · have hn : g ≠ g6 := ne_of hr hg
    refine append_tok h he hw hw0 ((Store.set_other _ _ hn).trans hr) hy h1 h2 fun g' hg' => hk g' _ (Store.set_same _ _ _) fun k e hs hnk => ?_
    have n1 : k ≠ g6 := ne_of hs hg
    have n2 : k ≠ g' := ne_of hs (Store.old_none hg')
    have n3 : k ≠ g := fun hh => hnk _ _ _ (by rw [hh])
    exact ⟨by rw [Store.set_other _ _ n2, Store.set_other _ _ n3, Store.set_other _ _ n1]; exact hs, n2⟩
end Go.Eng
namespace Go.Proofs.Ytofcmdkmhbbbjaa
open Go Go.Eng
set_option maxRecDepth 100000
def behindL (l : List TRun) (r : TRun) : List TRun :=
  if 0 < l.length ∧ (l.getD (l.length - 1) default).To = r.From then l.set (l.length - 1) ⟨(l.getD (l.length - 1) default).From, r.To⟩ else l ++ [r]
theorem behindL_len {l : List TRun} {r : TRun} : (behindL l r).length ≤ l.length + 1 := by
  unfold behindL; split <;> simp
def Keeps (s S : Store) (v v' : AV) : Prop := ∀ k e, s.f k = some e → Not v k → S.f k = some e ∧ Not v' k
theorem idx_nilS {C : Ctx} {T e : TypeId} {n m : Nat} {z : List TV} {k : IntKind} {i : Int} (h : C.ty T = some ⟨.slice e, n, m, z⟩) : idxB C T (.t .nilS) (.t (.int k i)) = .no := by
  simp only [idxB, h]
theorem no_av {gs : List Nat} : B.no.av gs = .unk := rfl
theorem fa_unk {C : Ctx} {T : TypeId} {n : Nat} : fieldAddrB C T .unk n = .no := by
  unfold fieldAddrB
  cases C.ty T with
  | none => rfl
  | some d =>
    dsimp only
    cases d.sh with
    | struct fs =>
      dsimp only
      cases fs[n]? with
      | none => rfl
      | some p =>
        dsimp only
        cases C.ty p.1 <;> rfl
    | _ => rfl
theorem liveL_unk {s : Store} : liveL s .unk = True := rfl
def G_span_behind : GCode := .seq (.region [⟨(some 3), none, .box 69 (.tmp 1)⟩, ⟨(some 4), none, .assign (.const (.slice none 0 0))⟩]) (.seq (.seq (.region [⟨(some 6), none, .move (.tmp 0)⟩, ⟨(some 7), none, .call ⟨.builtin .len, #[.tmp 6], #[52]⟩⟩, ⟨(some 5), none, .assign (.tmp 7)⟩]) (.seq (.region [⟨(some 8), none, .move (.tmp 5)⟩, ⟨(some 9), none, .binOp .gtr 3 (.tmp 8) (.const (.int .i64 0)) 3⟩, ⟨(some 10), none, .move (.tmp 9)⟩, ⟨(some 11), (some (10, true)), .move (.tmp 0)⟩, ⟨(some 12), (some (10, true)), .move (.tmp 5)⟩, ⟨(some 13), (some (10, true)), .binOp .sub 3 (.tmp 12) (.const (.int .i64 1)) 3⟩, ⟨(some 14), (some (10, true)), .indexAddr 52 (.tmp 11) (.tmp 13)⟩, ⟨(some 15), (some (10, true)), .fieldAddr 69 (.tmp 14) 1⟩, ⟨(some 16), (some (10, true)), .load 3 (.tmp 15)⟩, ⟨(some 17), (some (10, true)), .fieldAddr 69 (.tmp 3) 0⟩, ⟨(some 18), (some (10, true)), .load 3 (.tmp 17)⟩, ⟨(some 19), (some (10, true)), .binOp .eql 3 (.tmp 16) (.tmp 18) 3⟩, ⟨(some 20), none, .pick (.tmp 10) (.tmp 19) (.const (.bool false))⟩]) (.cond (.tmp 20) (.seq (.region [⟨(some 21), none, .move (.tmp 0)⟩, ⟨(some 22), none, .move (.tmp 5)⟩, ⟨(some 23), none, .binOp .sub 3 (.tmp 22) (.const (.int .i64 1)) 3⟩, ⟨(some 24), none, .fieldAddr 69 (.tmp 3) 1⟩, ⟨(some 25), none, .load 3 (.tmp 24)⟩, ⟨(some 26), none, .indexAddr 52 (.tmp 21) (.tmp 23)⟩, ⟨(some 27), none, .fieldAddr 69 (.tmp 26) 1⟩, ⟨none, none, .store 3 (.tmp 27) (.tmp 25)⟩]) (.seq (.region [⟨(some 28), none, .move (.tmp 0)⟩, ⟨(some 4), none, .assign (.tmp 28)⟩]) (.ret))) (.skip)))) (.seq (.region [⟨(some 29), none, .move (.tmp 0)⟩, ⟨(some 30), none, .load 69 (.tmp 3)⟩, ⟨(some 31), none, .buildSlice 52 1 #[(0, .tmp 30)]⟩, ⟨(some 32), none, .call ⟨.builtin .append, #[.tmp 29, .tmp 31], #[52, 52]⟩⟩, ⟨(some 4), none, .assign (.tmp 32)⟩]) (.ret)))
noncomputable def l_span_behind : List (Nat × Con) := []
noncomputable abbrev K_span_behind : Ctx := ctx (cl l_span_behind)
theorem geq_span_behind : gof K_span_behind Try.f94 = some G_span_behind.strip := by kernel_rfl
theorem sys_span_behind : Go.Eng.Sys Try.prog K_span_behind := sys_of' (l := []) trivial
def m_span_behind : List Bool := [true, false]
def F_span_behind (xs : List AV) (s : Store) (Q : AV → Store → Prop) : Prop := ∃ (v : AV) (l : List TRun) (r : TRun), xs = [v, .agg [.t (.int .i64 r.From), .t (.int .i64 r.To)]] ∧ OW s v l ∧ l.length ≤ 1099511627776 ∧
  ∀ v' S, OW S v' (behindL l r) → Keeps s S v v' → Q v' S
theorem mono_span_behind (xs : List AV) (s : Store) (Q Q' : AV → Store → Prop) (hq : ∀ r t, Q r t → Q' r t) : F_span_behind xs s Q → F_span_behind xs s Q' := fun ⟨v, l, r, a, b, c, d⟩ => ⟨v, l, r, a, b, c, fun v' S h k => hq _ _ (d v' S h k)⟩
theorem ow_ex {α : Type} [Cell α] (s : Store) (l : List α) (v : AV) : ∃ v' S, OW S v' l ∧ Keeps s S v v' := by
  obtain ⟨N, hN⟩ := s.fin
  have hf : s.f N = none := hN N (Nat.le_refl _)
  refine ⟨.tok N (Cell.width α) 0 l.length, s.set N (some (.row (Cell.width α) (l.map Cell.enc) false)), .inr ⟨N, rfl, Store.set_same _ _ _⟩, fun k e hk _ => ?_⟩
  have hne : k ≠ N := fun h => by rw [h, hf] at hk; cases hk
  exact ⟨by rw [Store.set_other _ _ hne]; exact hk, not_tok (Ne.symm hne)⟩
theorem ex_span_behind (xs : List AV) (s : Store) (Q : AV → Store → Prop) : F_span_behind xs s Q → ∃ r t, Q r t := fun ⟨v, l, r, _, _, _, d⟩ =>
  let ⟨v', S, h, k⟩ := ow_ex s (behindL l r) v
  ⟨_, _, d v' S h k⟩
set_option maxRecDepth 100000 in
theorem body_span_behind (xs : List AV) (s : Store) (Q : AV → Store → Prop) (h : F_span_behind xs s Q) : xs.length ≤ 33 ∧ avp K_span_behind G_span_behind (Ret K_span_behind [.tmp 4] fun r s' => ∃ s'', Sub s'' s' ∧ Q r s'') (entry xs s) := by
  obtain ⟨v, l, r, rfl, hv, hl, hq⟩ := h
  refine ⟨by simp, ?_⟩
  have happ : ∀ g3, s.f g3 = none → behindL l r = l ++ [r] → ∀ g6, (s.set g3 (some (.box [.t (.int .i64 r.From), .t (.int .i64 r.To)] false))).f g6 = none → ∀ K : AV → Store → Prop,
      (∀ v' S', (∃ s'', Sub s'' S' ∧ Q v' s'') → K v' S') → appendV K_span_behind 52 v (.tok g6 2 0 1) K ((s.set g3 (some (.box [.t (.int .i64 r.From), .t (.int .i64 r.To)] false))).set g6 (some (.row 2 [[.int .i64 r.From, .int .i64 r.To]] false))) := by
    intro g3 hg3 hb g6 hg6 K hK
    have hv3 : ∀ x, OW (s.set g3 x) v l := fun x => hv.fresh hg3
    refine append_ow ty_Lapi_Run ty_api_Run rfl (by decide) (hv3 _) hg6 (shows_one (x := r) rfl rfl rfl) (by simp; omega) (by simp; omega) fun g' S' hr keep => ?_
    refine hK _ _ ⟨S', fun _ _ h => h, hq _ _ (.inr ⟨g', by rw [hb], by rw [hb]; exact hr⟩) fun k e hk hn => ?_⟩
    have hne : k ≠ g3 := fun h => by rw [h, hg3] at hk; cases hk
    obtain ⟨a, b⟩ := keep k e (by rw [Store.set_other _ _ hne]; exact hk) hn
    exact ⟨a, not_tok (Ne.symm b)⟩
  have hlen : lenB K_span_behind 52 v = .val True (.t (.int .i64 (l.length : Int))) := hv.lv.len ty_Lapi_Run
  have hone := hv.lv.one
  have hst := hv.lv.strip
  unfold G_span_behind
  rcases hv with ⟨rfl, rfl⟩ | ⟨g, rfl, hr⟩
  · have hb : behindL [] r = [] ++ [r] := rfl
    have hc : ¬ ((0 : Int) < ((0 : Nat) : Int)) := by omega
    have hni : idxB K_span_behind 52 (.t .nilS) (.t (.int .i64 (IntKind.i64.wrap (0 - 1)))) = .no := idx_nilS ty_Lapi_Run
    simp only [vP.down, vS.down, vE.down, qA, qB, qC, qD, qE, qF, qG, reduceIte, reduceCtorEq, qH, qI, qJ, ↓avp_condG, ↓tf_arrow, ↓ft_arrow, hlen, hone, hc, hni, no_av, fa_unk, liveL_unk, pick_of, gt_iff_lt, false_implies]
    intro g3 hg3
    refine ⟨⟨rfl, rfl⟩, ⟨rfl, rfl⟩, fun g6 hg6 => ?_⟩
    refine happ g3 hg3 hb g6 hg6 _ fun v' S' h => ?_
    simp only [vP.down, vS.down, vE.down, qA, qB, qC, qD, qE, qF, qG, reduceIte, reduceCtorEq, qH, qI, qJ, ↓avp_condG, ↓tf_arrow, ↓ft_arrow, vT.down]
    exact h
  have cw : Cell.width TRun = 2 := rfl
  rw [cw] at hr happ
  have hg3r : ∀ g3, s.f g3 = none → ∀ x, (s.set g3 x).f g = some (.row 2 (l.map Cell.enc) false) := fun g3 h x => by rw [Store.set_other _ _ (ne_of hr h)]; exact hr
  by_cases h0 : l.length = 0
  · have hb : behindL l r = l ++ [r] := if_neg (by omega)
    have hc : ¬ ((0 : Int) < ((0 : Nat) : Int)) := by omega
    rw [h0] at hlen
    simp only [vP.down, vS.down, vE.down, qA, qB, qC, qD, qE, qF, qG, reduceIte, reduceCtorEq, qH, qI, qJ, ↓avp_condG, ↓tf_arrow, ↓ft_arrow, hlen, hone, hc, h0, pick_of, gt_iff_lt, false_implies]
    intro g3 hg3
    have hr3 := hg3r g3 hg3 (some (.box [.t (.int .i64 r.From), .t (.int .i64 r.To)] false))
    simp only [vP.down, vS.down, vE.down, qA, qB, qC, qD, qE, qF, qG, reduceIte, reduceCtorEq, qH, qI, qJ, ↓avp_condG, ↓tf_arrow, ↓ft_arrow, hr3]
    intro g6 hg6
    have hh := happ g3 hg3 hb g6 hg6
    rw [h0] at hh
    refine hh _ fun v' S' h => ?_
    simp only [vP.down, vS.down, vE.down, qA, qB, qC, qD, qE, qF, qG, reduceIte, reduceCtorEq, qH, qI, qJ, ↓avp_condG, ↓tf_arrow, ↓ft_arrow, vT.down]
    exact h
  obtain ⟨n, hn⟩ : ∃ n, l.length = n + 1 := ⟨l.length - 1, by omega⟩
  have hix : IntKind.i64.wrap (((n + 1 : Nat) : Int) - 1) = (n : Int) := by rw [IntWalk.i64_in _ (by omega)]; omega
  have hll : (l.map Cell.enc).length = n + 1 := by rw [List.length_map, hn]
  have hrg : (l.map Cell.enc).getD n [] = [.int .i64 (l.getD n default).From, .int .i64 (l.getD n default).To] := by
    rw [row_get (by omega)]; rfl
  have hin : n < n + 1 := by omega
  have hin' : (n : Int) < ((n + 1 : Nat) : Int) := by omega
  have hn0 : (0 : Int) ≤ (n : Int) := by omega
  have hc : (0 : Int) < ((n + 1 : Nat) : Int) := by omega
  rw [hn] at hlen
  by_cases c1 : (l.getD n default).To = r.From
  · simp only [vP.down, vS.down, vE.down, qA, qB, qC, qD, qE, qF, qG, reduceIte, reduceCtorEq, qH, qI, qJ, ↓avp_condG, ↓tf_arrow, ↓ft_arrow, hlen, hone, hc, gt_iff_lt, cw, hix, hn]
    intro g3 hg3
    have hr3 := hg3r g3 hg3 (some (.box [.t (.int .i64 r.From), .t (.int .i64 r.To)] false))
    simp only [vP.down, vS.down, vE.down, qA, qB, qC, qD, qE, qF, qG, reduceIte, reduceCtorEq, qH, qI, qJ, ↓avp_condG, ↓tf_arrow, ↓ft_arrow, hr3, cw, hix, hll, hin, hin', hn0, hrg, c1, pick_ot, false_implies]
    refine ⟨by omega, by omega, by simp, ?_⟩
    simp only [vP.down, vS.down, vE.down, qA, qB, qC, qD, qE, qF, qG, reduceIte, reduceCtorEq, qH, qI, qJ, ↓avp_condG, ↓tf_arrow, ↓ft_arrow, vT.down]
    have hb : behindL l r = l.set n ⟨(l.getD n default).From, r.To⟩ := by
      rw [behindL, hn, Nat.add_sub_cancel, if_pos ⟨by omega, c1⟩]
    have epr : putRow (l.map Cell.enc) n 1 [.int .i64 r.To] = (behindL l r).map Cell.enc := by
      rw [hb, List.map_set, putRow, hrg]
      rfl
    rw [epr]
    have hlb : (behindL l r).length = n + 1 := by rw [hb, List.length_set, hn]
    refine ⟨_, fun _ _ h => h, hq _ _ (.inr ⟨g, by rw [hlb]; rfl, Store.set_same _ _ _⟩) fun k e hk hnk => ?_⟩
    have n1 : k ≠ g := fun h => hnk _ _ _ (by rw [h])
    have n3 : k ≠ g3 := ne_of hk hg3
    exact ⟨by rw [Store.set_other _ _ n1, Store.set_other _ _ n3]; exact hk, not_tok fun h => n1 h.symm⟩
  · have hb : behindL l r = l ++ [r] := by rw [behindL, hn, Nat.add_sub_cancel, if_neg (fun h => c1 h.2)]
    simp only [vP.down, vS.down, vE.down, qA, qB, qC, qD, qE, qF, qG, reduceIte, reduceCtorEq, qH, qI, qJ, ↓avp_condG, ↓tf_arrow, ↓ft_arrow, hlen, hone, hc, gt_iff_lt, cw, hix, hn]
    intro g3 hg3
    have hr3 := hg3r g3 hg3 (some (.box [.t (.int .i64 r.From), .t (.int .i64 r.To)] false))
    simp only [vP.down, vS.down, vE.down, qA, qB, qC, qD, qE, qF, qG, reduceIte, reduceCtorEq, qH, qI, qJ, ↓avp_condG, ↓tf_arrow, ↓ft_arrow, hr3, cw, hix, hll, hin, hin', hn0, hrg, c1, pick_ot, false_implies]
    refine ⟨by omega, fun g6 hg6 => ?_⟩
    have hh := happ g3 hg3 hb g6 hg6
    rw [hn] at hh
    refine hh _ fun v' S' h => ?_
    simp only [vP.down, vS.down, vE.down, qA, qB, qC, qD, qE, qF, qG, reduceIte, reduceCtorEq, qH, qI, qJ, ↓avp_condG, ↓tf_arrow, ↓ft_arrow, vT.down]
    exact h
noncomputable def c_span_behind : Con := .gen m_span_behind F_span_behind
theorem ok_span_behind : COk Try.prog 94 c_span_behind := fn_gok sys_span_behind mixed Try.func94 (by kernel_rfl) geq_span_behind Try.ntmps94 (by rw [Try.results94]) mono_span_behind ex_span_behind body_span_behind
end Go.Proofs.Ytofcmdkmhbbbjaa
namespace Go.Proofs.Ytofcmdkmhbbbjaa
open Go Go.Eng
set_option maxRecDepth 100000
theorem merge_sortL (l : List Int) : (l.mergeSort fun x y => decide (x ≤ y)) = sortL l := by
  have hp := List.mergeSort_perm l fun x y => decide (x ≤ y)
  have hs : (l.mergeSort fun x y => decide (x ≤ y)).Pairwise (· ≤ ·) := by
    have := List.pairwise_mergeSort (le := fun x y : Int => decide (x ≤ y)) (fun a b c h1 h2 => by simp only [decide_eq_true_eq] at *; omega) (fun a b => by simp only [Bool.or_eq_true, decide_eq_true_eq]; omega) l
    exact this.imp fun h => by simpa using h
  exact up_sortL hp (up_of_pw hs)
def m_slices_Sort___int_int_ : List Bool := [true]
abbrev F_slices_Sort___int_int_ : List AV → Store → (AV → Store → Prop) → Prop := sortF sortL
noncomputable def c_slices_Sort___int_int_ : Con := .gen m_slices_Sort___int_int_ F_slices_Sort___int_int_
theorem ok_slices_Sort___int_int_ : COk Try.prog 92 c_slices_Sort___int_int_ :=
  ⟨⟨_, Try.func92, by kernel_rfl, by kernel_rfl⟩, sort_ok sortL_len (fun blk off cap zs w h1 h2 h3 => by
    have := slices_Sort_int blk off cap zs w h1 h2 h3
    rwa [merge_sortL] at this) slices_Sort_int_none⟩
def cpL (l : List Int) : List Int := Lib.compact l
theorem cpL_len (l : List Int) : (cpL l).length ≤ l.length := by
  simp only [cpL, Lib.compact, Lib.compactUpTo, List.length_map]
  exact Nat.le_trans (List.length_filter_le _ _) (by simp)
def m_slices_Compact___int_int_ : List Bool := [true]
abbrev F_slices_Compact___int_int_ : List AV → Store → (AV → Store → Prop) → Prop := compF cpL
noncomputable def c_slices_Compact___int_int_ : Con := .gen m_slices_Compact___int_int_ F_slices_Compact___int_int_
theorem ok_slices_Compact___int_int_ : COk Try.prog 93 c_slices_Compact___int_int_ :=
  ⟨⟨_, Try.func93, by kernel_rfl, by kernel_rfl⟩, comp_ok cpL_len (fun blk off cap zs w h1 h2 h3 => slices_Compact_int blk off cap zs w h1 h2 h3) slices_Compact_int_empty⟩
def m_slices_Grow___api_Run_api_Run_ : List Bool := [true, true]
abbrev F_slices_Grow___api_Run_api_Run_ : List AV → Store → (AV → Store → Prop) → Prop := growF 2 16
noncomputable def c_slices_Grow___api_Run_api_Run_ : Con := .gen m_slices_Grow___api_Run_api_Run_ F_slices_Grow___api_Run_api_Run_
noncomputable def iR := (Try.prog.info? 69).getD default
theorem iR_info : Try.prog.info? 69 = some iR := by kernel_rfl
theorem iR_size : iR.size = 2 := by kernel_rfl
theorem iR_bytes : iR.bytes = 16 := by kernel_rfl
theorem ok_slices_Grow___api_Run_api_Run_ : COk Try.prog 114 c_slices_Grow___api_Run_api_Run_ :=
  ⟨⟨_, Try.func114, by kernel_rfl, by kernel_rfl⟩, grow_ok (T := 69) (fun w => Any8.slices_Grow_room laysGrow none 0 0 0 w (by omega) (by omega) (by omega) (by omega)) fun n w h0 hb hn => by
    have h := Any8.slices_Grow_grow laysGrow iR (.agg #[.int .i64 0, .int .i64 0]) iR_info (by kernel_rfl) (by rw [iR_size]; omega) none 0 0 n [] w (Nat.le_refl _) (by omega) (by rw [iR_bytes]; omega) (by omega) (by simp) (fun _ => rfl) (fun a ha => by cases ha)
    refine Calls.mono h ?_
    rintro e w' ⟨rfl, rfl⟩
    refine ⟨_, _, rfl, grownCap_le_maxLen _ _ _ _ (by unfold maxLen; omega), ?_, rfl⟩
    have hg := grownCap_ge w (0 + n) 0 (laysGrow_ren.t 25)
    simp only [Array.size_append, size_zeroCells]
    show 0 + (0 + n - 0) * 2 + (_ - (0 + n)) * 2 = _ * 2
    omega⟩
end Go.Proofs.Ytofcmdkmhbbbjaa
namespace Go.Proofs.Ytofcmdkmhbbbjaa
open Go Go.Eng
set_option maxRecDepth 100000
theorem flat_next {α : Type} {L : List (List α)} {i : Nat} (h : i < L.length) : (L.take (i + 1)).flatten = (L.take i).flatten ++ L.getD i default := by
  rw [List.take_add_one, List.getD_eq_getElem?_getD, List.getElem?_eq_getElem h, List.flatten_append]
  simp only [Option.toList_some, List.flatten_cons, List.flatten_nil, List.append_nil, Option.getD_some]
theorem grow_lv {n : Nat} {s : Store} {Q : AV → Store → Prop} (hb : n * 16 ≤ 140737488355328) (hn : n ≤ 4611686018427387904) (hq : ∀ v S, LV S v ([] : List TRun) → Q v S) : growF 2 16 [.t .nilS, .t (.int .i64 (n : Int))] s Q :=
  ⟨n, rfl, hb, hn, fun _ => hq _ _ lv_nil, fun _ g _ => hq _ _ (lv_at (α := TRun) (l := []) (ro := false) rfl (Store.set_same _ _ _))⟩
theorem flat_le {α : Type} {L : List (List α)} {i : Nat} : (L.take i).flatten.length ≤ L.flatten.length := by
  conv => rhs; rw [← List.take_append_drop i L, List.flatten_append, List.length_append]
  omega
def G_slices_Concat___api_Run_api_Run_ : GCode := .seq (.region [⟨(some 2), none, .assign (.const (.slice none 0 0))⟩]) (.seq (.region [⟨(some 3), none, .assign (.const (.int .i64 0))⟩]) (.seq (.seq (.region [⟨(some 9), none, .move (.tmp 0)⟩, ⟨(some 10), none, .call ⟨.builtin .len, #[.tmp 9], #[153]⟩⟩, ⟨(some 11), none, .move (.const (.int .i64 0))⟩]) (.block 0 (.loop (.seq .weak (.seq (.region [⟨(some 12), none, .binOp .lss 3 (.tmp 11) (.tmp 10) 3⟩]) (.seq (.cond (.tmp 12) (.skip) (.exit 0)) (.seq (.block 1 (.seq (.region [⟨(some 13), none, .indexAddr 153 (.tmp 9) (.tmp 11)⟩, ⟨(some 14), none, .load 52 (.tmp 13)⟩, ⟨(some 5), none, .assign (.tmp 14)⟩]) (.seq (.region [⟨(some 15), none, .move (.tmp 3)⟩, ⟨(some 16), none, .move (.tmp 5)⟩, ⟨(some 17), none, .call ⟨.builtin .len, #[.tmp 16], #[52]⟩⟩, ⟨(some 18), none, .binOp .add 3 (.tmp 15) (.tmp 17) 3⟩, ⟨(some 3), none, .assign (.tmp 18)⟩]) (.seq (.region [⟨(some 19), none, .move (.tmp 3)⟩, ⟨(some 20), none, .binOp .lss 3 (.tmp 19) (.const (.int .i64 0)) 3⟩]) (.cond (.tmp 20) (.region [⟨(some 21), none, .makeInterface 9 (.const (.string ⟨#[108, 101, 110, 32, 111, 117, 116, 32, 111, 102, 32, 114, 97, 110, 103, 101]⟩))⟩, ⟨none, none, .panic (.tmp 21)⟩]) (.skip)))))) (.region [⟨(some 22), none, .binOp .add 3 (.tmp 11) (.const (.int .i64 1)) 3⟩, ⟨(some 11), none, .move (.tmp 22)⟩])))))))) (.seq (.region [⟨(some 23), none, .move (.tmp 3)⟩, ⟨(some 24), none, .call ⟨.value (.func 114), #[.const (.slice none 0 0), .tmp 23], #[52, 3]⟩⟩, ⟨(some 6), none, .assign (.tmp 24)⟩]) (.seq (.seq (.region [⟨(some 25), none, .move (.tmp 0)⟩, ⟨(some 26), none, .call ⟨.builtin .len, #[.tmp 25], #[153]⟩⟩, ⟨(some 27), none, .move (.const (.int .i64 0))⟩]) (.block 2 (.loop (.seq .weak (.seq (.region [⟨(some 28), none, .binOp .lss 3 (.tmp 27) (.tmp 26) 3⟩]) (.seq (.cond (.tmp 28) (.skip) (.exit 2)) (.seq (.block 3 (.seq (.region [⟨(some 29), none, .indexAddr 153 (.tmp 25) (.tmp 27)⟩, ⟨(some 30), none, .load 52 (.tmp 29)⟩, ⟨(some 8), none, .assign (.tmp 30)⟩]) (.region [⟨(some 31), none, .move (.tmp 6)⟩, ⟨(some 32), none, .move (.tmp 8)⟩, ⟨(some 33), none, .call ⟨.builtin .append, #[.tmp 31, .tmp 32], #[52, 52]⟩⟩, ⟨(some 6), none, .assign (.tmp 33)⟩]))) (.region [⟨(some 34), none, .binOp .add 3 (.tmp 27) (.const (.int .i64 1)) 3⟩, ⟨(some 27), none, .move (.tmp 34)⟩])))))))) (.seq (.region [⟨(some 35), none, .move (.tmp 6)⟩, ⟨(some 2), none, .assign (.tmp 35)⟩]) (.ret))))))
noncomputable def l_slices_Concat___api_Run_api_Run_ : List (Nat × Con) := [(114, c_slices_Grow___api_Run_api_Run_)]
noncomputable abbrev K_slices_Concat___api_Run_api_Run_ : Ctx := ctx (cl l_slices_Concat___api_Run_api_Run_)
theorem geq_slices_Concat___api_Run_api_Run_ : gof K_slices_Concat___api_Run_api_Run_ Try.f102 = some G_slices_Concat___api_Run_api_Run_.strip := by kernel_rfl
theorem sys_slices_Concat___api_Run_api_Run_ : Go.Eng.Sys Try.prog K_slices_Concat___api_Run_api_Run_ := sys_of' ⟨ok_slices_Grow___api_Run_api_Run_, trivial⟩
theorem hm_slices_Concat___api_Run_api_Run_ : ConMono K_slices_Concat___api_Run_api_Run_ := conMono_of sys_slices_Concat___api_Run_api_Run_.con
noncomputable def k_slices_Concat___api_Run_api_Run__slices_Grow___api_Run_api_Run_ := PLift.up (call_gen (C := K_slices_Concat___api_Run_api_Run_) (f := 114) (modes := m_slices_Grow___api_Run_api_Run_) (F := F_slices_Grow___api_Run_api_Run_) rfl)
def A_slices_Concat___api_Run_api_Run_ := Arms.cons (argT (List (List TRun))) Arms.nil
def p_slices_Concat___api_Run_api_Run_ (x : List (List TRun) × Unit) : Prop := x.1.length ≤ 1000000 ∧ x.1.flatten.length ≤ 1099511627776
def r_slices_Concat___api_Run_api_Run_ (x : List (List TRun) × Unit) : AV := .t (sl x.1.flatten)
set_option maxRecDepth 100000 in
theorem body_slices_Concat___api_Run_api_Run_ (x : List (List TRun) × Unit) (hp : p_slices_Concat___api_Run_api_Run_ x) : avp K_slices_Concat___api_Run_api_Run_ G_slices_Concat___api_Run_api_Run_ (Ret K_slices_Concat___api_Run_api_Run_ [.tmp 2] fun v s' => Frz s' v (r_slices_Concat___api_Run_api_Run_ x)) (entry (A_slices_Concat___api_Run_api_Run_.enc x) .empty) := by
  obtain ⟨L, ⟨⟩⟩ := x
  obtain ⟨hL, hF⟩ : L.length ≤ 1000000 ∧ L.flatten.length ≤ 1099511627776 := hp
  change avp _ _ (Ret _ _ fun v s' => Frz1 s' v (sl L.flatten)) (entry [.t (sl L)] .empty)
  unfold G_slices_Concat___api_Run_api_Run_
  simp only [vP.down, vS.down, vE.down, qA, qB, qC, qD, qE, qF, qG, reduceIte, reduceCtorEq, qH, qI, qJ, ↓avp_condG, ↓tf_arrow, ↓ft_arrow]
  refine loop_weak hm_slices_Concat___api_Run_api_Run_ (fun k σ => ∃ i : Nat, k = L.length - i ∧ i ≤ L.length ∧ σ = mkS [(0, .t (sl L)), (3, .t (.int .i64 ((L.take i).flatten.length : Nat))), (9, .t (sl L)), (10, .t (.int .i64 (L.length : Nat))), (11, .t (.int .i64 (i : Nat)))] .empty) ⟨0, rfl, by omega, rfl⟩ (wk_to fewer_refl (by simp only [vP.down, vS.down, vE.down, qA, qB, qC, qD, qE, qF, qG, reduceIte, reduceCtorEq, qH, qI, qJ, ↓avp_condG, ↓tf_arrow, ↓ft_arrow, wP.down, Int.natCast_zero, List.take_zero, List.flatten_nil, List.length_nil])) ?_
  rintro k _ ⟨i, rfl, hi, rfl⟩
  have hi1 : IntKind.i64.wrap ((i : Int) + 1) = ((i + 1 : Nat) : Int) := by rw [IntWalk.i64_in _ (by omega)]; rfl
  by_cases hlt : i < L.length
  case pos =>
    have hlt' : (i : Int) < (L.length : Int) := by omega
    have hfn := flat_next hlt
    have hle := flat_le (L := L) (i := i + 1)
    have hw : IntKind.i64.wrap (((L.take i).flatten.length : Int) + ((L.getD i default).length : Int)) = ((L.take (i + 1)).flatten.length : Int) := by
      rw [hfn, List.length_append] at hle ⊢
      rw [IntWalk.i64_in _ (by omega)]; omega
    have hneg : ¬ (((L.take (i + 1)).flatten.length : Int) < 0) := by omega
    simp only [vP.down, vS.down, vE.down, qA, qB, qC, qD, qE, qF, qG, reduceIte, reduceCtorEq, qH, qI, qJ, ↓avp_condG, ↓tf_arrow, ↓ft_arrow, hlt', hw, hneg]
    refine ⟨by omega, ?_⟩
    exact round_to (L.length - (i + 1)) [(0, .t (sl L)), (3, .t (.int .i64 ((L.take (i + 1)).flatten.length : Nat))), (9, .t (sl L)), (10, .t (.int .i64 (L.length : Nat))), (11, .t (.int .i64 (i + 1 : Nat)))] .empty (by omega) fewer_refl (by simp only [vP.down, vS.down, vE.down, qA, qB, qC, qD, qE, qF, qG, reduceIte, reduceCtorEq, qH, qI, qJ, ↓avp_condG, ↓tf_arrow, ↓ft_arrow, wP.down, hi1, hw]) ⟨i + 1, rfl, by omega, rfl⟩
  obtain rfl : i = L.length := by omega
  have hge : ¬ ((L.length : Int) < (L.length : Int)) := by omega
  simp only [vP.down, vS.down, vE.down, qA, qB, qC, qD, qE, qF, qG, reduceIte, reduceCtorEq, qH, qI, qJ, ↓avp_condG, ↓tf_arrow, ↓ft_arrow, hge, List.take_length, k_slices_Concat___api_Run_api_Run__slices_Grow___api_Run_api_Run_.down, m_slices_Grow___api_Run_api_Run_]
  refine grow_lv (by omega) (by omega) fun v S hv => ?_
  refine loop_weak hm_slices_Concat___api_Run_api_Run_ (fun k σ => ∃ (i : Nat) (v : AV) (S : Store), k = L.length - i ∧ i ≤ L.length ∧ LV S v (L.take i).flatten ∧ σ = mkS [(6, v), (25, .t (sl L)), (26, .t (.int .i64 (L.length : Nat))), (27, .t (.int .i64 (i : Nat)))] S) ⟨0, v, S, rfl, by omega, hv, rfl⟩ (wk_to fewer_refl (by simp only [vP.down, vS.down, vE.down, qA, qB, qC, qD, qE, qF, qG, reduceIte, reduceCtorEq, qH, qI, qJ, ↓avp_condG, ↓tf_arrow, ↓ft_arrow, wP.down, Int.natCast_zero])) ?_
  rintro k _ ⟨i, v, S, rfl, hi, hv, rfl⟩
  have hi1 : IntKind.i64.wrap ((i : Int) + 1) = ((i + 1 : Nat) : Int) := by rw [IntWalk.i64_in _ (by omega)]; rfl
  by_cases hlt : i < L.length
  case pos =>
    have hlt' : (i : Int) < (L.length : Int) := by omega
    have hfn := flat_next hlt
    have hle := flat_le (L := L) (i := i + 1)
    rw [hfn, List.length_append] at hle
    have hll := (L.take i).flatten.length
    simp only [vP.down, vS.down, vE.down, qA, qB, qC, qD, qE, qF, qG, reduceIte, reduceCtorEq, qH, qI, qJ, ↓avp_condG, ↓tf_arrow, ↓ft_arrow, hlt']
    refine ⟨by omega, ?_⟩
    refine append_lv ty_Lapi_Run ty_api_Run rfl (by decide) hv shows_sl (by omega) (by show (_ + _) * 16 ≤ _; omega) fun v' S' hv' _ _ => ?_
    exact round_to (L.length - (i + 1)) [(6, v'), (25, .t (sl L)), (26, .t (.int .i64 (L.length : Nat))), (27, .t (.int .i64 (i + 1 : Nat)))] S' (by omega) fewer_refl (by simp only [vP.down, vS.down, vE.down, qA, qB, qC, qD, qE, qF, qG, reduceIte, reduceCtorEq, qH, qI, qJ, ↓avp_condG, ↓tf_arrow, ↓ft_arrow, wP.down, hi1]) ⟨i + 1, v', S', rfl, by omega, by rw [hfn]; exact hv', rfl⟩
  obtain rfl : i = L.length := by omega
  have hge : ¬ ((L.length : Int) < (L.length : Int)) := by omega
  rw [List.take_length] at hv
  simp only [vP.down, vS.down, vE.down, qA, qB, qC, qD, qE, qF, qG, reduceIte, reduceCtorEq, qH, qI, qJ, ↓avp_condG, ↓tf_arrow, ↓ft_arrow, hge]
  simp only [vP.down, vS.down, vE.down, qA, qB, qC, qD, qE, qF, qG, reduceIte, reduceCtorEq, qH, qI, qJ, ↓avp_condG, ↓tf_arrow, ↓ft_arrow, vT.down]
  exact hv.frz
noncomputable def c_slices_Concat___api_Run_api_Run_ : Con := fnCon A_slices_Concat___api_Run_api_Run_ p_slices_Concat___api_Run_api_Run_ r_slices_Concat___api_Run_api_Run_
theorem ok_slices_Concat___api_Run_api_Run_ : COk Try.prog 102 c_slices_Concat___api_Run_api_Run_ := fn_ok sys_slices_Concat___api_Run_api_Run_ mixed Try.func102 (by kernel_rfl) geq_slices_Concat___api_Run_api_Run_ Try.ntmps102 (by rw [Try.results102]) fun x hx => ⟨Nat.le_of_ble_eq_true rfl, body_slices_Concat___api_Run_api_Run_ x hx⟩
end Go.Proofs.Ytofcmdkmhbbbjaa
namespace Go.Eng
theorem sort_ow {S : Store} {v : AV} {l : List Int} {K : AV → Store → Prop} (h : OW S v l) (hl : l.length < 4611686018427387904)
    (hK : ∀ S', OW S' v (sortL l) → (∀ k e, S.f k = some e → Not v k → S'.f k = some e) → K (.tup []) S') : sortF sortL [v] S K := by
  rcases h with ⟨rfl, rfl⟩ | ⟨g, rfl, hr⟩
  · exact hK S (.inl ⟨rfl, rfl⟩) fun _ _ h _ => h
  · refine ⟨rfl, rfl, l, hr, rfl, hl, hK _ (.inr ⟨g, by rw [sortL_len], Store.set_same _ _ _⟩) fun k e hk hn => ?_⟩
    rw [Store.set_other _ _ (fun h => hn _ _ _ (by rw [h]))]; exact hk
def PV (S : Store) (v : AV) (l : List Int) : Prop := (v = .t .nilS ∧ l = []) ∨ ∃ g r, v = .tok g 1 0 l.length ∧ S.f g = some (.row 1 (intRow (l ++ r)) false)
theorem PV.frz {S : Store} {v : AV} {l : List Int} (h : PV S v l) : Frz1 S v (sl l) := by
  rcases h with ⟨rfl, rfl⟩ | ⟨g, r, rfl, hr⟩
  · exact .inr (.inl ⟨_, rfl, .inl rfl⟩)
  · refine .inr (.inr ⟨[g], ?_⟩)
    have e : ((intRow (l ++ r)).drop 0).take l.length = l.map Cell.enc := by
      rw [List.drop_zero, intRow, List.map_append, List.take_append_of_le_length (by simp), List.take_of_length_le (by simp)]
    simp only [Store.borrow1, hr, e, sl]
    rw [if_pos ⟨trivial, by rw [intRow_len, List.length_append]; omega⟩]
    rfl
theorem comp_pv {f : List Int → List Int} (hf : ∀ l, (f l).length ≤ l.length) {S : Store} {v : AV} {l : List Int} {K : AV → Store → Prop} (h : OW S v l) (hl : l.length < 4611686018427387904)
    (hK : ∀ v' S', PV S' v' (f l) → (∀ k e, S.f k = some e → Not v k → S'.f k = some e ∧ Not v' k) → K v' S') : compF f [v] S K := by
  rcases h with ⟨rfl, rfl⟩ | ⟨g, rfl, hr⟩
  · have e : f [] = [] := List.length_eq_zero_iff.1 (Nat.le_zero.1 (hf []))
    exact hK _ S (.inl ⟨rfl, e⟩) fun _ _ h _ => ⟨h, not_t⟩
  · refine ⟨rfl, rfl, l, hr, rfl, hl, hK _ _ (.inr ⟨g, _, rfl, Store.set_same _ _ _⟩) fun k e hk hn => ?_⟩
    have hne : k ≠ g := fun h => hn _ _ _ (by rw [h])
    exact ⟨by rw [Store.set_other _ _ hne]; exact hk, not_tok (Ne.symm hne)⟩
end Go.Eng
namespace Go.Proofs.Ytofcmdkmhbbbjaa
open Go Go.Eng
set_option maxRecDepth 100000
def endsOf (l : List TRun) : List Int := l.flatMap fun r => [r.From, r.To]
theorem endsOf_next {l : List TRun} {i : Nat} (h : i < l.length) : endsOf (l.take (i + 1)) = endsOf (l.take i) ++ [(l.getD i default).From, (l.getD i default).To] := by
  rw [List.take_add_one, List.getD_eq_getElem?_getD, List.getElem?_eq_getElem h, endsOf, List.flatMap_append]
  rfl
theorem endsOf_len : ∀ (l : List TRun), (endsOf l).length = 2 * l.length
  | [] => rfl
  | r :: t => by
    have := endsOf_len t
    unfold endsOf at this ⊢
    rw [List.flatMap_cons, List.length_append, this]; simp; omega
def edgesL (l m : List TRun) : List Int := cpL (sortL (endsOf (l ++ m)))
def G_span_rows_edges : GCode := .seq (.region [⟨(some 1), none, .box 128 (.tmp 0)⟩, ⟨(some 2), none, .assign (.const (.slice none 0 0))⟩]) (.seq (.region [⟨(some 3), none, .assign (.const (.slice none 0 0))⟩]) (.seq (.seq (.region [⟨(some 6), none, .fieldAddr 128 (.tmp 1) 0⟩, ⟨(some 7), none, .load 52 (.tmp 6)⟩, ⟨(some 8), none, .fieldAddr 128 (.tmp 1) 1⟩, ⟨(some 9), none, .load 52 (.tmp 8)⟩, ⟨(some 10), none, .buildSlice 153 2 #[(0, .tmp 7), (1, .tmp 9)]⟩, ⟨(some 11), none, .call ⟨.value (.func 102), #[.tmp 10], #[153]⟩⟩, ⟨(some 12), none, .call ⟨.builtin .len, #[.tmp 11], #[52]⟩⟩, ⟨(some 13), none, .move (.const (.int .i64 0))⟩]) (.block 0 (.loop (.seq .weak (.seq (.region [⟨(some 14), none, .binOp .lss 3 (.tmp 13) (.tmp 12) 3⟩]) (.seq (.cond (.tmp 14) (.skip) (.exit 0)) (.seq (.block 1 (.seq (.region [⟨(some 15), none, .indexAddr 52 (.tmp 11) (.tmp 13)⟩, ⟨(some 16), none, .load 69 (.tmp 15)⟩, ⟨(some 5), none, .alloc 69⟩, ⟨none, none, .store 69 (.tmp 5) (.tmp 16)⟩]) (.region [⟨(some 17), none, .move (.tmp 3)⟩, ⟨(some 18), none, .fieldAddr 69 (.tmp 5) 0⟩, ⟨(some 19), none, .load 3 (.tmp 18)⟩, ⟨(some 20), none, .fieldAddr 69 (.tmp 5) 1⟩, ⟨(some 21), none, .load 3 (.tmp 20)⟩, ⟨(some 22), none, .buildSlice 58 2 #[(0, .tmp 19), (1, .tmp 21)]⟩, ⟨(some 23), none, .call ⟨.builtin .append, #[.tmp 17, .tmp 22], #[58, 58]⟩⟩, ⟨(some 3), none, .assign (.tmp 23)⟩]))) (.region [⟨(some 24), none, .binOp .add 3 (.tmp 13) (.const (.int .i64 1)) 3⟩, ⟨(some 13), none, .move (.tmp 24)⟩])))))))) (.seq (.region [⟨(some 25), none, .move (.tmp 3)⟩, ⟨(some 26), none, .call ⟨.value (.func 92), #[.tmp 25], #[58]⟩⟩]) (.seq (.region [⟨(some 27), none, .move (.tmp 3)⟩, ⟨(some 28), none, .call ⟨.value (.func 93), #[.tmp 27], #[58]⟩⟩, ⟨(some 2), none, .assign (.tmp 28)⟩]) (.ret)))))
noncomputable def l_span_rows_edges : List (Nat × Con) := [(102, c_slices_Concat___api_Run_api_Run_), (92, c_slices_Sort___int_int_), (93, c_slices_Compact___int_int_)]
noncomputable abbrev K_span_rows_edges : Ctx := ctx (cl l_span_rows_edges)
theorem geq_span_rows_edges : gof K_span_rows_edges Try.f98 = some G_span_rows_edges.strip := by kernel_rfl
theorem sys_span_rows_edges : Go.Eng.Sys Try.prog K_span_rows_edges := sys_of' ⟨ok_slices_Concat___api_Run_api_Run_, ok_slices_Sort___int_int_, ok_slices_Compact___int_int_, trivial⟩
theorem hm_span_rows_edges : ConMono K_span_rows_edges := conMono_of sys_span_rows_edges.con
noncomputable def k_span_rows_edges_slices_Concat___api_Run_api_Run_ := PLift.up (call_fn (C := K_span_rows_edges) (f := 102) (A := A_slices_Concat___api_Run_api_Run_) (p := p_slices_Concat___api_Run_api_Run_) (r := r_slices_Concat___api_Run_api_Run_) rfl)
noncomputable def k_span_rows_edges_slices_Sort___int_int_ := PLift.up (call_gen (C := K_span_rows_edges) (f := 92) (modes := m_slices_Sort___int_int_) (F := F_slices_Sort___int_int_) rfl)
noncomputable def k_span_rows_edges_slices_Compact___int_int_ := PLift.up (call_gen (C := K_span_rows_edges) (f := 93) (modes := m_slices_Compact___int_int_) (F := F_slices_Compact___int_int_) rfl)
def A_span_rows_edges := Arms.cons (argA Trows) Arms.nil
def p_span_rows_edges (x : Trows × Unit) : Prop := x.1.l.length + x.1.m.length ≤ 1099511627776
def r_span_rows_edges (x : Trows × Unit) : AV := .t (sl (edgesL x.1.l x.1.m))
set_option maxRecDepth 100000 in
theorem body_span_rows_edges (x : Trows × Unit) (hp : p_span_rows_edges x) : avp K_span_rows_edges G_span_rows_edges (Ret K_span_rows_edges [.tmp 2] fun v s' => Frz s' v (r_span_rows_edges x)) (entry (A_span_rows_edges.enc x) .empty) := by
  obtain ⟨⟨l, m⟩, ⟨⟩⟩ := x
  change l.length + m.length ≤ 1099511627776 at hp
  change avp _ _ (Ret _ _ fun v s' => Frz1 s' v (sl (edgesL l m))) (entry [.agg [.t (sl l), .t (sl m)]] .empty)
  unfold G_span_rows_edges
  simp only [vP.down, vS.down, vE.down, qA, qB, qC, qD, qE, qF, qG, reduceIte, reduceCtorEq, qH, qI, qJ, ↓avp_condG, ↓tf_arrow, ↓ft_arrow]
  intro g1 hg1
  obtain ⟨c, hc⟩ : ∃ c, c = l ++ m := ⟨_, rfl⟩
  have hcl : c.length = l.length + m.length := by rw [hc, List.length_append]
  have hfl : [l, m].flatten = c := by rw [hc]; simp
  have hd : (argT (List (List TRun))).dec (.t (.seq 1 [[sl l], [sl m]])) = some [l, m] := argT_sl (l := [l, m])
  have hpc : c.length ≤ 1099511627776 := by omega
  simp only [vP.down, vS.down, vE.down, qA, qB, qC, qD, qE, qF, qG, reduceIte, reduceCtorEq, qH, qI, qJ, ↓avp_condG, ↓tf_arrow, ↓ft_arrow, hd, hfl, hpc, k_span_rows_edges_slices_Concat___api_Run_api_Run_.down, A_slices_Concat___api_Run_api_Run_, p_slices_Concat___api_Run_api_Run_, r_slices_Concat___api_Run_api_Run_]
  intro g2 hg2
  refine loop_weak hm_span_rows_edges (fun k σ => ∃ (i : Nat) (v : AV) (S : Store), k = c.length - i ∧ i ≤ c.length ∧ OW S v (endsOf (c.take i)) ∧ σ = mkS [(3, v), (11, .t (sl c)), (12, .t (.int .i64 (c.length : Nat))), (13, .t (.int .i64 (i : Nat)))] S) ⟨0, .t .nilS, .empty, rfl, by omega, .inl ⟨rfl, rfl⟩, rfl⟩ (wk_to fewer_empty (by simp only [vP.down, vS.down, vE.down, qA, qB, qC, qD, qE, qF, qG, reduceIte, reduceCtorEq, qH, qI, qJ, ↓avp_condG, ↓tf_arrow, ↓ft_arrow, wP.down, Int.natCast_zero])) ?_
  rintro k _ ⟨i, v, S, rfl, hi, hv, rfl⟩
  have hi1 : IntKind.i64.wrap ((i : Int) + 1) = ((i + 1 : Nat) : Int) := by rw [IntWalk.i64_in _ (by omega)]; rfl
  have hel := endsOf_len (c.take i)
  rw [List.length_take] at hel
  by_cases hlt : i < c.length
  case pos =>
    have hlt' : (i : Int) < (c.length : Int) := by omega
    have hix := idx_at (C := K_span_rows_edges) (l := c) ty_Lapi_Run ty_api_Run rfl hlt .i64
    have hn := endsOf_next hlt
    obtain ⟨r, hr⟩ : ∃ r, r = c.getD i default := ⟨_, rfl⟩
    rw [← hr] at hix hn
    simp only [vP.down, vS.down, vE.down, qA, qB, qC, qD, qE, qF, qG, reduceIte, reduceCtorEq, qH, qI, qJ, ↓avp_condG, ↓tf_arrow, ↓ft_arrow, hlt', hix]
    intro g5 hg5 g6 hg6
    refine append_ow ty_Lint ty_int rfl (by decide) (hv.fresh hg5) hg6 (shows_new (l := [r.From, r.To]) rfl) (by simp; omega) (by simp; omega) fun g' S2 hr2 keep => ?_
    exact round_to (c.length - (i + 1)) [(3, .tok g' 1 0 (endsOf (c.take i) ++ [r.From, r.To]).length), (11, .t (sl c)), (12, .t (.int .i64 (c.length : Nat))), (13, .t (.int .i64 (i + 1 : Nat)))] S2 (by omega) fewer_refl (by simp only [vP.down, vS.down, vE.down, qA, qB, qC, qD, qE, qF, qG, reduceIte, reduceCtorEq, qH, qI, qJ, ↓avp_condG, ↓tf_arrow, ↓ft_arrow, wP.down, hi1, w_int]) ⟨i + 1, _, S2, rfl, by omega, .inr ⟨g', by rw [hn]; rfl, by rw [hn]; exact hr2⟩, rfl⟩
  obtain rfl : i = c.length := by omega
  have hge : ¬ ((c.length : Int) < (c.length : Int)) := by omega
  rw [List.take_length] at hv
  have hel2 := endsOf_len c
  simp only [vP.down, vS.down, vE.down, qA, qB, qC, qD, qE, qF, qG, reduceIte, reduceCtorEq, qH, qI, qJ, ↓avp_condG, ↓tf_arrow, ↓ft_arrow, hge, k_span_rows_edges_slices_Sort___int_int_.down, m_slices_Sort___int_int_]
  refine sort_ow hv (by omega) fun S1 h1 _ => ?_
  simp only [vP.down, vS.down, vE.down, qA, qB, qC, qD, qE, qF, qG, reduceIte, reduceCtorEq, qH, qI, qJ, ↓avp_condG, ↓tf_arrow, ↓ft_arrow, k_span_rows_edges_slices_Compact___int_int_.down, m_slices_Compact___int_int_]
  refine comp_pv cpL_len h1 (by rw [sortL_len]; omega) fun v' S' h2 _ => ?_
  simp only [vP.down, vS.down, vE.down, qA, qB, qC, qD, qE, qF, qG, reduceIte, reduceCtorEq, qH, qI, qJ, ↓avp_condG, ↓tf_arrow, ↓ft_arrow, vT.down]
  have := h2.frz
  rw [hc] at this
  exact this
noncomputable def c_span_rows_edges : Con := fnCon A_span_rows_edges p_span_rows_edges r_span_rows_edges
theorem ok_span_rows_edges : COk Try.prog 98 c_span_rows_edges := fn_ok sys_span_rows_edges mixed Try.func98 (by kernel_rfl) geq_span_rows_edges Try.ntmps98 (by rw [Try.results98]) fun x hx => ⟨Nat.le_of_ble_eq_true rfl, body_span_rows_edges x hx⟩
end Go.Proofs.Ytofcmdkmhbbbjaa
namespace Go.Proofs.Ytofcmdkmhbbbjaa
open Go Go.Eng
set_option maxRecDepth 100000
inductive How where
  | add | less | both
def How.op : How → Bool → Bool → Bool
  | .add, a, b => a || b
  | .less, a, b => a && !b
  | .both, a, b => a && b
def How.id : How → Nat
  | .add => 97 | .less => 86 | .both => 96
def How.of (f : Nat) : Option How := if f = 97 then some .add else if f = 86 then some .less else if f = 96 then some .both else none
theorem How.id_of {f : Nat} {h : How} (e : How.of f = some h) : h.id = f := by
  unfold How.of at e
  split at e
  · cases e; next h => exact h.symm
  · split at e
    · cases e; next h => exact h.symm
    · split at e
      · cases e; next h => exact h.symm
      · cases e
def argH : Arg How where
  enc h := .fn h.id []
  dec a := match a with | .fn f [] => How.of f | _ => none
  sound a x h := by
    split at h
    · rw [How.id_of h]; exact fun _ _ _ _ hr => hr
    · cases h
def G_span_Add_1 : GCode := .seq (.region [⟨(some 4), none, .assign (.const (.bool false))⟩]) (.seq (.region [⟨(some 5), none, .move (.tmp 0)⟩, ⟨(some 6), none, .move (.tmp 5)⟩, ⟨(some 7), (some (6, false)), .move (.tmp 1)⟩, ⟨(some 8), none, .pick (.tmp 6) (.const (.bool true)) (.tmp 7)⟩, ⟨(some 4), none, .assign (.tmp 8)⟩]) (.ret))
noncomputable def l_span_Add_1 : List (Nat × Con) := []
noncomputable abbrev K_span_Add_1 : Ctx := ctx (cl l_span_Add_1)
theorem geq_span_Add_1 : gof K_span_Add_1 Try.f97 = some G_span_Add_1.strip := by kernel_rfl
theorem sys_span_Add_1 : Go.Eng.Sys Try.prog K_span_Add_1 := sys_of' (l := []) trivial
def A_span_Add_1 := Arms.cons (argT Bool) (Arms.cons (argT Bool) Arms.nil)
def p_span_Add_1 (_ : Bool × Bool × Unit) : Prop := True
def r_span_Add_1 (x : Bool × Bool × Unit) : AV := .t (.bool (x.1 || x.2.1))
theorem body_span_Add_1 (x : Bool × Bool × Unit) (hp : p_span_Add_1 x) : avp K_span_Add_1 G_span_Add_1 (Ret K_span_Add_1 [.tmp 4] fun v _ => v = r_span_Add_1 x) (entry (A_span_Add_1.enc x) .empty) := by
  obtain ⟨a, b, ⟨⟩⟩ := x
  change avp _ _ (Ret _ _ fun v _ => v = .t (.bool (a || b))) (entry [.t (.bool a), .t (.bool b)] .empty)
  unfold G_span_Add_1
  cases a <;> (simp only [vP.down, vS.down, vE.down, qA, qB, qC, qD, qE, qF, qG, reduceIte, reduceCtorEq, qH, qI, qJ, ↓avp_condG, ↓tf_arrow, ↓ft_arrow, pick_of, pick_ot]; simp only [vP.down, vS.down, vE.down, qA, qB, qC, qD, qE, qF, qG, reduceIte, reduceCtorEq, qH, qI, qJ, ↓avp_condG, ↓tf_arrow, ↓ft_arrow, vT.down])
noncomputable def c_span_Add_1 : Con := fnScal A_span_Add_1 p_span_Add_1 r_span_Add_1
theorem ok_span_Add_1 : COk Try.prog 97 c_span_Add_1 := fn_sok sys_span_Add_1 mixed Try.func97 (by kernel_rfl) geq_span_Add_1 Try.ntmps97 (by rw [Try.results97]) (fun x => by unfold r_span_Add_1; simp [AV.scal]) fun x hx => ⟨Nat.le_of_ble_eq_true rfl, body_span_Add_1 x hx⟩
def G_span_Less_1 : GCode := .seq (.region [⟨(some 4), none, .assign (.const (.bool false))⟩]) (.seq (.region [⟨(some 5), none, .move (.tmp 0)⟩, ⟨(some 6), none, .move (.tmp 5)⟩, ⟨(some 7), (some (6, true)), .move (.tmp 1)⟩, ⟨(some 8), (some (6, true)), .unOp .not 4 (.tmp 7)⟩, ⟨(some 9), none, .pick (.tmp 6) (.tmp 8) (.const (.bool false))⟩, ⟨(some 4), none, .assign (.tmp 9)⟩]) (.ret))
noncomputable def l_span_Less_1 : List (Nat × Con) := []
noncomputable abbrev K_span_Less_1 : Ctx := ctx (cl l_span_Less_1)
theorem geq_span_Less_1 : gof K_span_Less_1 Try.f86 = some G_span_Less_1.strip := by kernel_rfl
theorem sys_span_Less_1 : Go.Eng.Sys Try.prog K_span_Less_1 := sys_of' (l := []) trivial
def A_span_Less_1 := Arms.cons (argT Bool) (Arms.cons (argT Bool) Arms.nil)
def p_span_Less_1 (_ : Bool × Bool × Unit) : Prop := True
def r_span_Less_1 (x : Bool × Bool × Unit) : AV := .t (.bool (x.1 && !x.2.1))
theorem body_span_Less_1 (x : Bool × Bool × Unit) (hp : p_span_Less_1 x) : avp K_span_Less_1 G_span_Less_1 (Ret K_span_Less_1 [.tmp 4] fun v _ => v = r_span_Less_1 x) (entry (A_span_Less_1.enc x) .empty) := by
  obtain ⟨a, b, ⟨⟩⟩ := x
  change avp _ _ (Ret _ _ fun v _ => v = .t (.bool (a && !b))) (entry [.t (.bool a), .t (.bool b)] .empty)
  unfold G_span_Less_1
  cases a <;> (simp only [vP.down, vS.down, vE.down, qA, qB, qC, qD, qE, qF, qG, reduceIte, reduceCtorEq, qH, qI, qJ, ↓avp_condG, ↓tf_arrow, ↓ft_arrow, pick_of, pick_ot]; simp only [vP.down, vS.down, vE.down, qA, qB, qC, qD, qE, qF, qG, reduceIte, reduceCtorEq, qH, qI, qJ, ↓avp_condG, ↓tf_arrow, ↓ft_arrow, vT.down])
noncomputable def c_span_Less_1 : Con := fnScal A_span_Less_1 p_span_Less_1 r_span_Less_1
theorem ok_span_Less_1 : COk Try.prog 86 c_span_Less_1 := fn_sok sys_span_Less_1 mixed Try.func86 (by kernel_rfl) geq_span_Less_1 Try.ntmps86 (by rw [Try.results86]) (fun x => by unfold r_span_Less_1; simp [AV.scal]) fun x hx => ⟨Nat.le_of_ble_eq_true rfl, body_span_Less_1 x hx⟩
def G_span_Both_1 : GCode := .seq (.region [⟨(some 4), none, .assign (.const (.bool false))⟩]) (.seq (.region [⟨(some 5), none, .move (.tmp 0)⟩, ⟨(some 6), none, .move (.tmp 5)⟩, ⟨(some 7), (some (6, true)), .move (.tmp 1)⟩, ⟨(some 8), none, .pick (.tmp 6) (.tmp 7) (.const (.bool false))⟩, ⟨(some 4), none, .assign (.tmp 8)⟩]) (.ret))
noncomputable def l_span_Both_1 : List (Nat × Con) := []
noncomputable abbrev K_span_Both_1 : Ctx := ctx (cl l_span_Both_1)
theorem geq_span_Both_1 : gof K_span_Both_1 Try.f96 = some G_span_Both_1.strip := by kernel_rfl
theorem sys_span_Both_1 : Go.Eng.Sys Try.prog K_span_Both_1 := sys_of' (l := []) trivial
def A_span_Both_1 := Arms.cons (argT Bool) (Arms.cons (argT Bool) Arms.nil)
def p_span_Both_1 (_ : Bool × Bool × Unit) : Prop := True
def r_span_Both_1 (x : Bool × Bool × Unit) : AV := .t (.bool (x.1 && x.2.1))
theorem body_span_Both_1 (x : Bool × Bool × Unit) (hp : p_span_Both_1 x) : avp K_span_Both_1 G_span_Both_1 (Ret K_span_Both_1 [.tmp 4] fun v _ => v = r_span_Both_1 x) (entry (A_span_Both_1.enc x) .empty) := by
  obtain ⟨a, b, ⟨⟩⟩ := x
  change avp _ _ (Ret _ _ fun v _ => v = .t (.bool (a && b))) (entry [.t (.bool a), .t (.bool b)] .empty)
  unfold G_span_Both_1
  cases a <;> (simp only [vP.down, vS.down, vE.down, qA, qB, qC, qD, qE, qF, qG, reduceIte, reduceCtorEq, qH, qI, qJ, ↓avp_condG, ↓tf_arrow, ↓ft_arrow, pick_of, pick_ot]; simp only [vP.down, vS.down, vE.down, qA, qB, qC, qD, qE, qF, qG, reduceIte, reduceCtorEq, qH, qI, qJ, ↓avp_condG, ↓tf_arrow, ↓ft_arrow, vT.down])
noncomputable def c_span_Both_1 : Con := fnScal A_span_Both_1 p_span_Both_1 r_span_Both_1
theorem ok_span_Both_1 : COk Try.prog 96 c_span_Both_1 := fn_sok sys_span_Both_1 mixed Try.func96 (by kernel_rfl) geq_span_Both_1 Try.ntmps96 (by rw [Try.results96]) (fun x => by unfold r_span_Both_1; simp [AV.scal]) fun x hx => ⟨Nat.le_of_ble_eq_true rfl, body_span_Both_1 x hx⟩
def stepW (f : Bool → Bool → Bool) (l m o : List TRun) (a b : Int) : List TRun := if f (hasR l a) (hasR m a) = true then behindL o ⟨a, b⟩ else o
def whG (f : Bool → Bool → Bool) (l m : List TRun) : List Int → List TRun → List TRun
  | a :: b :: t, o => whG f l m (b :: t) (stepW f l m o a b)
  | _, o => o
theorem whG_step {f : Bool → Bool → Bool} {l m o : List TRun} {e : List Int} {i : Nat} (h : i + 1 < e.length) : whG f l m (e.drop i) o = whG f l m (e.drop (i + 1)) (stepW f l m o (e.getD i default) (e.getD (i + 1) default)) := by
  rw [List.drop_eq_getElem_cons (by omega : i < e.length), List.drop_eq_getElem_cons h, whG]
  simp only [List.getD_eq_getElem?_getD, List.getElem?_eq_getElem h, List.getElem?_eq_getElem (by omega : i < e.length), Option.getD_some]
theorem whG_end {f : Bool → Bool → Bool} {l m o : List TRun} {e : List Int} {i : Nat} (h : e.length ≤ i + 1) : whG f l m (e.drop i) o = o := by
  have : (e.drop i).length ≤ 1 := by rw [List.length_drop]; omega
  generalize e.drop i = d at this
  match d, this with
  | [], _ => rfl
  | [_], _ => rfl
theorem stepW_len {f : Bool → Bool → Bool} {l m o : List TRun} {a b : Int} : (stepW f l m o a b).length ≤ o.length + 1 := by
  unfold stepW
  split
  · exact behindL_len
  · omega
theorem edgesL_len {l m : List TRun} : (edgesL l m).length ≤ 2 * (l.length + m.length) := by
  have := cpL_len (sortL (endsOf (l ++ m)))
  rw [sortL_len, endsOf_len, List.length_append] at this
  exact this
def whereL (h : How) (l m : List TRun) : List TRun := whG h.op l m (edgesL l m) []
def okH : How → Prop
  | .add => True
  | .less => True
  | .both => True
def G_span_rows_where : GCode := .seq (.region [⟨(some 2), none, .box 128 (.tmp 0)⟩, ⟨(some 4), none, .assign (.const (.slice none 0 0))⟩]) (.seq (.region [⟨(some 5), none, .assign (.const (.slice none 0 0))⟩]) (.seq (.region [⟨(some 8), none, .load 128 (.tmp 2)⟩, ⟨(some 9), none, .call ⟨.value (.func 98), #[.tmp 8], #[128]⟩⟩, ⟨(some 6), none, .assign (.tmp 9)⟩]) (.seq (.seq (.region [⟨(some 7), none, .assign (.const (.int .i64 1))⟩]) (.block 0 (.loop (.seq .weak (.seq (.seq (.region [⟨(some 10), none, .move (.tmp 7)⟩, ⟨(some 11), none, .move (.tmp 6)⟩, ⟨(some 12), none, .call ⟨.builtin .len, #[.tmp 11], #[58]⟩⟩, ⟨(some 13), none, .binOp .lss 3 (.tmp 10) (.tmp 12) 3⟩]) (.cond (.tmp 13) (.skip) (.exit 0))) (.seq (.block 1 (.seq (.region [⟨(some 16), none, .move (.tmp 1)⟩, ⟨(some 17), none, .fieldAddr 128 (.tmp 2) 0⟩, ⟨(some 18), none, .load 52 (.tmp 17)⟩, ⟨(some 19), none, .move (.tmp 6)⟩, ⟨(some 20), none, .move (.tmp 7)⟩, ⟨(some 21), none, .binOp .sub 3 (.tmp 20) (.const (.int .i64 1)) 3⟩, ⟨(some 22), none, .indexAddr 58 (.tmp 19) (.tmp 21)⟩, ⟨(some 23), none, .load 3 (.tmp 22)⟩, ⟨(some 24), none, .call ⟨.value (.func 73), #[.tmp 18, .tmp 23], #[52, 3]⟩⟩, ⟨(some 25), none, .fieldAddr 128 (.tmp 2) 1⟩, ⟨(some 26), none, .load 52 (.tmp 25)⟩, ⟨(some 27), none, .move (.tmp 6)⟩, ⟨(some 28), none, .move (.tmp 7)⟩, ⟨(some 29), none, .binOp .sub 3 (.tmp 28) (.const (.int .i64 1)) 3⟩, ⟨(some 30), none, .indexAddr 58 (.tmp 27) (.tmp 29)⟩, ⟨(some 31), none, .load 3 (.tmp 30)⟩, ⟨(some 32), none, .call ⟨.value (.func 73), #[.tmp 26, .tmp 31], #[52, 3]⟩⟩, ⟨(some 33), none, .call ⟨.value (.tmp 16), #[.tmp 24, .tmp 32], #[4, 4]⟩⟩]) (.cond (.tmp 33) (.region [⟨(some 34), none, .move (.tmp 5)⟩, ⟨(some 35), none, .move (.tmp 6)⟩, ⟨(some 36), none, .move (.tmp 7)⟩, ⟨(some 37), none, .binOp .sub 3 (.tmp 36) (.const (.int .i64 1)) 3⟩, ⟨(some 38), none, .indexAddr 58 (.tmp 35) (.tmp 37)⟩, ⟨(some 39), none, .load 3 (.tmp 38)⟩, ⟨(some 40), none, .move (.tmp 6)⟩, ⟨(some 41), none, .move (.tmp 7)⟩, ⟨(some 42), none, .indexAddr 58 (.tmp 40) (.tmp 41)⟩, ⟨(some 43), none, .load 3 (.tmp 42)⟩, ⟨(some 44), none, .build 69 #[(0, .tmp 39), (1, .tmp 43)]⟩, ⟨(some 45), none, .call ⟨.value (.func 94), #[.tmp 34, .tmp 44], #[52, 69]⟩⟩, ⟨(some 5), none, .assign (.tmp 45)⟩]) (.skip)))) (.region [⟨(some 14), none, .move (.tmp 7)⟩, ⟨(some 15), none, .binOp .add 3 (.tmp 14) (.const (.int .i64 1)) 3⟩, ⟨(some 7), none, .assign (.tmp 15)⟩]))))))) (.seq (.region [⟨(some 46), none, .move (.tmp 5)⟩, ⟨(some 4), none, .assign (.tmp 46)⟩]) (.ret)))))
noncomputable def l_span_rows_where : List (Nat × Con) := [(98, c_span_rows_edges), (73, c_span_Has), (94, c_span_behind), (97, c_span_Add_1), (86, c_span_Less_1), (96, c_span_Both_1)]
noncomputable abbrev K_span_rows_where : Ctx := ctx (cl l_span_rows_where)
theorem geq_span_rows_where : gof K_span_rows_where Try.f85 = some G_span_rows_where.strip := by kernel_rfl
theorem sys_span_rows_where : Go.Eng.Sys Try.prog K_span_rows_where := sys_of' ⟨ok_span_rows_edges, ok_span_Has, ok_span_behind, ok_span_Add_1, ok_span_Less_1, ok_span_Both_1, trivial⟩
theorem hm_span_rows_where : ConMono K_span_rows_where := conMono_of sys_span_rows_where.con
noncomputable def k_span_rows_where_span_rows_edges := PLift.up (call_fn (C := K_span_rows_where) (f := 98) (A := A_span_rows_edges) (p := p_span_rows_edges) (r := r_span_rows_edges) rfl)
noncomputable def k_span_rows_where_span_Has := PLift.up (call_scal (C := K_span_rows_where) (f := 73) (A := A_span_Has) (p := p_span_Has) (r := r_span_Has) rfl)
noncomputable def k_span_rows_where_span_behind := PLift.up (call_gen (C := K_span_rows_where) (f := 94) (modes := m_span_behind) (F := F_span_behind) rfl)
def A_span_rows_where := Arms.cons (argA Trows) (Arms.cons argH Arms.nil)
def p_span_rows_where (x : Trows × How × Unit) : Prop := x.1.l.length + x.1.m.length ≤ 1099511627 ∧ okH x.2.1
def r_span_rows_where (x : Trows × How × Unit) : AV := .t (sl (whereL x.2.1 x.1.l x.1.m))
theorem call_how {C : Ctx} {h : How} {a b : Bool} (ho : okH h)
    (h1 : C.con 97 = some c_span_Add_1)
    (h2 : C.con 86 = some c_span_Less_1)
    (h3 : C.con 96 = some c_span_Both_1)
    : callV C h.id [.t (.bool a), .t (.bool b)] [] = .val True (.t (.bool (h.op a b))) := by
  cases h with
  | add =>
    show callV C 97 _ _ = _
    rw [callV_scal h1]; rfl
  | less =>
    show callV C 86 _ _ = _
    rw [callV_scal h2]; rfl
  | both =>
    show callV C 96 _ _ = _
    rw [callV_scal h3]; rfl
set_option maxRecDepth 100000 in
theorem body_span_rows_where (x : Trows × How × Unit) (hp : p_span_rows_where x) : avp K_span_rows_where G_span_rows_where (Ret K_span_rows_where [.tmp 4] fun v s' => Frz s' v (r_span_rows_where x)) (entry (A_span_rows_where.enc x) .empty) := by
  obtain ⟨⟨l, m⟩, h, ⟨⟩⟩ := x
  obtain ⟨hp, hok⟩ : l.length + m.length ≤ 1099511627 ∧ okH h := hp
  change avp _ _ (Ret _ _ fun v s' => Frz1 s' v (sl (whereL h l m))) (entry [.agg [.t (sl l), .t (sl m)], .fn h.id []] .empty)
  unfold G_span_rows_where
  have hd : (argA Trows).dec (.agg [.t (sl l), .t (sl m)]) = some ⟨l, m⟩ := Cell.dec_enc (⟨l, m⟩ : Trows)
  have hp1 : l.length + m.length ≤ 1099511627776 := by omega
  simp only [vP.down, vS.down, vE.down, qA, qB, qC, qD, qE, qF, qG, reduceIte, reduceCtorEq, qH, qI, qJ, ↓avp_condG, ↓tf_arrow, ↓ft_arrow, hd, hp1, k_span_rows_where_span_rows_edges.down, A_span_rows_edges, p_span_rows_edges, r_span_rows_edges]
  intro g2 hg2
  obtain ⟨e, he⟩ : ∃ e, e = edgesL l m := ⟨_, rfl⟩
  have hel := edgesL_len (l := l) (m := m)
  rw [← he] at hel
  have hW : whereL h l m = whG h.op l m (e.drop 0) [] := by rw [he]; rfl
  rw [← he]
  refine loop_weak hm_span_rows_where (fun k σ => ∃ (i : Nat) (o : List TRun) (v : AV) (S : Store), k = e.length - i ∧ i ≤ 2 * (l.length + m.length) ∧ o.length ≤ i ∧ whereL h l m = whG h.op l m (e.drop i) o ∧ OW S v o ∧
      σ = mkS [(1, .fn h.id []), (2, .imm [sl l, sl m]), (5, v), (6, .t (sl e)), (7, .t (.int .i64 (i + 1 : Nat)))] S)
    ⟨0, [], .t .nilS, .empty, rfl, by omega, by simp, hW, .inl ⟨rfl, rfl⟩, rfl⟩ (wk_to fewer_empty (by
      simp only [vP.down, vS.down, vE.down, qA, qB, qC, qD, qE, qF, qG, reduceIte, reduceCtorEq, qH, qI, qJ, ↓avp_condG, ↓tf_arrow, ↓ft_arrow, wP.down, Nat.zero_add, Int.natCast_one]
      exact w2_imm (l := [sl l, sl m]) (ro := false) (Store.set_same _ _ _) rfl)) ?_
  rintro k _ ⟨i, o, v, S, rfl, hi, ho, hW, hv, rfl⟩
  by_cases hlt : i + 1 < e.length
  case neg =>
    have hge : ¬ (((i + 1 : Nat) : Int) < (e.length : Int)) := by omega
    rw [whG_end (by omega)] at hW
    simp only [vP.down, vS.down, vE.down, qA, qB, qC, qD, qE, qF, qG, reduceIte, reduceCtorEq, qH, qI, qJ, ↓avp_condG, ↓tf_arrow, ↓ft_arrow, hge]
    simp only [vP.down, vS.down, vE.down, qA, qB, qC, qD, qE, qF, qG, reduceIte, reduceCtorEq, qH, qI, qJ, ↓avp_condG, ↓tf_arrow, ↓ft_arrow, vT.down]
    rw [hW]
    exact hv.lv.frz
  have hlt' : ((i + 1 : Nat) : Int) < (e.length : Int) := by omega
  have hi1 : IntKind.i64.wrap (((i + 1 : Nat) : Int) + 1) = ((i + 1 + 1 : Nat) : Int) := by rw [IntWalk.i64_in _ (by omega)]; rfl
  have hi0 : IntKind.i64.wrap (((i + 1 : Nat) : Int) - 1) = (i : Int) := by rw [IntWalk.i64_in _ (by omega)]; omega
  have hx0 := idx_at (C := K_span_rows_where) (l := e) ty_Lint ty_int rfl (by omega : i < e.length) .i64
  have hx1 := idx_at (C := K_span_rows_where) (l := e) ty_Lint ty_int rfl hlt .i64
  have hst := whG_step (f := h.op) (l := l) (m := m) (o := o) hlt
  obtain ⟨a, ha⟩ : ∃ a, a = e.getD i default := ⟨_, rfl⟩
  obtain ⟨b, hb⟩ : ∃ b, b = e.getD (i + 1) default := ⟨_, rfl⟩
  rw [← ha] at hx0
  rw [← hb] at hx1
  rw [← ha, ← hb] at hst
  have hll : l.length < 4611686018427387904 := by omega
  have hml : m.length < 4611686018427387904 := by omega
  have hcw : callV K_span_rows_where h.id [.t (.bool (hasR l a)), .t (.bool (hasR m a))] [] = .val True (.t (.bool (h.op (hasR l a) (hasR m a)))) := by
    apply call_how hok <;> rfl
  have hsl := stepW_len (f := h.op) (l := l) (m := m) (o := o) (a := a) (b := b)
  cases hc : h.op (hasR l a) (hasR m a) with
  | true =>
    have hs : stepW h.op l m o a b = behindL o ⟨a, b⟩ := if_pos hc
    rw [hs] at hst hsl
    simp only [vP.down, vS.down, vE.down, qA, qB, qC, qD, qE, qF, qG, reduceIte, reduceCtorEq, qH, qI, qJ, ↓avp_condG, ↓tf_arrow, ↓ft_arrow, hlt', hi0, hx0, hx1, hll, hml, hcw, hc, k_span_rows_where_span_Has.down, A_span_Has, p_span_Has, r_span_Has, k_span_rows_where_span_behind.down, m_span_behind]
    refine ⟨v, o, ⟨a, b⟩, rfl, hv, by omega, fun v' S' hv' _ => ?_⟩
    exact round_to (e.length - (i + 1)) [(1, .fn h.id []), (2, .imm [sl l, sl m]), (5, v'), (6, .t (sl e)), (7, .t (.int .i64 (i + 1 + 1 : Nat)))] S' (by omega) fewer_refl (by simp only [vP.down, vS.down, vE.down, qA, qB, qC, qD, qE, qF, qG, reduceIte, reduceCtorEq, qH, qI, qJ, ↓avp_condG, ↓tf_arrow, ↓ft_arrow, wP.down, hi1]) ⟨i + 1, _, v', S', rfl, by omega, by omega, hW.trans hst, hv', rfl⟩
  | false =>
    have hs : stepW h.op l m o a b = o := if_neg (by rw [hc]; simp)
    rw [hs] at hst hsl
    simp only [vP.down, vS.down, vE.down, qA, qB, qC, qD, qE, qF, qG, reduceIte, reduceCtorEq, qH, qI, qJ, ↓avp_condG, ↓tf_arrow, ↓ft_arrow, hlt', hi0, hx0, hx1, hll, hml, hcw, hc, k_span_rows_where_span_Has.down, A_span_Has, p_span_Has, r_span_Has]
    exact round_to (e.length - (i + 1)) [(1, .fn h.id []), (2, .imm [sl l, sl m]), (5, v), (6, .t (sl e)), (7, .t (.int .i64 (i + 1 + 1 : Nat)))] S (by omega) fewer_refl (by simp only [vP.down, vS.down, vE.down, qA, qB, qC, qD, qE, qF, qG, reduceIte, reduceCtorEq, qH, qI, qJ, ↓avp_condG, ↓tf_arrow, ↓ft_arrow, wP.down, hi1]) ⟨i + 1, _, v, S, rfl, by omega, by omega, hW.trans hst, hv, rfl⟩
noncomputable def c_span_rows_where : Con := fnCon A_span_rows_where p_span_rows_where r_span_rows_where
theorem ok_span_rows_where : COk Try.prog 85 c_span_rows_where := fn_ok sys_span_rows_where mixed Try.func85 (by kernel_rfl) geq_span_rows_where Try.ntmps85 (by rw [Try.results85]) fun x hx => ⟨Nat.le_of_ble_eq_true rfl, body_span_rows_where x hx⟩
end Go.Proofs.Ytofcmdkmhbbbjaa
