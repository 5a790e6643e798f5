/-
  A device's sector read: a range over a function.
-/
import Derived.Test.YtpdjpemmdjeabaaFnsC
import Derived.RangeFuncNested
import Derived.RangeFuncLeaves
import Derived.Shelf.Abstract
import Derived.WalkKit
import Derived.TacticsIn
import Derived.BigFrameIn
import Derived.LoopIn
import Derived.Deep.RegionHeld
set_option linter.unusedSimpArgs false
set_option linter.unusedVariables false
namespace Go.Proofs.Ytpdjpemmdjeabaa
open Go Go.Eng Go.RowKit Go.Shelf
/-- A row of puts as it lies in memory. -/
def PutsAt (w : World) (sv : Value) (l : List TPut) : Prop :=
  ∃ (a : Option Addr) (cap b off : Nat), sv = .slice a l.length cap ∧ (l = [] ∨ a = some ⟨b, off, none⟩) ∧
    ∀ k, k < l.length → w.cell? ⟨b, off + (k * 2 + 0), none⟩ = some (.int .i64 (l.getD k default).At) ∧ w.cell? ⟨b, off + (k * 2 + 1), none⟩ = some (.string ⟨(l.getD k default).B.toArray⟩)
abbrev encP (l : List TPut) (k : Nat) : Array Value := #[.int .i64 (k : Int), .agg #[.int .i64 (l.getD k default).At, .string ⟨(l.getD k default).B.toArray⟩]]
def revN (n : Nat) : List Nat := (List.range n).reverse
set_option maxRecDepth 100000 in
set_option maxHeartbeats 1000000 in
theorem back_stops (l : List TPut) (hl : l.length ≤ 1099511627776) (w : World) (b : Nat) (sv : Value) (hb : w.cell? ⟨b, 0, none⟩ = some sv) (hp : PutsAt w sv l) :
    SeqStopsK Fence.wide 4 Try.prog 40 #[.pointer (some ⟨b, 0, none⟩)] (encP l) (Below w.heap.size) (fun xs => xs = revN l.length) (fun pre => ∃ r, pre ++ r = revN l.length) l.length w := fun lp J Jx W hB hA _ hY h0 => by
  refine callsIn_of_wp Try.func40 rfl trivial ?_ rfl
  simp only [Try.ntmps40, List.size_toArray, List.length_cons, List.length_nil, Nat.reduceAdd, Nat.reduceSub, Array.replicate_succ, Array.replicate_zero, List.push_toArray, List.append_toArray, List.nil_append, List.cons_append]
  obtain ⟨a, cap, sb, so, rfl, ha, hc⟩ := hp
  have hbl := cell_lt hb
  have hb1 : W.cell? ⟨b, 0, none⟩ = some (.slice a l.length cap) := (hB.cell (p := ⟨b, 0, none⟩) hbl).trans hb
  gi_wp2
  gi_loopw [3] (fun i wr => ∃ (k : Nat) (j : Int) (pre : List Nat), k ≤ l.length ∧ j = (k : Int) - 1 ∧ i = .int .i64 j ∧ pre ++ revN k = revN l.length ∧ J pre wr ∧ Below w.heap.size w wr) (fun i _ => (intOf i + 1).toNat)
  case atStart => exact ⟨l.length, _, [], Nat.le_refl _, rfl, rfl, rfl, h0, hB⟩
  case round =>
    obtain ⟨k, j, pre, hk, hj, rfl, hpre, hJ, hBr⟩ := hrel
    cases k with
    | zero =>
      have hj0 : j < 0 := by omega
      gi_wp2
      go_end0
      refine ⟨⟨_, rfl⟩, .inl ⟨pre, ?_, hJ⟩⟩
      simpa [revN] using hpre
    | succ k =>
      obtain rfl : j = (k : Int) := by omega
      have hb2 : wr.cell? ⟨b, 0, none⟩ = some (.slice a l.length cap) := (hBr.cell (p := ⟨b, 0, none⟩) hbl).trans hb
      obtain ⟨c1, c2⟩ := hc k (by omega)
      have a2 : a = some ⟨sb, so, none⟩ := ha.resolve_left (fun e => by subst e; simp at hk)
      subst a2
      have d1 : wr.cell? ⟨sb, so + k * 2, none⟩ = some (.int .i64 (l.getD k default).At) := (hBr.cell (p := ⟨sb, so + k * 2, none⟩) (cell_lt c1)).trans c1
      have d2 : wr.cell? ⟨sb, so + k * 2 + 1, none⟩ = some (.string ⟨(l.getD k default).B.toArray⟩) := (hBr.cell (p := ⟨sb, so + (k * 2 + 1), none⟩) (cell_lt c2)).trans c2
      have hpl : pre.length < l.length := by
        have := congrArg List.length hpre
        simp [revN] at this; omega
      obtain ⟨fn, tmps, assign, body, hy, hR⟩ := hY pre k wr hJ hpl
      dsimp only [encP] at hy
      have hsnoc : (pre ++ [k]) ++ revN k = revN l.length := by
        rw [← hpre]; simp [revN, List.range_succ]
      have HS : Hid ((pre ++ [k]) ++ revN k = revN l.length) := hsnoc
      clear hj hpre hsnoc hc hY hA h0 ha hb hb1 c1 c2
      generalize (l.getD k default).At = At at *
      generalize (⟨(l.getD k default).B.toArray⟩ : ByteArray) = B at *
      have k0 : (0 : Int) ≤ (k : Int) := by omega
      have k1 : k < l.length := by omega
      gi_wp2
      refine hR.mono ?_
      rintro e W3 (⟨rfl, hJ3, hk3⟩ | ⟨rfl, hx3⟩)
      · gi_wp2
        go_roundw
        case rel => exact ⟨k, _, _, by omega, rfl, rfl, HS.out, hJ3, hBr.trans hk3⟩
        case measure => simp [intOf]
      · gi_wp2
        refine bodyPost_ret (results_none rfl _ _ _) rfl ?_
        exact ⟨⟨_, rfl⟩, .inr ⟨_, ⟨_, HS.out⟩, hx3⟩⟩

set_option maxRecDepth 100000 in
set_option maxHeartbeats 1000000 in
theorem has_in (lv wv : Value) (a : Option Addr) (n cap : Nat) (li ar i : Int) (dn : Bool) (hlv : lv = .slice a n cap) (w : World) :
    CallsIn Fence.wide 4 Try.prog 29 #[.agg #[lv, wv, .int .i64 li, .int .i64 ar, .bool dn], .int .i64 i] w fun e w' => e = .returned (.bool (decide (0 ≤ i) && decide (i < (n : Int)))) ∧ Below w.heap.size w w' := by
  subst hlv
  refine callsIn_of_wp Try.func29 rfl trivial ?_ rfl
  simp only [Try.ntmps29, List.size_toArray, List.length_cons, List.length_nil, Nat.reduceAdd, Nat.reduceSub, Array.replicate_succ, Array.replicate_zero, List.push_toArray, List.append_toArray, List.nil_append, List.cons_append]
  have fin : ∀ (o : Obj), Below w.heap.size w (w.alloc o) := fun o => (Below.refl _ _).alloc (Nat.le_refl _) _
  by_cases h : 0 ≤ i
  · gi_wp2
    refine bodyPost_ret (results_tmp rfl _ _ _) rfl ⟨?_, fin _⟩
    simp [h]
  · gi_wp2
    refine bodyPost_ret (results_tmp rfl _ _ _) rfl ⟨?_, fin _⟩
    rw [decide_eq_false (by omega)]; rfl

theorem backward_in (sv : Value) (w : World) (hsv : ∃ a n cap, sv = .slice a n cap) :
    CallsIn Fence.wide 4 Try.prog 33 #[sv] w fun e w' => e = .returned (.func (.func 40) #[] #[.pointer (some ⟨w.heap.size, 0, none⟩)]) ∧ w' = w.alloc (.cells #[sv] 26) := by
  refine callsIn_of_wp Try.func33 rfl trivial ?_ rfl
  simp only [Try.ntmps33, List.size_toArray, List.length_cons, List.length_nil, Nat.reduceAdd, Nat.reduceSub, Array.replicate_succ, Array.replicate_zero, List.push_toArray, List.append_toArray, List.nil_append, List.cons_append]
  obtain ⟨a, n, cap, rfl⟩ := hsv
  gi_wp2
  exact bodyPost_ret (results_tmp rfl _ _ _) rfl ⟨rfl, rfl⟩

/-- A row of texts as it lies in memory. -/
def TextsAt (w : World) (sv : Value) (l : List (List UInt8)) : Prop :=
  ∃ (a : Option Addr) (cap b off : Nat), sv = .slice a l.length cap ∧ (l = [] ∨ a = some ⟨b, off, none⟩) ∧
    ∀ k, k < l.length → w.cell? ⟨b, off + k, none⟩ = some (.string ⟨(l.getD k default).toArray⟩)

theorem below_bcell {W w1 : World} (hb : Below W.heap.size W w1) : (∀ b o, b < W.heap.size → w1.cell? ⟨b, o, none⟩ = W.cell? ⟨b, o, none⟩) ∧ (∀ b o, b < W.heap.size → w1.frozen? ⟨b, o, none⟩ = W.frozen? ⟨b, o, none⟩) :=
  ⟨fun b o h => hb.cell (p := ⟨b, o, none⟩) h, fun b o h => hb.frozen (p := ⟨b, o, none⟩) h⟩

theorem lastB_none {i : Int} {l : List TPut} (h : ∀ k, k < l.length → (l.getD k default).At ≠ i) : lastB i l = none := by
  have : ∀ k, k ≤ l.length → lastB i (l.take k) = none := by
    intro k
    induction k with
    | zero => intro _; rfl
    | succ k ih =>
      intro hk
      rw [lastB_step i l k (by omega), if_neg (h k (by omega))]
      exact ih (by omega)
  have := this l.length (Nat.le_refl _)
  rwa [List.take_length] at this
theorem lastB_from {i : Int} {l : List TPut} {k : Nat} (hk : k < l.length) (h : ∀ j, k < j → j < l.length → (l.getD j default).At ≠ i) (he : (l.getD k default).At = i) : lastB i l = some (l.getD k default).B := by
  have : ∀ m, k + 1 + m ≤ l.length → lastB i (l.take (k + 1 + m)) = some (l.getD k default).B := by
    intro m
    induction m with
    | zero => intro _; rw [Nat.add_zero, lastB_step i l k hk, if_pos he]
    | succ m ih =>
      intro hm
      rw [← Nat.add_assoc, lastB_step i l (k + 1 + m) (by omega), if_neg (h _ (by omega) (by omega))]
      exact ih (by omega)
  have := this (l.length - (k + 1)) (by omega)
  rwa [show k + 1 + (l.length - (k + 1)) = l.length from by omega, List.take_length] at this
theorem lastB_rev {i : Int} {l : List TPut} {k : Nat} {pre r : List Nat} (h : pre ++ k :: r = revN l.length) (hp : ∀ j ∈ pre, (l.getD j default).At ≠ i) (he : (l.getD k default).At = i) : lastB i l = some (l.getD k default).B := by
  have hget : ∀ m, m < l.length → (revN l.length)[m]? = some (l.length - 1 - m) := fun m hm => by
    simp [revN, List.getElem?_reverse, hm]
    try omega
  have hlen : pre.length + (r.length + 1) = l.length := by
    have := congrArg List.length h
    simpa [revN] using this
  have hk : k = l.length - 1 - pre.length := by
    have := hget pre.length (by omega)
    rw [← h, List.getElem?_append_right (Nat.le_refl _)] at this
    simpa using this
  refine lastB_from (by omega) (fun j h1 h2 => hp j ?_) he
  have := hget (l.length - 1 - j) (by omega)
  rw [← h, List.getElem?_append_left (by omega)] at this
  have hj : l.length - 1 - (l.length - 1 - j) = j := by omega
  rw [hj] at this
  exact List.mem_of_getElem? this

set_option maxRecDepth 100000 in
set_option maxHeartbeats 2000000 in
theorem read_in (d : TDev) (i : Int) (hw : d.Wait.length ≤ 1099511627776) (hl : d.Last.length ≤ 1099511627776) (lv wv : Value) (w : World) (hlv : TextsAt w lv d.Last) (hwv : PutsAt w wv d.Wait) :
    CallsIn Fence.wide 5 Try.prog 18 #[.agg #[lv, wv, .int .i64 d.Lies, .int .i64 d.Arm, .bool d.Down], .int .i64 i] w
      fun e w' => e = .returned (.tuple #[.string ⟨(readD d i).1.toArray⟩, .bool (readD d i).2]) ∧ Below w.heap.size w w' := by
  obtain ⟨la, lcap, lb, lo, rfl, hla, hlc⟩ := hlv
  have hwv' := hwv
  obtain ⟨wa, wcap, wb, wo, rfl, hwa, hwc⟩ := hwv
  refine callsIn_of_wp_marks Try.func18 rfl trivial ?_ rfl
  simp only [Try.ntmps18, List.size_toArray, List.length_cons, List.length_nil, Nat.reduceAdd, Nat.reduceSub, Array.replicate_succ, Array.replicate_zero, List.push_toArray, List.append_toArray, List.nil_append, List.cons_append]
  have h29 : Fence.wide.fn 29 := trivial
  have h33 : Fence.wide.fn 33 := trivial
  have h40 : Fence.wide.fn 40 := trivial
  by_cases hd : d.Down = true
  · have hr : readD d i = ([], false) := by rw [readD, if_pos (.inl hd)]
    rw [hr, hd]
    clear hlc hwc hla hwa hr
    gi_wp2
    refine ⟨.tuple #[.string ⟨#[]⟩, .bool false], ?_, rfl, (((((Below.refl _ _).alloc (Nat.le_refl _) _).alloc (by simp) _).alloc (by simp; omega) _).alloc (by simp; omega) _)⟩
    simp [results, Try.f18, go_sem]
  have hd' : d.Down = false := by simpa using hd
  by_cases hh : hasD d i = true
  case neg =>
    have hh' : (decide (0 ≤ i) && decide (i < (d.Last.length : Int))) = false := by simpa [hasD] using hh
    have hr : readD d i = ([], false) := by rw [readD, if_pos (.inr (by simpa using hh))]
    rw [hr, hd']
    clear hlc hwc hla hwa hr hd hd' hh
    gi_wp2_with (gi_at_call 29; refine (has_in _ _ la d.Last.length lcap _ _ i _ rfl _).mono ?_; rintro e w1 ⟨rfl, hB1⟩; rw [hh']; obtain ⟨hc1, hf1⟩ := below_bcell hB1; have hz1 := hB1.size; simp only [World.size_alloc] at hz1)
    have c2 : w1.cell? ⟨w.heap.size + 1 + 1, 0, none⟩ = some (.string ⟨#[]⟩) := (hc1 (w.heap.size + 1 + 1) 0 (by simp)).trans (by simp [go_sem])
    have c3 : w1.cell? ⟨w.heap.size + 1 + 1 + 1, 0, none⟩ = some (.bool false) := (hc1 (w.heap.size + 1 + 1 + 1) 0 (by simp)).trans (by simp [go_sem])
    have r3 : ((w1.setCell ⟨w.heap.size + 1 + 1, 0, none⟩ (.string ⟨#[]⟩)).setCell ⟨w.heap.size + 1 + 1 + 1, 0, none⟩ (.bool false)).cell? ⟨w.heap.size + 1 + 1 + 1, 0, none⟩ = some (.bool false) :=
      World.cell?_setCell_same' _ _ _ (by rw [World.cell?_setCell_far _ _ _ _ (by simp), c3]; rfl)
    have r2 : ((w1.setCell ⟨w.heap.size + 1 + 1, 0, none⟩ (.string ⟨#[]⟩)).setCell ⟨w.heap.size + 1 + 1 + 1, 0, none⟩ (.bool false)).cell? ⟨w.heap.size + 1 + 1, 0, none⟩ = some (.string ⟨#[]⟩) := by
      rw [World.cell?_setCell_far _ _ _ _ (by simp)]
      exact World.cell?_setCell_same' _ _ _ (by rw [c2]; rfl)
    refine ⟨.tuple #[.string ⟨#[]⟩, .bool false], ?_, rfl, ?_⟩
    · simp [results, Try.f18, go_sem, r2, r3]
    · exact ((((((Below.refl _ _).alloc (Nat.le_refl _) _).alloc (by simp) _).alloc (by simp; omega) _).alloc (by simp; omega) _).trans (hB1.mono (by simp; omega))).setCell (by simp; omega) _ |>.setCell (by simp; omega) _
  have hh' : (decide (0 ≤ i) && decide (i < (d.Last.length : Int))) = true := by simpa [hasD] using hh
  have hr : readD d i = ((lastB i d.Wait).getD (d.Last.getD i.toNat []), true) := by rw [readD, if_neg (by simp [hd', hh])]
  have hir : 0 ≤ i ∧ i < (d.Last.length : Int) := by simpa using hh'
  rw [hr, hd']
  have Hla : Hid (d.Last = [] ∨ la = some ⟨lb, lo, none⟩) := hla
  have Hlc : Hid (∀ k, k < d.Last.length → w.cell? ⟨lb, lo + k, none⟩ = some (.string ⟨(d.Last.getD k default).toArray⟩)) := hlc
  have Hwv : Hid (PutsAt w (.slice wa d.Wait.length wcap) d.Wait) := hwv'
  clear hlc hwc hla hwa hr hd hd' hh hwv'
  gi_wp2_with (first
    | (gi_at_call 29; refine (has_in _ _ la d.Last.length lcap _ _ i _ rfl _).mono ?_; rintro e w1 ⟨rfl, hB1⟩; rw [hh']; obtain ⟨hc1, hf1⟩ := below_bcell hB1; have hz1 := hB1.size; simp only [World.size_alloc] at hz1)
    | (gi_at_call 33; refine (backward_in _ _ ⟨_, _, _, rfl⟩).mono ?_; rintro e w2 ⟨rfl, rfl⟩))
  have hBw : Below w.heap.size w w1 := (((((Below.refl _ _).alloc (Nat.le_refl _) _).alloc (by simp) _).alloc (by simp; omega) _).alloc (by simp; omega) _).trans (hB1.mono (by simp; omega))
  have e0 : w1.cell? ⟨w.heap.size, 0, none⟩ = some (.slice la d.Last.length lcap) := (hc1 w.heap.size 0 (by first | (simp; done) | (simp; omega))).trans (by simp [go_sem])
  have e1 : w1.cell? ⟨w.heap.size + 1, 0, none⟩ = some (.int .i64 i) := (hc1 (w.heap.size + 1) 0 (by first | (simp; done) | (simp; omega))).trans (by simp [go_sem])
  have e2 : w1.cell? ⟨w.heap.size + 1 + 1, 0, none⟩ = some (.string ⟨#[]⟩) := (hc1 (w.heap.size + 1 + 1) 0 (by simp)).trans (by simp [go_sem])
  have e3 : w1.cell? ⟨w.heap.size + 1 + 1 + 1, 0, none⟩ = some (.bool false) := (hc1 (w.heap.size + 1 + 1 + 1) 0 (by simp)).trans (by simp [go_sem])
  have f2 : w1.frozen? ⟨w.heap.size + 1 + 1, 0, none⟩ = false := (hf1 (w.heap.size + 1 + 1) 0 (by simp)).trans (by simp [go_sem])
  have f3 : w1.frozen? ⟨w.heap.size + 1 + 1 + 1, 0, none⟩ = false := (hf1 (w.heap.size + 1 + 1 + 1) 0 (by simp)).trans (by simp [go_sem])
  clear hc1 hf1 hB1
  have lt : ∀ (c : Nat) (o : Nat) (v : Value), w1.cell? ⟨c, o, none⟩ = some v → (w1.alloc (.cells #[.slice wa d.Wait.length wcap] 26)).cell? ⟨c, o, none⟩ = some v := fun c o v h => (World.cell?_alloc_past _ _ _ (cell_lt h)).trans h
  have frz : ∀ (c : Nat) (o : Nat), c < w1.heap.size → (w1.alloc (.cells #[.slice wa d.Wait.length wcap] 26)).frozen? ⟨c, o, none⟩ = w1.frozen? ⟨c, o, none⟩ := fun c o h => World.frozen?_of_block (Below.heap_alloc _ _ _ h)
  obtain ⟨b, hb⟩ : ∃ b, b = w1.heap.size := ⟨_, rfl⟩
  rw [← hb]
  obtain ⟨W2, hW2⟩ : ∃ W2, W2 = w1.alloc (.cells #[.slice wa d.Wait.length wcap] 26) := ⟨_, rfl⟩
  rw [← hW2] at lt frz ⊢
  have eb : W2.cell? ⟨b, 0, none⟩ = some (.slice wa d.Wait.length wcap) := by rw [hW2, hb]; simp [go_sem]
  have hBw2 : Below w.heap.size w W2 := by rw [hW2]; exact hBw.alloc (by omega) _
  have hsz : W2.heap.size = b + 1 := by rw [hW2, hb]; simp
  have g2 := (frz _ 0 (by omega)).trans f2
  have g3 := (frz _ 0 (by omega)).trans f3
  replace e0 := lt _ _ _ e0
  replace e1 := lt _ _ _ e1
  replace e2 := lt _ _ _ e2
  replace e3 := lt _ _ _ e3
  have hwz : w.heap.size + 5 ≤ W2.heap.size := by omega
  clear lt frz f2 f3 hW2 hb
  have hput : PutsAt W2 (.slice wa d.Wait.length wcap) d.Wait := by
    obtain ⟨a, cap, sb, so, q1, q2, q3⟩ := Hwv.out
    exact ⟨a, cap, sb, so, q1, q2, fun k hk => ⟨(hBw2.cell (p := ⟨sb, so + (k * 2 + 0), none⟩) (cell_lt (q3 k hk).1)).trans (q3 k hk).1, (hBw2.cell (p := ⟨sb, so + (k * 2 + 1), none⟩) (cell_lt (q3 k hk).2)).trans (q3 k hk).2⟩⟩
  have hstop := back_stops d.Wait hw W2 b _ eb hput
  refine wpIn_rangeFunc_ownH rfl (by omega) (gf := 40) (lb := #[.pointer (some ⟨b, 0, none⟩)]) rfl trivial (enters_of Try.func40 (by kernel_rfl) rfl) hstop
    (fun h k => belowK_t h k) (fun W l o o' h1 h2 h3 h4 => belowK_b (Nat.le_refl _) W l o o' h1 h2 h3 h4) (Below.refl _ _) (fun _ => rfl)
    (fun pre W => Below w.heap.size w W ∧ W2.heap.size ≤ W.heap.size ∧ W.cell? ⟨w.heap.size, 0, none⟩ = some (.slice la d.Last.length lcap) ∧ W.cell? ⟨w.heap.size + 1, 0, none⟩ = some (.int .i64 i) ∧ W.cell? ⟨w.heap.size + 1 + 1, 0, none⟩ = some (.string ⟨#[]⟩) ∧ W.frozen? ⟨w.heap.size + 1 + 1, 0, none⟩ = false ∧ W.cell? ⟨w.heap.size + 1 + 1 + 1, 0, none⟩ = some (.bool false) ∧ W.frozen? ⟨w.heap.size + 1 + 1 + 1, 0, none⟩ = false ∧ ∀ k ∈ pre, (d.Wait.getD k default).At ≠ i)
    (fun c pre W => c = .ret ∧ Below w.heap.size w W ∧ ∃ k pre', pre = pre' ++ [k] ∧ (∀ k ∈ pre', (d.Wait.getD k default).At ≠ i) ∧ (d.Wait.getD k default).At = i ∧ W.cell? ⟨w.heap.size + 1 + 1, 0, none⟩ = some (.string ⟨(d.Wait.getD k default).B.toArray⟩) ∧ W.cell? ⟨w.heap.size + 1 + 1 + 1, 0, none⟩ = some (.bool true))
    ?own ?ownx ⟨hBw2, Nat.le_refl _, e0, e1, e2, g2, e3, g3, fun _ h => by simp at h⟩
    (fun x a' W => ∃ g, W2.heap.size ≤ g ∧ W.cell? ⟨g, 0, none⟩ = some (.int .i64 (d.Wait.getD x default).At) ∧ W.cell? ⟨g, 0 + 1, none⟩ = some (.string ⟨(d.Wait.getD x default).B.toArray⟩) ∧
      a' = { tmps := #[.agg #[.slice la d.Last.length lcap, .slice wa d.Wait.length wcap, .int .i64 d.Lies, .int .i64 d.Arm, .bool false], .int .i64 i, .pointer (some ⟨w.heap.size, 0, none⟩), .pointer (some ⟨w.heap.size + 1, 0, none⟩), .pointer (some ⟨w.heap.size + 1 + 1, 0, none⟩), .pointer (some ⟨w.heap.size + 1 + 1 + 1, 0, none⟩), undef, .pointer (some ⟨g, 0, none⟩), .pointer (some ⟨w.heap.size, 4, none⟩), .bool false, .bool false, .agg #[.slice la d.Last.length lcap, .slice wa d.Wait.length wcap, .int .i64 d.Lies, .int .i64 d.Arm, .bool false], .int .i64 i, .bool true, .bool false, .bool false, .pointer (some ⟨w.heap.size, 1, none⟩), .slice wa d.Wait.length wcap, .func (.func 40) #[] #[.pointer (some ⟨b, 0, none⟩)], .int .i64 (x : Int), .agg #[.int .i64 (d.Wait.getD x default).At, .string ⟨(d.Wait.getD x default).B.toArray⟩], undef, undef, undef, undef, undef, undef, undef, undef, undef, undef, undef], defers := [] }) ?ownA ?assign ?body ?done ?stop
  case own =>
    rintro s W W' row ⟨q1, q2, q3, q4, q5, q6, q7, q8, q9⟩ hg hr
    have hr' : ∀ r, row = some r → ∃ o : Obj, W.heap[r]? = some o ∧ o.isCells = false := fun r e => (hr r e).2
    exact ⟨q1.grown hg (by have := q1.size; omega) fun k e => by have := (hr k e).1; omega, Nat.le_trans q2 hg.size, cell_kept q3 hg hr', cell_kept q4 hg hr', cell_kept q5 hg hr', (frozen_kept q5 hg hr').trans q6, cell_kept q7 hg hr', (frozen_kept q7 hg hr').trans q8, q9⟩
  case ownx =>
    rintro c s W W' row ⟨q1, q2, k, pre, q3, q4, q5, q6, q7⟩ hg hr
    have hr' : ∀ r, row = some r → ∃ o : Obj, W.heap[r]? = some o ∧ o.isCells = false := fun r e => (hr r e).2
    exact ⟨q1, q2.grown hg (by have := q2.size; omega) fun k e => by have := (hr k e).1; omega, k, pre, q3, q4, q5, cell_kept q6 hg hr', cell_kept q7 hg hr'⟩
  case ownA =>
    rintro x a' ⟨⟩ W W' row ⟨g, q1, q2, q3, q4⟩ hg hr
    have hr' : ∀ r, row = some r → ∃ o : Obj, W.heap[r]? = some o ∧ o.isCells = false := fun r e => (hr r e).2
    exact ⟨g, q1, cell_kept q2 hg hr', cell_kept q3 hg hr', q4⟩
  case assign =>
    rintro l pre x W K ⟨q1, q2, q3, q4, q5, q6, q7, q8, q9⟩ hK
    dsimp only [encP]
    generalize (d.Wait.getD x default).At = At at *
    generalize (⟨(d.Wait.getD x default).B.toArray⟩ : ByteArray) = B at *
    gi_wp2_with (rw [Oper.semAt_eq _ _ _ (fun c h => by cases h)]; go_simp; try go_bits)
    have hg := World.grownBy_alloc W (.cells #[.int .i64 At, .string B] 35) none
    have hr' : ∀ r, (none : Option Nat) = some r → ∃ o : Obj, W.heap[r]? = some o ∧ o.isCells = false := fun r e => by cases e
    refine hK _ _ (KeepsFrom.of_grownBy hg fun j e => by cases e) ((Below.refl _ _).alloc q2 _) ⟨q1.alloc (by have := q1.size; omega) _, Nat.le_trans q2 hg.size, cell_kept q3 hg hr', cell_kept q4 hg hr', cell_kept q5 hg hr', (frozen_kept q5 hg hr').trans q6, cell_kept q7 hg hr', (frozen_kept q7 hg hr').trans q8, q9⟩ ⟨W.heap.size, q2, ?_, ?_, rfl⟩
    · simp [go_sem]
    · simp [go_sem]
  case body =>
    rintro l pre x a' W hl _ ⟨q1, q2, q3, q4, q5, q6, q7, q8, q9⟩ ⟨g, p1, p2, p3, rfl⟩ hpl
    generalize hAt : (d.Wait.getD x default).At = At at *
    generalize hB : (⟨(d.Wait.getD x default).B.toArray⟩ : ByteArray) = B at *
    have HAt : Hid ((d.Wait.getD x default).At = At) := hAt
    have HB : Hid ((⟨(d.Wait.getD x default).B.toArray⟩ : ByteArray) = B) := hB
    have H9 : Hid (∀ k ∈ pre, (d.Wait.getD k default).At ≠ i) := q9
    clear hAt hB q9
    by_cases hc : At = i
    · subst hc
      gi_wp2_with (rw [Oper.semAt_eq _ _ _ (fun c h => by cases h)]; go_simp; try go_bits)
      have r3 : ((W.setCell ⟨w.heap.size + 1 + 1, 0, none⟩ (.string B)).setCell ⟨w.heap.size + 1 + 1 + 1, 0, none⟩ (.bool true)).cell? ⟨w.heap.size + 1 + 1 + 1, 0, none⟩ = some (.bool true) :=
        World.cell?_setCell_same' _ _ _ (by rw [World.cell?_setCell_far _ _ _ _ (by simp), q7]; rfl)
      have r2 : ((W.setCell ⟨w.heap.size + 1 + 1, 0, none⟩ (.string B)).setCell ⟨w.heap.size + 1 + 1 + 1, 0, none⟩ (.bool true)).cell? ⟨w.heap.size + 1 + 1, 0, none⟩ = some (.string B) := by
        rw [World.cell?_setCell_far _ _ _ _ (by simp)]
        exact World.cell?_setCell_same' _ _ _ (by rw [q5]; rfl)
      refine ⟨((KeepsOthers.setCell _ _ _).trans (KeepsOthers.setCell _ _ _)).from _, rfl, (q1.setCell (by simp; omega) _).setCell (by simp; omega) _, x, pre, rfl, H9.out, HAt.out, ?_, r3⟩
      rw [HB.out]; exact r2
    · gi_wp2_with (rw [Oper.semAt_eq _ _ _ (fun c h => by cases h)]; go_simp; try go_bits)
      refine ⟨KeepsFrom.refl _ _, Below.refl _ _, q1, q2, q3, q4, q5, q6, q7, q8, fun k hk => ?_⟩
      rcases List.mem_append.1 hk with h | h
      · exact H9.out k h
      · rw [List.mem_singleton.1 h, HAt.out]; exact hc
  case done =>
    rintro D xs W hD rfl ⟨q1, q2, q3, q4, q5, q6, q7, q8, q9⟩ hK
    have hnone : lastB i d.Wait = none := lastB_none fun k hk => q9 k (by simp [revN]; exact hk)
    obtain ⟨a, ha⟩ : ∃ a : Nat, i = (a : Int) := ⟨i.toNat, by omega⟩
    subst ha
    have hal : a < d.Last.length := by omega
    have hla' : la = some ⟨lb, lo, none⟩ := Hla.out.resolve_left fun e => by rw [e] at hal; simp at hal
    subst hla'
    have c1 := Hlc.out a hal
    have c2 : W.cell? ⟨lb, lo + a, none⟩ = some (.string ⟨(d.Last.getD a default).toArray⟩) := (q1.cell (p := ⟨lb, lo + a, none⟩) (cell_lt c1)).trans c1
    have HN : Hid (lastB (a : Int) d.Wait = none) := hnone
    clear q9 hnone c1 hstop hput e0 e1 e2 e3 g2 g3 eb hsz hBw hBw2
    gi_wp2
    have s2 : ∀ v : Value, ((W.setCell ⟨w.heap.size + 1 + 1, 0, none⟩ v).setCell ⟨w.heap.size + 1 + 1 + 1, 0, none⟩ (.bool true)).cell? ⟨w.heap.size + 1 + 1, 0, none⟩ = some v := fun v => by
      rw [World.cell?_setCell_far _ _ _ _ (by simp)]
      exact World.cell?_setCell_same' _ _ _ (by rw [q5]; rfl)
    have s3 : ∀ v : Value, ((W.setCell ⟨w.heap.size + 1 + 1, 0, none⟩ v).setCell ⟨w.heap.size + 1 + 1 + 1, 0, none⟩ (.bool true)).cell? ⟨w.heap.size + 1 + 1 + 1, 0, none⟩ = some (.bool true) := fun v =>
      World.cell?_setCell_same' _ _ _ (by rw [World.cell?_setCell_far _ _ _ _ (by simp), q7]; rfl)
    have sK : ∀ v : Value, ((W.setCell ⟨w.heap.size + 1 + 1, 0, none⟩ v).setCell ⟨w.heap.size + 1 + 1 + 1, 0, none⟩ (.bool true)).heap[D]? = some (.deferred (some [])) := fun v => ((KeepsOthers.setCell _ _ _).trans (KeepsOthers.setCell _ _ _)).same D _ hK rfl
    have t2 := fun v => cell_kept (s2 v) (grownBy_putObj' _ D (.deferred none)) (fun r e => by cases e; exact ⟨_, sK v, rfl⟩)
    have t3 := fun v => cell_kept (s3 v) (grownBy_putObj' _ D (.deferred none)) (fun r e => by cases e; exact ⟨_, sK v, rfl⟩)
    have hd3 : d.Last.getD a default = d.Last[a] := by rw [List.getD_eq_getElem?_getD, List.getElem?_eq_getElem hal]; rfl
    refine ⟨by simp, .inl ⟨_, _, rfl, run_takeDeferred (sK _), ?_⟩⟩
    refine ⟨.tuple #[.string ⟨d.Last[a].toArray⟩, .bool true], ?_, ?_, ?_⟩
    · simp [results, Try.f18, go_sem, t2, t3]
    · rw [HN.out]; rfl
    · exact (((q1.setCell (by simp; omega) _).setCell (by simp; omega) _).grown (grownBy_putObj' _ D (.deferred none)) (by simp [World.setCell]; have := q1.size; omega) (fun k e => by cases e; omega))
  case stop =>
    rintro D c pre W hD ⟨r, hr'⟩ ⟨rfl, q1, k, pre', hpre, q4, q5, q6, q7⟩ hK
    have hl : lastB i d.Wait = some (d.Wait.getD k default).B := by
      refine lastB_rev (r := r) ?_ q4 q5
      rw [← hr', hpre]; simp
    have HN : Hid (lastB i d.Wait = some (d.Wait.getD k default).B) := hl
    generalize (d.Wait.getD k default).B = B at *
    clear hpre hr' q4 q5 hl hstop hput e0 e1 e2 e3 g2 g3 eb hsz hBw hBw2
    gi_wp2
    have t2 := cell_kept q6 (grownBy_putObj' _ D (.deferred none)) (fun r e => by cases e; exact ⟨_, hK, rfl⟩)
    have t3 := cell_kept q7 (grownBy_putObj' _ D (.deferred none)) (fun r e => by cases e; exact ⟨_, hK, rfl⟩)
    refine ⟨by simp, .inl ⟨_, _, rfl, run_takeDeferred hK, ?_⟩⟩
    refine ⟨.tuple #[.string ⟨B.toArray⟩, .bool true], ?_, ?_, ?_⟩
    · simp [results, Try.f18, go_sem, t2, t3]
    · rw [HN.out]; rfl
    · exact q1.grown (grownBy_putObj' _ D (.deferred none)) (by have := q1.size; omega) (fun k e => by cases e; omega)
end Go.Proofs.Ytpdjpemmdjeabaa


namespace Go.Proofs.Ytpdjpemmdjeabaa
open Go Go.Eng Go.RowKit
theorem texts_of {w : World} {O : Addr → Prop} {v : Value} {l : List (List UInt8)} (h : RepT w O (sl l) v) : TextsAt w v l := by
  cases h with
  | seq _ _ a len cap b off c hlen hcap ha hn hc ho hr =>
    simp only [List.length_map] at hlen hc hr
    subst hlen
    refine ⟨a, cap, b, off, rfl, ha.imp (fun h => by simpa using h) id, fun k hk => ?_⟩
    have h1 := hc k 0 hk (by decide)
    have h2 := hr k 0 hk (by decide)
    have e : (List.map Cell.enc l).getD k [] = [.str (l.getD k default)] := row_at hk
    rw [e] at h2
    simp only [List.getD_cons_zero] at h2
    have h3 := h2
    generalize c k 0 = x at h1 h3
    cases h3
    simpa using h1
theorem puts_of {w : World} {O : Addr → Prop} {v : Value} {l : List TPut} (h : RepT w O (sl l) v) : PutsAt w v l := by
  cases h with
  | seq _ _ a len cap b off c hlen hcap ha hn hc ho hr =>
    simp only [List.length_map] at hlen hc hr
    subst hlen
    refine ⟨a, cap, b, off, rfl, ha.imp (fun h => by simpa using h) id, fun k hk => ?_⟩
    have e : (List.map Cell.enc l).getD k [] = [.int .i64 (l.getD k default).At, .str (l.getD k default).B] := row_at hk
    have h1 := hc k 0 hk (by decide)
    have h2 := hr k 0 hk (by decide)
    have g1 := hc k 1 hk (by decide)
    have g2 := hr k 1 hk (by decide)
    rw [e] at h2 g2
    simp only [List.getD_cons_zero, List.getD_cons_succ] at h2 g2
    generalize c k 0 = x at h1 h2
    generalize c k 1 = y at g1 g2
    cases h2
    cases g2
    exact ⟨h1, g1⟩
theorem below_frame {β : Bt} {w w' : World} (h : Below w.heap.size w w') : Go.Eng.Frame Nothing β w Nothing β w' :=
  ⟨h.os, h.tape, h.output, h.size, fun b hb _ => h.block b hb, fun b off hb _ => h.cell (p := ⟨b, off, none⟩) hb, fun b hb => by simp only [World.shape?, h.block b hb], fun _ _ _ h => h.elim, fun _ _ h => h, fun _ _ h => .inl h⟩

def A_dev_Read := Arms.cons (argA TDev) (Arms.cons (argT Int) Arms.nil)
def p_dev_Read (x : TDev × Int × Unit) : Prop := x.1.Last.length ≤ 1099511627776 ∧ x.1.Wait.length ≤ 1099511627776
def r_dev_Read (x : TDev × Int × Unit) : AV := .tup [.t (.str (readD x.1 x.2.1).1), .t (.bool (readD x.1 x.2.1).2)]
noncomputable def c_dev_Read : Con := fnScal A_dev_Read p_dev_Read r_dev_Read
theorem ok_dev_Read : COk Try.prog 18 c_dev_Read := by
  refine ⟨⟨_, Try.func18, by kernel_rfl, by rfl⟩, ?_⟩
  rintro xs vs β w A h1 h2 h3 ha ⟨⟨d, i, ⟨⟩⟩, hx, hp1, hp2⟩
  dsimp only at hp1 hp2
  obtain ⟨la, sa⟩ := A_dev_Read.sound xs _ hx
  have hlen : xs.length = 2 := la
  have hrep := sa β w A (fun i => vs.getD i undef) ha.2
  have hsz : vs.size = 2 := by rw [← ha.1]; exact hlen
  have r0 : Rep β w A (.agg ((dvC d).map .t)) (vs.getD 0 undef) := hrep 0 (by omega)
  have r1 : Rep β w A (.t (.int .i64 i)) (vs.getD 1 undef) := hrep 1 (by omega)
  have hvs : vs = #[vs.getD 0 undef, vs.getD 1 undef] := by
    apply Array.ext
    · simp [hsz]
    · intro k h1 h2
      rcases (by omega : k = 0 ∨ k = 1) with rfl | rfl <;> simp [Array.getD_eq_getD_getElem?, h1]
  have hv1 := r1.int_inv
  generalize vs.getD 0 undef = v0 at hvs r0
  generalize vs.getD 1 undef = v1 at hvs hv1
  subst hv1 hvs
  cases r0 with
  | agg _ cs hl _ hr =>
    have hcl : cs.size = 5 := by rw [← hl]; rfl
    have q0 : RepT w A (sl d.Last) (cs.getD 0 undef) := (hr 0 (by simp [dvC])).t_inv
    have q1 : RepT w A (sl d.Wait) (cs.getD 1 undef) := (hr 1 (by simp [dvC])).t_inv
    have q2 := (show Rep β w A (.t (.int .i64 d.Lies)) (cs.getD 2 undef) from hr 2 (by simp [dvC])).int_inv
    have q3 := (show Rep β w A (.t (.int .i64 d.Arm)) (cs.getD 3 undef) from hr 3 (by simp [dvC])).int_inv
    have q4 := (show Rep β w A (.t (.bool d.Down)) (cs.getD 4 undef) from hr 4 (by simp [dvC])).bool_inv
    have hcs : cs = #[cs.getD 0 undef, cs.getD 1 undef, .int .i64 d.Lies, .int .i64 d.Arm, .bool d.Down] := by
      rw [← q2, ← q3, ← q4]
      apply Array.ext
      · simp [hcl]
      · intro k h1 h2
        rcases (by omega : k = 0 ∨ k = 1 ∨ k = 2 ∨ k = 3 ∨ k = 4) with rfl | rfl | rfl | rfl | rfl <;> simp [Array.getD_eq_getD_getElem?, h1]
    rw [hcs]
    refine (callsIn_wide.1 (read_in d i hp2 hp1 _ _ w (texts_of q0) (puts_of q1))).mono ?_
    rintro e w' ⟨rfl, hB⟩
    refine ⟨Nothing, β, _, rfl, below_frame hB, fun β w A => ?_⟩
    simp only [hx]
    change Rep β w A (.tup [.t (.str (readD d i).1), .t (.bool (readD d i).2)]) _
    refine .tup _ _ rfl fun k hk => ?_
    have hk2 : k < 2 := hk
    rcases (by omega : k = 0 ∨ k = 1) with rfl | rfl
    · exact .t _ _ (.str _)
    · exact .t _ _ (.bool _)
end Go.Proofs.Ytpdjpemmdjeabaa


namespace Go.Proofs.Ytpdjpemmdjeabaa
open Go Go.Eng
def secB (n : UInt8) (i : Nat) : UInt8 := u8I ((n.toNat : Int) * 11 + (i : Int) + 1)
def secS (n : UInt8) : List UInt8 := (List.range 256).map (secB n)
theorem secS_len (n : UInt8) : (secS n).length = 256 := by simp [secS]
theorem secS_of {n : UInt8} {l : List UInt8} (hl : l.length = 256) (h : ∀ j, j < 256 → l.getD j 0 = secB n j) : l = secS n := by
  apply List.ext_getElem
  · rw [hl, secS_len]
  · intro i h1 h2
    have := h i (by omega)
    rw [List.getD_eq_getElem?_getD, List.getElem?_eq_getElem h1, Option.getD_some] at this
    simp [secS, this]

def G_law1_sector : GCode := .seq (.region [⟨(some 2), none, .assign (.const (.string ⟨#[]⟩))⟩]) (.seq (.region [⟨(some 5), none, .makeSlice 23 (.const (.int .i64 256)) (.const (.int .i64 256))⟩, ⟨(some 3), none, .assign (.tmp 5)⟩]) (.seq (.seq (.region [⟨(some 4), none, .assign (.const (.int .i64 0))⟩]) (.block 0 (.loop (.seq .weak (.seq (.seq (.region [⟨(some 6), none, .move (.tmp 4)⟩, ⟨(some 7), none, .move (.tmp 3)⟩, ⟨(some 8), none, .call ⟨.builtin .len, #[.tmp 7], #[23]⟩⟩, ⟨(some 9), none, .binOp .lss 3 (.tmp 6) (.tmp 8) 3⟩]) (.cond (.tmp 9) (.skip) (.exit 0))) (.seq (.block 1 (.region [⟨(some 12), none, .move (.tmp 3)⟩, ⟨(some 13), none, .move (.tmp 4)⟩, ⟨(some 14), none, .move (.tmp 0)⟩, ⟨(some 15), none, .convert 5 3 (.tmp 14)⟩, ⟨(some 16), none, .binOp .mul 3 (.tmp 15) (.const (.int .i64 11)) 3⟩, ⟨(some 17), none, .move (.tmp 4)⟩, ⟨(some 18), none, .binOp .add 3 (.tmp 16) (.tmp 17) 3⟩, ⟨(some 19), none, .binOp .add 3 (.tmp 18) (.const (.int .i64 1)) 3⟩, ⟨(some 20), none, .convert 3 5 (.tmp 19)⟩, ⟨(some 21), none, .indexAddr 23 (.tmp 12) (.tmp 13)⟩, ⟨none, none, .store 5 (.tmp 21) (.tmp 20)⟩])) (.region [⟨(some 10), none, .move (.tmp 4)⟩, ⟨(some 11), none, .binOp .add 3 (.tmp 10) (.const (.int .i64 1)) 3⟩, ⟨(some 4), none, .assign (.tmp 11)⟩]))))))) (.seq (.seq .weak (.region [⟨(some 22), none, .move (.tmp 3)⟩, ⟨(some 23), none, .convert 23 9 (.tmp 22)⟩, ⟨(some 2), none, .assign (.tmp 23)⟩])) (.ret))))
noncomputable def l_law1_sector : List (Nat × Con) := []
noncomputable abbrev K_law1_sector : Ctx := ctx (cl l_law1_sector)
theorem geq_law1_sector : gof K_law1_sector Try.f15 = some G_law1_sector.strip := by kernel_rfl
theorem sys_law1_sector : Go.Eng.Sys Try.prog K_law1_sector := sys_of' (l := []) trivial
theorem hm_law1_sector : ConMono K_law1_sector := conMono_of sys_law1_sector.con
def A_law1_sector := Arms.cons (argT Byt) Arms.nil
def p_law1_sector (x : Byt × Unit) : Prop := True
def r_law1_sector (x : Byt × Unit) : AV := .t (.str (secS x.1.v))
theorem body_law1_sector (x : Byt × Unit) (hp : p_law1_sector x) : avp K_law1_sector G_law1_sector (Ret K_law1_sector [.tmp 2] fun v _ => v = r_law1_sector x) (entry (A_law1_sector.enc x) .empty) := by
  obtain ⟨⟨n⟩, ⟨⟩⟩ := x
  change avp _ _ (Ret _ _ fun v _ => v = .t (.str (secS n))) (entry [.t (.int .u8 (n.toNat : Int))] .empty)
  have hn := n.toNat_lt
  unfold G_law1_sector
  have hrz : List.replicate 256 [TV.int .u8 0] = ((List.replicate 256 (0 : UInt8)).map Byt.mk).map Cell.enc := by rw [List.map_replicate, List.map_replicate]; rfl
  simp only [vR.down, vr20.down, vr40.down, vr50.down, vr60.down, vr70.down, vr80.down, vr90.down, vr100.down, vr110.down, vr120.down, vr130.down, vS.down, vE.down, List.drop_succ_cons, List.drop_zero, List.take_succ_cons, List.take_zero, Nat.zero_add, Nat.reduceEqDiff, Nat.reduceAdd, Nat.reduceSub, Nat.reduceMul, Nat.reduceLeDiff, Nat.reduceLT, ne_eq, not_false_eq_true, not_true_eq_false, Int.reduceToNat, reduceIte, reduceCtorEq, true_and, and_true, implies_true, forall_const, List.map_cons, List.map_nil, Option.map_some, Option.map_none, Option.bind_some, Option.bind_some, List.append_nil, List.nil_append, List.length_cons, List.length_nil, List.getD_cons_zero, List.headD_cons, List.getD_cons_succ, Bool.false_eq_true, Nat.zero_lt_succ, vr30.down, Option.toList_some, Option.toList_none, List.cons_append, getD_byt, Int.toNat_natCast, decide_eq_true_eq, decide_eq_false_iff_not, Bool.not_eq_true', Bool.not_eq_false', Bool.and_eq_true, Bool.or_eq_true, Bool.or_eq_false_iff, Bool.and_eq_false_imp, Decidable.not_not, List.length_map, beq_true, beq_false, imp_self, and_self, Option.isSome_some, List.toList_toArray, decide_true, decide_false, Bool.and_true, Bool.true_and, Bool.and_false, Bool.false_and, Bool.or_true, Bool.true_or, Bool.or_false, Bool.false_or, Bool.not_true, Bool.not_false, Int.reduceEq, Int.reduceLT, Int.reduceLE, Int.cast_ofNat_Int, eq_self, Nat.reduceLeDiff, Nat.le_refl, Bool.not_not]
  refine ⟨by omega, fun g hg => ?_⟩
  rw [hrz]
  refine loop_weak hm_law1_sector (fun m σ => ∃ (i : Nat) (l : List UInt8) (S : Store), m = 256 - i ∧ i ≤ 256 ∧ l.length = 256 ∧ (∀ j, j < i → l.getD j 0 = secB n j) ∧ S.f g = some (.row 1 ((l.map Byt.mk).map Cell.enc) false) ∧
      σ = mkS [(0, .t (.int .u8 (n.toNat : Int))), (3, .tok g 1 0 256), (4, .t (.int .i64 (i : Nat)))] S)
    ⟨0, List.replicate 256 0, _, rfl, by omega, List.length_replicate .., by omega, Store.set_same _ _ _, rfl⟩ (wk_to fewer_refl (by simp only [vR.down, vr20.down, vr40.down, vr50.down, vr60.down, vr70.down, vr80.down, vr90.down, vr100.down, vr110.down, vr120.down, vr130.down, vS.down, vE.down, List.drop_succ_cons, List.drop_zero, List.take_succ_cons, List.take_zero, Nat.zero_add, Nat.reduceEqDiff, Nat.reduceAdd, Nat.reduceSub, Nat.reduceMul, Nat.reduceLeDiff, Nat.reduceLT, ne_eq, not_false_eq_true, not_true_eq_false, Int.reduceToNat, reduceIte, reduceCtorEq, true_and, and_true, implies_true, forall_const, List.map_cons, List.map_nil, Option.map_some, Option.map_none, Option.bind_some, Option.bind_some, List.append_nil, List.nil_append, List.length_cons, List.length_nil, List.getD_cons_zero, List.headD_cons, List.getD_cons_succ, Bool.false_eq_true, Nat.zero_lt_succ, vr30.down, Option.toList_some, Option.toList_none, List.cons_append, getD_byt, Int.toNat_natCast, decide_eq_true_eq, decide_eq_false_iff_not, Bool.not_eq_true', Bool.not_eq_false', Bool.and_eq_true, Bool.or_eq_true, Bool.or_eq_false_iff, Bool.and_eq_false_imp, Decidable.not_not, List.length_map, beq_true, beq_false, imp_self, and_self, Option.isSome_some, List.toList_toArray, decide_true, decide_false, Bool.and_true, Bool.true_and, Bool.and_false, Bool.false_and, Bool.or_true, Bool.true_or, Bool.or_false, Bool.false_or, Bool.not_true, Bool.not_false, Int.reduceEq, Int.reduceLT, Int.reduceLE, Int.cast_ofNat_Int, eq_self, Nat.reduceLeDiff, Nat.le_refl, Bool.not_not, wkAll_cons, wkAll_nil, w2_refl, w2_nil, w2_emp, empty_none, Int.natCast_zero])) ?_
  rintro m _ ⟨i, l, S, rfl, hi, hl, hj, hS, rfl⟩
  have hrl : ((l.map Byt.mk).map Cell.enc).length = 256 := by simp [hl]
  by_cases hlt : i < 256
  case neg =>
    obtain rfl : i = 256 := by omega
    have hge : ¬ (((256 : Nat) : Int) < 256) := by omega
    simp only [vR.down, vr20.down, vr40.down, vr50.down, vr60.down, vr70.down, vr80.down, vr90.down, vr100.down, vr110.down, vr120.down, vr130.down, vS.down, vE.down, List.drop_succ_cons, List.drop_zero, List.take_succ_cons, List.take_zero, Nat.zero_add, Nat.reduceEqDiff, Nat.reduceAdd, Nat.reduceSub, Nat.reduceMul, Nat.reduceLeDiff, Nat.reduceLT, ne_eq, not_false_eq_true, not_true_eq_false, Int.reduceToNat, reduceIte, reduceCtorEq, true_and, and_true, implies_true, forall_const, List.map_cons, List.map_nil, Option.map_some, Option.map_none, Option.bind_some, Option.bind_some, List.append_nil, List.nil_append, List.length_cons, List.length_nil, List.getD_cons_zero, List.headD_cons, List.getD_cons_succ, Bool.false_eq_true, Nat.zero_lt_succ, vr30.down, Option.toList_some, Option.toList_none, List.cons_append, getD_byt, Int.toNat_natCast, decide_eq_true_eq, decide_eq_false_iff_not, Bool.not_eq_true', Bool.not_eq_false', Bool.and_eq_true, Bool.or_eq_true, Bool.or_eq_false_iff, Bool.and_eq_false_imp, Decidable.not_not, List.length_map, beq_true, beq_false, imp_self, and_self, Option.isSome_some, List.toList_toArray, decide_true, decide_false, Bool.and_true, Bool.true_and, Bool.and_false, Bool.false_and, Bool.or_true, Bool.true_or, Bool.or_false, Bool.false_or, Bool.not_true, Bool.not_false, Int.reduceEq, Int.reduceLT, Int.reduceLE, Int.cast_ofNat_Int, eq_self, Nat.reduceLeDiff, Nat.le_refl, Bool.not_not, hge, false_implies]
    refine weak_at [(3, .t (sl (l.map Byt.mk)))] .empty fewer_empty (by simp only [vR.down, vr20.down, vr40.down, vr50.down, vr60.down, vr70.down, vr80.down, vr90.down, vr100.down, vr110.down, vr120.down, vr130.down, vS.down, vE.down, List.drop_succ_cons, List.drop_zero, List.take_succ_cons, List.take_zero, Nat.zero_add, Nat.reduceEqDiff, Nat.reduceAdd, Nat.reduceSub, Nat.reduceMul, Nat.reduceLeDiff, Nat.reduceLT, ne_eq, not_false_eq_true, not_true_eq_false, Int.reduceToNat, reduceIte, reduceCtorEq, true_and, and_true, implies_true, forall_const, List.map_cons, List.map_nil, Option.map_some, Option.map_none, Option.bind_some, Option.bind_some, List.append_nil, List.nil_append, List.length_cons, List.length_nil, List.getD_cons_zero, List.headD_cons, List.getD_cons_succ, Bool.false_eq_true, Nat.zero_lt_succ, vr30.down, Option.toList_some, Option.toList_none, List.cons_append, getD_byt, Int.toNat_natCast, decide_eq_true_eq, decide_eq_false_iff_not, Bool.not_eq_true', Bool.not_eq_false', Bool.and_eq_true, Bool.or_eq_true, Bool.or_eq_false_iff, Bool.and_eq_false_imp, Decidable.not_not, List.length_map, beq_true, beq_false, imp_self, and_self, Option.isSome_some, List.toList_toArray, decide_true, decide_false, Bool.and_true, Bool.true_and, Bool.and_false, Bool.false_and, Bool.or_true, Bool.true_or, Bool.or_false, Bool.false_or, Bool.not_true, Bool.not_false, Int.reduceEq, Int.reduceLT, Int.reduceLE, Int.cast_ofNat_Int, eq_self, Nat.reduceLeDiff, Nat.le_refl, Bool.not_not, wkAll_cons, wkAll_nil, w2_refl, w2_nil, w2_emp, empty_none]; exact LV.w2 (lv_at (by simp [hl]) hS) fun _ _ => rfl) ?_
    simp only [vR.down, vr20.down, vr40.down, vr50.down, vr60.down, vr70.down, vr80.down, vr90.down, vr100.down, vr110.down, vr120.down, vr130.down, vS.down, vE.down, List.drop_succ_cons, List.drop_zero, List.take_succ_cons, List.take_zero, Nat.zero_add, Nat.reduceEqDiff, Nat.reduceAdd, Nat.reduceSub, Nat.reduceMul, Nat.reduceLeDiff, Nat.reduceLT, ne_eq, not_false_eq_true, not_true_eq_false, Int.reduceToNat, reduceIte, reduceCtorEq, true_and, and_true, implies_true, forall_const, List.map_cons, List.map_nil, Option.map_some, Option.map_none, Option.bind_some, Option.bind_some, List.append_nil, List.nil_append, List.length_cons, List.length_nil, List.getD_cons_zero, List.headD_cons, List.getD_cons_succ, Bool.false_eq_true, Nat.zero_lt_succ, vr30.down, Option.toList_some, Option.toList_none, List.cons_append, getD_byt, Int.toNat_natCast, decide_eq_true_eq, decide_eq_false_iff_not, Bool.not_eq_true', Bool.not_eq_false', Bool.and_eq_true, Bool.or_eq_true, Bool.or_eq_false_iff, Bool.and_eq_false_imp, Decidable.not_not, List.length_map, beq_true, beq_false, imp_self, and_self, Option.isSome_some, List.toList_toArray, decide_true, decide_false, Bool.and_true, Bool.true_and, Bool.and_false, Bool.false_and, Bool.or_true, Bool.true_or, Bool.or_false, Bool.false_or, Bool.not_true, Bool.not_false, Int.reduceEq, Int.reduceLT, Int.reduceLE, Int.cast_ofNat_Int, eq_self, Nat.reduceLeDiff, Nat.le_refl, Bool.not_not, map_v]
    simp only [vR.down, vr20.down, vr40.down, vr50.down, vr60.down, vr70.down, vr80.down, vr90.down, vr100.down, vr110.down, vr120.down, vr130.down, vS.down, vE.down, List.drop_succ_cons, List.drop_zero, List.take_succ_cons, List.take_zero, Nat.zero_add, Nat.reduceEqDiff, Nat.reduceAdd, Nat.reduceSub, Nat.reduceMul, Nat.reduceLeDiff, Nat.reduceLT, ne_eq, not_false_eq_true, not_true_eq_false, Int.reduceToNat, reduceIte, reduceCtorEq, true_and, and_true, implies_true, forall_const, List.map_cons, List.map_nil, Option.map_some, Option.map_none, Option.bind_some, Option.bind_some, List.append_nil, List.nil_append, List.length_cons, List.length_nil, List.getD_cons_zero, List.headD_cons, List.getD_cons_succ, Bool.false_eq_true, Nat.zero_lt_succ, vr30.down, Option.toList_some, Option.toList_none, List.cons_append, getD_byt, Int.toNat_natCast, decide_eq_true_eq, decide_eq_false_iff_not, Bool.not_eq_true', Bool.not_eq_false', Bool.and_eq_true, Bool.or_eq_true, Bool.or_eq_false_iff, Bool.and_eq_false_imp, Decidable.not_not, List.length_map, beq_true, beq_false, imp_self, and_self, Option.isSome_some, List.toList_toArray, decide_true, decide_false, Bool.and_true, Bool.true_and, Bool.and_false, Bool.false_and, Bool.or_true, Bool.true_or, Bool.or_false, Bool.false_or, Bool.not_true, Bool.not_false, Int.reduceEq, Int.reduceLT, Int.reduceLE, Int.cast_ofNat_Int, eq_self, Nat.reduceLeDiff, Nat.le_refl, Bool.not_not, vT.down]
    rw [secS_of hl hj]
  have hlt' : (i : Int) < 256 := by omega
  have hi1 : IntKind.i64.wrap ((i : Int) + 1) = ((i + 1 : Nat) : Int) := by rw [IntWalk.i64_in _ (by omega)]; rfl
  have w0 : IntKind.i64.wrap (n.toNat : Int) = (n.toNat : Int) := w_u8 n
  have w1 : IntKind.i64.wrap ((n.toNat : Int) * 11) = (n.toNat : Int) * 11 := IntWalk.i64_in _ (by omega)
  have w2 : IntKind.i64.wrap ((n.toNat : Int) * 11 + (i : Int)) = (n.toNat : Int) * 11 + (i : Int) := IntWalk.i64_in _ (by omega)
  have w3 : IntKind.i64.wrap ((n.toNat : Int) * 11 + (i : Int) + 1) = (n.toNat : Int) * 11 + (i : Int) + 1 := IntWalk.i64_in _ (by omega)
  have hin : (g ∈ ([] : List Nat)) = False := by simp
  simp only [vR.down, vr20.down, vr40.down, vr50.down, vr60.down, vr70.down, vr80.down, vr90.down, vr100.down, vr110.down, vr120.down, vr130.down, vS.down, vE.down, List.drop_succ_cons, List.drop_zero, List.take_succ_cons, List.take_zero, Nat.zero_add, Nat.reduceEqDiff, Nat.reduceAdd, Nat.reduceSub, Nat.reduceMul, Nat.reduceLeDiff, Nat.reduceLT, ne_eq, not_false_eq_true, not_true_eq_false, Int.reduceToNat, reduceIte, reduceCtorEq, true_and, and_true, implies_true, forall_const, List.map_cons, List.map_nil, Option.map_some, Option.map_none, Option.bind_some, Option.bind_some, List.append_nil, List.nil_append, List.length_cons, List.length_nil, List.getD_cons_zero, List.headD_cons, List.getD_cons_succ, Bool.false_eq_true, Nat.zero_lt_succ, vr30.down, Option.toList_some, Option.toList_none, List.cons_append, getD_byt, Int.toNat_natCast, decide_eq_true_eq, decide_eq_false_iff_not, Bool.not_eq_true', Bool.not_eq_false', Bool.and_eq_true, Bool.or_eq_true, Bool.or_eq_false_iff, Bool.and_eq_false_imp, Decidable.not_not, List.length_map, beq_true, beq_false, imp_self, and_self, Option.isSome_some, List.toList_toArray, decide_true, decide_false, Bool.and_true, Bool.true_and, Bool.and_false, Bool.false_and, Bool.or_true, Bool.true_or, Bool.or_false, Bool.false_or, Bool.not_true, Bool.not_false, Int.reduceEq, Int.reduceLT, Int.reduceLE, Int.cast_ofNat_Int, eq_self, Nat.reduceLeDiff, Nat.le_refl, Bool.not_not, hlt', hS, hrl, hlt, hin, w0, w1, w2, w3, u8I_wrap ((n.toNat : Int) * 11 + (i : Int) + 1), Int.toNat_natCast, false_implies]
  refine ⟨by omega, by omega, ?_⟩
  refine round_to (256 - (i + 1)) [(0, .t (.int .u8 (n.toNat : Int))), (3, .tok g 1 0 256), (4, .t (.int .i64 (i + 1 : Nat)))] (S.set g (some (.row 1 ((((l.set i (secB n i)).map Byt.mk)).map Cell.enc) false))) (by omega) (by rw [← set_byt]; exact fewer_refl) (by simp only [vR.down, vr20.down, vr40.down, vr50.down, vr60.down, vr70.down, vr80.down, vr90.down, vr100.down, vr110.down, vr120.down, vr130.down, vS.down, vE.down, List.drop_succ_cons, List.drop_zero, List.take_succ_cons, List.take_zero, Nat.zero_add, Nat.reduceEqDiff, Nat.reduceAdd, Nat.reduceSub, Nat.reduceMul, Nat.reduceLeDiff, Nat.reduceLT, ne_eq, not_false_eq_true, not_true_eq_false, Int.reduceToNat, reduceIte, reduceCtorEq, true_and, and_true, implies_true, forall_const, List.map_cons, List.map_nil, Option.map_some, Option.map_none, Option.bind_some, Option.bind_some, List.append_nil, List.nil_append, List.length_cons, List.length_nil, List.getD_cons_zero, List.headD_cons, List.getD_cons_succ, Bool.false_eq_true, Nat.zero_lt_succ, vr30.down, Option.toList_some, Option.toList_none, List.cons_append, getD_byt, Int.toNat_natCast, decide_eq_true_eq, decide_eq_false_iff_not, Bool.not_eq_true', Bool.not_eq_false', Bool.and_eq_true, Bool.or_eq_true, Bool.or_eq_false_iff, Bool.and_eq_false_imp, Decidable.not_not, List.length_map, beq_true, beq_false, imp_self, and_self, Option.isSome_some, List.toList_toArray, decide_true, decide_false, Bool.and_true, Bool.true_and, Bool.and_false, Bool.false_and, Bool.or_true, Bool.true_or, Bool.or_false, Bool.false_or, Bool.not_true, Bool.not_false, Int.reduceEq, Int.reduceLT, Int.reduceLE, Int.cast_ofNat_Int, eq_self, Nat.reduceLeDiff, Nat.le_refl, Bool.not_not, wkAll_cons, wkAll_nil, w2_refl, w2_nil, w2_emp, empty_none, hi1])
    ⟨i + 1, l.set i (secB n i), _, rfl, hlt, by rw [List.length_set]; exact hl, fun j hj' => ?_, Store.set_same _ _ _, rfl⟩
  by_cases hij : i = j
  · subst hij; rw [List.getD_eq_getElem?_getD, List.getElem?_set_self (by omega), Option.getD_some]
  · rw [List.getD_eq_getElem?_getD, List.getElem?_set_ne hij, ← List.getD_eq_getElem?_getD]; exact hj j (by omega)
noncomputable def c_law1_sector : Con := fnScal A_law1_sector p_law1_sector r_law1_sector
theorem ok_law1_sector : COk Try.prog 15 c_law1_sector := fn_sok sys_law1_sector mixed Try.func15 (by kernel_rfl) geq_law1_sector Try.ntmps15 (by rw [Try.results15]) (fun x => by unfold r_law1_sector; simp [AV.scal]) fun x hx => ⟨Nat.le_of_ble_eq_true rfl, body_law1_sector x hx⟩

instance (d : TDev) : Decidable (OkD d) := by unfold OkD; infer_instance
def G_law1_begun : GCode := .seq (.region [⟨(some 0), none, .assign (.const (.bool false))⟩]) (.seq (.region [⟨(some 12), none, .call ⟨.value (.func 13), #[.const (.int .i64 3)], #[3]⟩⟩, ⟨(some 1), none, .alloc 28⟩, ⟨none, none, .store 28 (.tmp 1) (.tmp 12)⟩]) (.seq (.region [⟨(some 14), none, .load 28 (.tmp 1)⟩, ⟨(some 15), none, .call ⟨.value (.func 15), #[.const (.int .u8 3)], #[5]⟩⟩, ⟨(some 16), none, .build 35 #[(0, .const (.int .i64 1)), (1, .tmp 15)]⟩, ⟨(some 17), none, .buildSlice 26 1 #[(0, .tmp 16)]⟩, ⟨(some 18), none, .call ⟨.value (.func 14), #[.tmp 14, .tmp 17], #[28, 26]⟩⟩, ⟨(some 13), none, .move (.tmp 18)⟩, ⟨(some 19), none, .extract (.tmp 13) 0⟩, ⟨(some 20), none, .extract (.tmp 13) 1⟩, ⟨(some 2), none, .alloc 28⟩, ⟨none, none, .store 28 (.tmp 2) (.tmp 19)⟩, ⟨(some 3), none, .assign (.tmp 20)⟩]) (.seq (.region [⟨(some 22), none, .load 28 (.tmp 2)⟩, ⟨(some 23), none, .call ⟨.value (.func 18), #[.tmp 22, .const (.int .i64 1)], #[28, 3]⟩⟩, ⟨(some 21), none, .move (.tmp 23)⟩, ⟨(some 24), none, .extract (.tmp 21) 0⟩, ⟨(some 25), none, .extract (.tmp 21) 1⟩, ⟨(some 4), none, .assign (.tmp 24)⟩, ⟨(some 5), none, .assign (.tmp 25)⟩]) (.seq (.region [⟨(some 27), none, .load 28 (.tmp 2)⟩, ⟨(some 28), none, .call ⟨.value (.func 17), #[.tmp 27, .const (.slice none 0 0)], #[28, 37]⟩⟩, ⟨(some 29), none, .call ⟨.value (.func 18), #[.tmp 28, .const (.int .i64 1)], #[28, 3]⟩⟩, ⟨(some 26), none, .move (.tmp 29)⟩, ⟨(some 30), none, .extract (.tmp 26) 0⟩, ⟨(some 31), none, .extract (.tmp 26) 1⟩, ⟨(some 6), none, .assign (.tmp 30)⟩, ⟨(some 7), none, .assign (.tmp 31)⟩]) (.seq (.region [⟨(some 33), none, .load 28 (.tmp 2)⟩, ⟨(some 34), none, .buildSlice 37 1 #[(0, .const (.int .i64 1))]⟩, ⟨(some 35), none, .call ⟨.value (.func 17), #[.tmp 33, .tmp 34], #[28, 37]⟩⟩, ⟨(some 36), none, .call ⟨.value (.func 18), #[.tmp 35, .const (.int .i64 1)], #[28, 3]⟩⟩, ⟨(some 32), none, .move (.tmp 36)⟩, ⟨(some 37), none, .extract (.tmp 32) 0⟩, ⟨(some 38), none, .extract (.tmp 32) 1⟩, ⟨(some 8), none, .assign (.tmp 37)⟩, ⟨(some 9), none, .assign (.tmp 38)⟩]) (.seq (.region [⟨(some 40), none, .load 28 (.tmp 2)⟩, ⟨(some 41), none, .call ⟨.value (.func 16), #[.tmp 40], #[28]⟩⟩, ⟨(some 39), none, .move (.tmp 41)⟩, ⟨(some 42), none, .extract (.tmp 39) 0⟩, ⟨(some 43), none, .extract (.tmp 39) 1⟩, ⟨(some 10), none, .alloc 28⟩, ⟨none, none, .store 28 (.tmp 10) (.tmp 42)⟩, ⟨(some 11), none, .assign (.tmp 43)⟩]) (.seq (.region [⟨(some 44), none, .fieldAddr 28 (.tmp 1) 0⟩, ⟨(some 45), none, .load 25 (.tmp 44)⟩, ⟨(some 46), none, .call ⟨.builtin .len, #[.tmp 45], #[25]⟩⟩, ⟨(some 47), none, .binOp .eql 3 (.tmp 46) (.const (.int .i64 3)) 3⟩, ⟨(some 48), none, .move (.tmp 47)⟩, ⟨(some 49), (some (48, true)), .move (.tmp 3)⟩, ⟨(some 50), none, .pick (.tmp 48) (.tmp 49) (.const (.bool false))⟩, ⟨(some 51), none, .move (.tmp 50)⟩, ⟨(some 52), (some (51, true)), .move (.tmp 5)⟩, ⟨(some 53), none, .pick (.tmp 51) (.tmp 52) (.const (.bool false))⟩, ⟨(some 54), none, .move (.tmp 53)⟩, ⟨(some 55), (some (54, true)), .move (.tmp 4)⟩, ⟨(some 56), (some (54, true)), .call ⟨.value (.func 15), #[.const (.int .u8 3)], #[5]⟩⟩, ⟨(some 57), (some (54, true)), .binOp .eql 9 (.tmp 55) (.tmp 56) 9⟩, ⟨(some 58), none, .pick (.tmp 54) (.tmp 57) (.const (.bool false))⟩, ⟨(some 59), none, .move (.tmp 58)⟩, ⟨(some 60), (some (59, true)), .move (.tmp 7)⟩, ⟨(some 61), none, .pick (.tmp 59) (.tmp 60) (.const (.bool false))⟩, ⟨(some 62), none, .move (.tmp 61)⟩, ⟨(some 63), (some (62, true)), .move (.tmp 6)⟩, ⟨(some 64), (some (62, true)), .move (.tmp 4)⟩, ⟨(some 65), (some (62, true)), .binOp .neq 9 (.tmp 63) (.tmp 64) 9⟩, ⟨(some 66), none, .pick (.tmp 62) (.tmp 65) (.const (.bool false))⟩, ⟨(some 67), none, .move (.tmp 66)⟩, ⟨(some 68), (some (67, true)), .move (.tmp 6)⟩, ⟨(some 69), (some (67, true)), .call ⟨.builtin .len, #[.tmp 68], #[9]⟩⟩, ⟨(some 70), (some (67, true)), .binOp .eql 3 (.tmp 69) (.const (.int .i64 256)) 3⟩, ⟨(some 71), none, .pick (.tmp 67) (.tmp 70) (.const (.bool false))⟩, ⟨(some 72), none, .move (.tmp 71)⟩, ⟨(some 73), (some (72, true)), .move (.tmp 9)⟩, ⟨(some 74), none, .pick (.tmp 72) (.tmp 73) (.const (.bool false))⟩, ⟨(some 75), none, .move (.tmp 74)⟩, ⟨(some 76), (some (75, true)), .move (.tmp 8)⟩, ⟨(some 77), (some (75, true)), .move (.tmp 4)⟩, ⟨(some 78), (some (75, true)), .slice 9 (.tmp 77) none (some (.const (.int .i64 128))) none⟩, ⟨(some 79), (some (75, true)), .move (.tmp 6)⟩, ⟨(some 80), (some (75, true)), .slice 9 (.tmp 79) (some (.const (.int .i64 128))) none none⟩, ⟨(some 81), (some (75, true)), .binOp .add 9 (.tmp 78) (.tmp 80) 9⟩, ⟨(some 82), (some (75, true)), .binOp .eql 9 (.tmp 76) (.tmp 81) 9⟩, ⟨(some 83), none, .pick (.tmp 75) (.tmp 82) (.const (.bool false))⟩, ⟨(some 84), none, .move (.tmp 83)⟩, ⟨(some 85), (some (84, true)), .move (.tmp 11)⟩, ⟨(some 86), none, .pick (.tmp 84) (.tmp 85) (.const (.bool false))⟩, ⟨(some 87), none, .move (.tmp 86)⟩, ⟨(some 88), (some (87, true)), .fieldAddr 28 (.tmp 10) 1⟩, ⟨(some 89), (some (87, true)), .load 26 (.tmp 88)⟩, ⟨(some 90), (some (87, true)), .call ⟨.builtin .len, #[.tmp 89], #[26]⟩⟩, ⟨(some 91), (some (87, true)), .binOp .eql 3 (.tmp 90) (.const (.int .i64 0)) 3⟩, ⟨(some 92), none, .pick (.tmp 87) (.tmp 91) (.const (.bool false))⟩, ⟨(some 0), none, .assign (.tmp 92)⟩]) (.ret))))))))
noncomputable def l_law1_begun : List (Nat × Con) := [(13, c_dev_New), (15, c_law1_sector), (14, c_dev_Write), (18, c_dev_Read), (17, c_dev_Crash), (16, c_dev_Flush)]
noncomputable abbrev K_law1_begun : Ctx := ctx (cl l_law1_begun)
theorem geq_law1_begun : gof K_law1_begun Try.f12 = some G_law1_begun.strip := by kernel_rfl
theorem sys_law1_begun : Go.Eng.Sys Try.prog K_law1_begun := sys_of' ⟨ok_dev_New, ok_law1_sector, ok_dev_Write, ok_dev_Read, ok_dev_Crash, ok_dev_Flush, trivial⟩
theorem hm_law1_begun : ConMono K_law1_begun := conMono_of sys_law1_begun.con
noncomputable def k_law1_begun_dev_New := PLift.up (call_fn (C := K_law1_begun) (f := 13) (A := A_dev_New) (p := p_dev_New) (r := r_dev_New) rfl)
noncomputable def k_law1_begun_law1_sector := PLift.up (call_scal (C := K_law1_begun) (f := 15) (A := A_law1_sector) (p := p_law1_sector) (r := r_law1_sector) rfl)
noncomputable def k_law1_begun_dev_Write := PLift.up (call_fn (C := K_law1_begun) (f := 14) (A := A_dev_Write) (p := p_dev_Write) (r := r_dev_Write) rfl)
noncomputable def k_law1_begun_dev_Read := PLift.up (call_scal (C := K_law1_begun) (f := 18) (A := A_dev_Read) (p := p_dev_Read) (r := r_dev_Read) rfl)
noncomputable def k_law1_begun_dev_Crash := PLift.up (call_fn (C := K_law1_begun) (f := 17) (A := A_dev_Crash) (p := p_dev_Crash) (r := r_dev_Crash) rfl)
noncomputable def k_law1_begun_dev_Flush := PLift.up (call_fn (C := K_law1_begun) (f := 16) (A := A_dev_Flush) (p := p_dev_Flush) (r := r_dev_Flush) rfl)
def A_law1_begun := Arms.nil
def p_law1_begun (_ : Unit) : Prop := True
def r_law1_begun (_ : Unit) : AV := .t (.bool true)
def bD : TDev := newD 3
def bX : TDev := ⟨[z256, z256, z256], [⟨1, secS 3⟩], 0, 0, false⟩
theorem bb1 : writeD (newD 3) [⟨1, secS 3⟩] = (bX, true) := by decide +kernel
theorem bb2 : readD bX 1 = (secS 3, true) := by decide +kernel
theorem bb3 : readD (crashD bX []) 1 = (z256, true) := by decide +kernel
theorem bb4 : readD (crashD bX [1]) 1 = ((secS 3).take 128 ++ z256.drop 128, true) := by decide +kernel
theorem bb5 : flushD bX = (⟨[z256, secS 3, z256], [], 0, 0, false⟩, true) := by decide +kernel
theorem bb6 : OkD bX := by decide +kernel
theorem bb7 : (newD 3).Last.length = 3 := by decide +kernel
theorem bb8 : ¬ z256 = secS 3 := by decide +kernel
theorem bb9 : z256.length = 256 := by decide +kernel
set_option maxRecDepth 100000 in
theorem body_law1_begun (x : Unit) (_ : p_law1_begun x) : avp K_law1_begun G_law1_begun (Ret K_law1_begun [.tmp 0] fun v _ => v = r_law1_begun x) (entry (A_law1_begun.enc x) .empty) := by
  unfold G_law1_begun
  have d3 : (argT Byt).dec (.t (.int .u8 3)) = some ⟨3⟩ := rfl
  have e1 : ∀ x : TDev, (⟨x.Last, x.Wait, x.Lies, x.Arm, x.Down⟩ : TDev) = x := fun _ => rfl
  simp only [vR.down, vr20.down, vr40.down, vr50.down, vr60.down, vr70.down, vr80.down, vr90.down, vr100.down, vr110.down, vr120.down, vr130.down, vS.down, vE.down, List.drop_succ_cons, List.drop_zero, List.take_succ_cons, List.take_zero, Nat.zero_add, Nat.reduceEqDiff, Nat.reduceAdd, Nat.reduceSub, Nat.reduceMul, Nat.reduceLeDiff, Nat.reduceLT, ne_eq, not_false_eq_true, not_true_eq_false, Int.reduceToNat, reduceIte, reduceCtorEq, true_and, and_true, implies_true, forall_const, List.map_cons, List.map_nil, Option.map_some, Option.map_none, Option.bind_some, Option.bind_some, List.append_nil, List.nil_append, List.length_cons, List.length_nil, List.getD_cons_zero, List.headD_cons, List.getD_cons_succ, Bool.false_eq_true, Nat.zero_lt_succ, vr30.down, Option.toList_some, Option.toList_none, List.cons_append, getD_byt, Int.toNat_natCast, decide_eq_true_eq, decide_eq_false_iff_not, Bool.not_eq_true', Bool.not_eq_false', Bool.and_eq_true, Bool.or_eq_true, Bool.or_eq_false_iff, Bool.and_eq_false_imp, Decidable.not_not, List.length_map, beq_true, beq_false, imp_self, and_self, Option.isSome_some, List.toList_toArray, decide_true, decide_false, Bool.and_true, Bool.true_and, Bool.and_false, Bool.false_and, Bool.or_true, Bool.true_or, Bool.or_false, Bool.false_or, Bool.not_true, Bool.not_false, Int.reduceEq, Int.reduceLT, Int.reduceLE, Int.cast_ofNat_Int, eq_self, Nat.reduceLeDiff, Nat.le_refl, Bool.not_not, k_law1_begun_dev_New.down, A_dev_New, p_dev_New, r_dev_New, dvA, dvC]
  intro g hg
  simp only [vR.down, vr20.down, vr40.down, vr50.down, vr60.down, vr70.down, vr80.down, vr90.down, vr100.down, vr110.down, vr120.down, vr130.down, vS.down, vE.down, List.drop_succ_cons, List.drop_zero, List.take_succ_cons, List.take_zero, Nat.zero_add, Nat.reduceEqDiff, Nat.reduceAdd, Nat.reduceSub, Nat.reduceMul, Nat.reduceLeDiff, Nat.reduceLT, ne_eq, not_false_eq_true, not_true_eq_false, Int.reduceToNat, reduceIte, reduceCtorEq, true_and, and_true, implies_true, forall_const, List.map_cons, List.map_nil, Option.map_some, Option.map_none, Option.bind_some, Option.bind_some, List.append_nil, List.nil_append, List.length_cons, List.length_nil, List.getD_cons_zero, List.headD_cons, List.getD_cons_succ, Bool.false_eq_true, Nat.zero_lt_succ, vr30.down, Option.toList_some, Option.toList_none, List.cons_append, getD_byt, Int.toNat_natCast, decide_eq_true_eq, decide_eq_false_iff_not, Bool.not_eq_true', Bool.not_eq_false', Bool.and_eq_true, Bool.or_eq_true, Bool.or_eq_false_iff, Bool.and_eq_false_imp, Decidable.not_not, List.length_map, beq_true, beq_false, imp_self, and_self, Option.isSome_some, List.toList_toArray, decide_true, decide_false, Bool.and_true, Bool.true_and, Bool.and_false, Bool.false_and, Bool.or_true, Bool.true_or, Bool.or_false, Bool.false_or, Bool.not_true, Bool.not_false, Int.reduceEq, Int.reduceLT, Int.reduceLE, Int.cast_ofNat_Int, eq_self, Nat.reduceLeDiff, Nat.le_refl, Bool.not_not, k_law1_begun_law1_sector.down, A_law1_sector, p_law1_sector, r_law1_sector, d3, k_law1_begun_dev_Write.down, A_dev_Write, p_dev_Write, r_dev_Write, e1]
  intro g2 hg2
  rw [bb1]
  refine ⟨by decide, ?_⟩
  simp only [vR.down, vr20.down, vr40.down, vr50.down, vr60.down, vr70.down, vr80.down, vr90.down, vr100.down, vr110.down, vr120.down, vr130.down, vS.down, vE.down, List.drop_succ_cons, List.drop_zero, List.take_succ_cons, List.take_zero, Nat.zero_add, Nat.reduceEqDiff, Nat.reduceAdd, Nat.reduceSub, Nat.reduceMul, Nat.reduceLeDiff, Nat.reduceLT, ne_eq, not_false_eq_true, not_true_eq_false, Int.reduceToNat, reduceIte, reduceCtorEq, true_and, and_true, implies_true, forall_const, List.map_cons, List.map_nil, Option.map_some, Option.map_none, Option.bind_some, Option.bind_some, List.append_nil, List.nil_append, List.length_cons, List.length_nil, List.getD_cons_zero, List.headD_cons, List.getD_cons_succ, Bool.false_eq_true, Nat.zero_lt_succ, vr30.down, Option.toList_some, Option.toList_none, List.cons_append, getD_byt, Int.toNat_natCast, decide_eq_true_eq, decide_eq_false_iff_not, Bool.not_eq_true', Bool.not_eq_false', Bool.and_eq_true, Bool.or_eq_true, Bool.or_eq_false_iff, Bool.and_eq_false_imp, Decidable.not_not, List.length_map, beq_true, beq_false, imp_self, and_self, Option.isSome_some, List.toList_toArray, decide_true, decide_false, Bool.and_true, Bool.true_and, Bool.and_false, Bool.false_and, Bool.or_true, Bool.true_or, Bool.or_false, Bool.false_or, Bool.not_true, Bool.not_false, Int.reduceEq, Int.reduceLT, Int.reduceLE, Int.cast_ofNat_Int, eq_self, Nat.reduceLeDiff, Nat.le_refl, Bool.not_not, dvR, dvC]
  intro g3 hg3
  have s1 : SmallD bX := bb6.small
  have l1 : (bX.Last.length ≤ 1099511627776) = True := eq_true (by decide)
  have l2 : (bX.Wait.length ≤ 1099511627776) = True := eq_true (by decide)
  have l3 : (∀ k, (crashD bX k).Last.length = 3) ∧ (∀ k, (crashD bX k).Wait.length = 0) := ⟨fun k => settleL_len .., fun k => rfl⟩
  have l4 : (-9223372036854775808 ≤ bX.Lies) = True := eq_true (by decide)
  have l5 : (bX.Lies ≤ 9223372036854775807) = True := eq_true (by decide)
  have l6 : (3 : Nat) ≤ 1099511627776 := by omega
  have l7 : (0 : Nat) ≤ 1099511627776 := by omega
  have i1 : (argT (List Int)).dec (.t (.seq 1 [[.int .i64 1]])) = some [1] := rfl
  simp only [vR.down, vr20.down, vr40.down, vr50.down, vr60.down, vr70.down, vr80.down, vr90.down, vr100.down, vr110.down, vr120.down, vr130.down, vS.down, vE.down, List.drop_succ_cons, List.drop_zero, List.take_succ_cons, List.take_zero, Nat.zero_add, Nat.reduceEqDiff, Nat.reduceAdd, Nat.reduceSub, Nat.reduceMul, Nat.reduceLeDiff, Nat.reduceLT, ne_eq, not_false_eq_true, not_true_eq_false, Int.reduceToNat, reduceIte, reduceCtorEq, true_and, and_true, implies_true, forall_const, List.map_cons, List.map_nil, Option.map_some, Option.map_none, Option.bind_some, Option.bind_some, List.append_nil, List.nil_append, List.length_cons, List.length_nil, List.getD_cons_zero, List.headD_cons, List.getD_cons_succ, Bool.false_eq_true, Nat.zero_lt_succ, vr30.down, Option.toList_some, Option.toList_none, List.cons_append, getD_byt, Int.toNat_natCast, decide_eq_true_eq, decide_eq_false_iff_not, Bool.not_eq_true', Bool.not_eq_false', Bool.and_eq_true, Bool.or_eq_true, Bool.or_eq_false_iff, Bool.and_eq_false_imp, Decidable.not_not, List.length_map, beq_true, beq_false, imp_self, and_self, Option.isSome_some, List.toList_toArray, decide_true, decide_false, Bool.and_true, Bool.true_and, Bool.and_false, Bool.false_and, Bool.or_true, Bool.true_or, Bool.or_false, Bool.false_or, Bool.not_true, Bool.not_false, Int.reduceEq, Int.reduceLT, Int.reduceLE, Int.cast_ofNat_Int, eq_self, Nat.reduceLeDiff, Nat.le_refl, Bool.not_not, k_law1_begun_dev_Read.down, A_dev_Read, p_dev_Read, r_dev_Read, k_law1_begun_dev_Crash.down, A_dev_Crash, p_dev_Crash, r_dev_Crash, e1, bb2, bb3, bb4, dvA, dvC, s1, l1, l2, l3.1, l3.2, l4, l5, l6, l7, true_and, and_true]
  intro g4 hg4
  have n43 := Store.ne_new hg4
  have n32 := Store.ne_new hg3
  have h32 := Store.old_none hg3
  have n3 := Store.ne_new h32
  have o43 : ∀ s e, (Store.set s g4 e).f g3 = s.f g3 := fun _ _ => Store.set_other _ _ n43.symm
  simp only [vR.down, vr20.down, vr40.down, vr50.down, vr60.down, vr70.down, vr80.down, vr90.down, vr100.down, vr110.down, vr120.down, vr130.down, vS.down, vE.down, List.drop_succ_cons, List.drop_zero, List.take_succ_cons, List.take_zero, Nat.zero_add, Nat.reduceEqDiff, Nat.reduceAdd, Nat.reduceSub, Nat.reduceMul, Nat.reduceLeDiff, Nat.reduceLT, ne_eq, not_false_eq_true, not_true_eq_false, Int.reduceToNat, reduceIte, reduceCtorEq, true_and, and_true, implies_true, forall_const, List.map_cons, List.map_nil, Option.map_some, Option.map_none, Option.bind_some, Option.bind_some, List.append_nil, List.nil_append, List.length_cons, List.length_nil, List.getD_cons_zero, List.headD_cons, List.getD_cons_succ, Bool.false_eq_true, Nat.zero_lt_succ, vr30.down, Option.toList_some, Option.toList_none, List.cons_append, getD_byt, Int.toNat_natCast, decide_eq_true_eq, decide_eq_false_iff_not, Bool.not_eq_true', Bool.not_eq_false', Bool.and_eq_true, Bool.or_eq_true, Bool.or_eq_false_iff, Bool.and_eq_false_imp, Decidable.not_not, List.length_map, beq_true, beq_false, imp_self, and_self, Option.isSome_some, List.toList_toArray, decide_true, decide_false, Bool.and_true, Bool.true_and, Bool.and_false, Bool.false_and, Bool.or_true, Bool.true_or, Bool.or_false, Bool.false_or, Bool.not_true, Bool.not_false, Int.reduceEq, Int.reduceLT, Int.reduceLE, Int.cast_ofNat_Int, eq_self, Nat.reduceLeDiff, Nat.le_refl, Bool.not_not, o43, k_law1_begun_dev_Flush.down, A_dev_Flush, p_dev_Flush, r_dev_Flush, e1, bb5, dvR, dvC, s1, l4, l5, true_and, and_true]
  intro g5 hg5
  have n54 := Store.ne_new hg5
  have h53 := Store.old_none hg5
  have n53 := Store.ne_new h53
  have h52 := Store.old_none h53
  have n52 := Store.ne_new h52
  have n51 := Store.ne_new (Store.old_none h52)
  have n42 := Store.ne_new (Store.old_none hg4)
  have n41 := Store.ne_new (Store.old_none (Store.old_none hg4))
  have n31 := Store.ne_new h32
  have n2 := Store.ne_new hg2
  have o5 : ∀ s e, (Store.set s g5 e).f g = s.f g := fun _ _ => Store.set_other _ _ n51.symm
  have o4 : ∀ s e, (Store.set s g4 e).f g = s.f g := fun _ _ => Store.set_other _ _ n41.symm
  have o3 : ∀ s e, (Store.set s g3 e).f g = s.f g := fun _ _ => Store.set_other _ _ n31.symm
  have o2 : ∀ s e, (Store.set s g2 e).f g = s.f g := fun _ _ => Store.set_other _ _ n2.symm
  have t1 : (z256 = secS 3) = False := eq_false bb8
  have t2 : (newD 3).Last.length = 3 := bb7
  simp only [vR.down, vr20.down, vr40.down, vr50.down, vr60.down, vr70.down, vr80.down, vr90.down, vr100.down, vr110.down, vr120.down, vr130.down, vS.down, vE.down, List.drop_succ_cons, List.drop_zero, List.take_succ_cons, List.take_zero, Nat.zero_add, Nat.reduceEqDiff, Nat.reduceAdd, Nat.reduceSub, Nat.reduceMul, Nat.reduceLeDiff, Nat.reduceLT, ne_eq, not_false_eq_true, not_true_eq_false, Int.reduceToNat, reduceIte, reduceCtorEq, true_and, and_true, implies_true, forall_const, List.map_cons, List.map_nil, Option.map_some, Option.map_none, Option.bind_some, Option.bind_some, List.append_nil, List.nil_append, List.length_cons, List.length_nil, List.getD_cons_zero, List.headD_cons, List.getD_cons_succ, Bool.false_eq_true, Nat.zero_lt_succ, vr30.down, Option.toList_some, Option.toList_none, List.cons_append, getD_byt, Int.toNat_natCast, decide_eq_true_eq, decide_eq_false_iff_not, Bool.not_eq_true', Bool.not_eq_false', Bool.and_eq_true, Bool.or_eq_true, Bool.or_eq_false_iff, Bool.and_eq_false_imp, Decidable.not_not, List.length_map, beq_true, beq_false, imp_self, and_self, Option.isSome_some, List.toList_toArray, decide_true, decide_false, Bool.and_true, Bool.true_and, Bool.and_false, Bool.false_and, Bool.or_true, Bool.true_or, Bool.or_false, Bool.false_or, Bool.not_true, Bool.not_false, Int.reduceEq, Int.reduceLT, Int.reduceLE, Int.cast_ofNat_Int, eq_self, Nat.reduceLeDiff, Nat.le_refl, Bool.not_not, o5, o4, o3, o2, t1, t2, bb9, k_law1_begun_law1_sector.down, A_law1_sector, p_law1_sector, r_law1_sector, d3, secS_len]
  refine ⟨by rw [List.length_take, List.length_drop, bb9]; omega, ?_⟩
  simp only [vR.down, vr20.down, vr40.down, vr50.down, vr60.down, vr70.down, vr80.down, vr90.down, vr100.down, vr110.down, vr120.down, vr130.down, vS.down, vE.down, List.drop_succ_cons, List.drop_zero, List.take_succ_cons, List.take_zero, Nat.zero_add, Nat.reduceEqDiff, Nat.reduceAdd, Nat.reduceSub, Nat.reduceMul, Nat.reduceLeDiff, Nat.reduceLT, ne_eq, not_false_eq_true, not_true_eq_false, Int.reduceToNat, reduceIte, reduceCtorEq, true_and, and_true, implies_true, forall_const, List.map_cons, List.map_nil, Option.map_some, Option.map_none, Option.bind_some, Option.bind_some, List.append_nil, List.nil_append, List.length_cons, List.length_nil, List.getD_cons_zero, List.headD_cons, List.getD_cons_succ, Bool.false_eq_true, Nat.zero_lt_succ, vr30.down, Option.toList_some, Option.toList_none, List.cons_append, getD_byt, Int.toNat_natCast, decide_eq_true_eq, decide_eq_false_iff_not, Bool.not_eq_true', Bool.not_eq_false', Bool.and_eq_true, Bool.or_eq_true, Bool.or_eq_false_iff, Bool.and_eq_false_imp, Decidable.not_not, List.length_map, beq_true, beq_false, imp_self, and_self, Option.isSome_some, List.toList_toArray, decide_true, decide_false, Bool.and_true, Bool.true_and, Bool.and_false, Bool.false_and, Bool.or_true, Bool.true_or, Bool.or_false, Bool.false_or, Bool.not_true, Bool.not_false, Int.reduceEq, Int.reduceLT, Int.reduceLE, Int.cast_ofNat_Int, eq_self, Nat.reduceLeDiff, Nat.le_refl, Bool.not_not, vT.down]
  rfl
noncomputable def c_law1_begun : Con := fnScal A_law1_begun p_law1_begun r_law1_begun
theorem ok_law1_begun : COk Try.prog 12 c_law1_begun := fn_sok sys_law1_begun mixed Try.func12 (by kernel_rfl) geq_law1_begun Try.ntmps12 (by rw [Try.results12]) (fun x => by unfold r_law1_begun; simp [AV.scal]) fun x hx => ⟨Nat.le_of_ble_eq_true rfl, body_law1_begun x hx⟩
end Go.Proofs.Ytpdjpemmdjeabaa


namespace Go.Proofs.Ytpdjpemmdjeabaa
open Go Go.Eng
theorem og_min {C : Ctx} {d : Option Nat} {K : St → Prop} {σ : St} {j : Nat} {want : Bool} {X Y : Operand} {ts : Array TypeId} : aOp C ⟨d, some (j, want), .call ⟨.builtin .min, #[X, Y], ts⟩⟩ K σ = guardK ((σ.get j).wanted want) (okAll σ.ev [X, Y]) (minB (σ.ev X).strip (σ.ev Y).strip) True d K σ := op_guard rfl rfl
theorem og_max {C : Ctx} {d : Option Nat} {K : St → Prop} {σ : St} {j : Nat} {want : Bool} {X Y : Operand} {ts : Array TypeId} : aOp C ⟨d, some (j, want), .call ⟨.builtin .max, #[X, Y], ts⟩⟩ K σ = guardK ((σ.get j).wanted want) (okAll σ.ev [X, Y]) (maxB (σ.ev X).strip (σ.ev Y).strip) True d K σ := op_guard rfl rfl
def putK (k : Byt × Byt) : TPut := ⟨((k.1.v.toNat % 4 : Nat) : Int), secS k.2.v⟩
theorem putK_len (k : Byt × Byt) : (putK k).B.length = 256 := secS_len _
/-- One write to a sector that is there. -/
theorem write_one {d : TDev} {p : TPut} (h0 : 0 ≤ p.At) (h1 : p.At < (d.Last.length : Int)) (hb : p.B.length = 256) :
    writeD d [p] = if d.Down = true then (d, false) else if d.Arm ≤ 0 then ({ d with Wait := d.Wait ++ [p] }, true) else if d.Arm = 1 then ({ d with Wait := d.Wait ++ [p], Arm := 0, Down := true }, false) else ({ d with Wait := d.Wait ++ [p], Arm := d.Arm - 1 }, true) := by
  unfold writeD wrL wr1
  have e1 : hasD d p.At = true := by simp [hasD, h0, h1]
  have e2 : sz256 p.B = true := by simp [sz256, hb]
  simp only [e1, e2, Bool.not_true, Bool.or_self, if_false, Bool.false_eq_true]
  split
  · rfl
  split
  · simp [wrL]
  split
  · simp [wrL]
  · simp [wrL]
theorem write_put {d : TDev} (k : Byt × Byt) (h : d.Last.length = 4) :
    writeD d [putK k] = if d.Down = true then (d, false) else if d.Arm ≤ 0 then ({ d with Wait := d.Wait ++ [putK k] }, true) else if d.Arm = 1 then ({ d with Wait := d.Wait ++ [putK k], Arm := 0, Down := true }, false) else ({ d with Wait := d.Wait ++ [putK k], Arm := d.Arm - 1 }, true) :=
  write_one (by show (0 : Int) ≤ ((_ % 4 : Nat) : Int); omega) (by rw [h]; show ((_ % 4 : Nat) : Int) < _; omega) (secS_len _)
theorem OkD.snoc {d : TDev} {p : TPut} (h : OkD d) (h0 : 0 ≤ p.At) (h1 : p.At < (d.Last.length : Int)) (hb : p.B.length = 256) (hw : d.Wait.length < 1000) : OkD { d with Wait := d.Wait ++ [p] } := by
  obtain ⟨a, b, c, e⟩ := h
  refine ⟨a, by rw [List.length_append]; show _ + 1 ≤ _; omega, c, fun q hq => ?_⟩
  rcases List.mem_append.mp hq with hq | hq
  · exact e q hq
  · rw [List.mem_singleton] at hq; subst hq; exact ⟨h0, h1, hb⟩
theorem OkD.of {d d' : TDev} (h : OkD d) (h1 : d'.Last = d.Last) (h2 : d'.Wait = d.Wait) : OkD d' := by
  unfold OkD at *; rw [h1, h2]; exact h
theorem new4_ok : OkD (newD 4) := by decide +kernel
theorem OkD.put {d : TDev} (h : OkD d) (k : Byt × Byt) (hl : d.Last.length = 4) (hw : d.Wait.length < 1000) : OkD { d with Wait := d.Wait ++ [putK k] } :=
  h.snoc (by show (0 : Int) ≤ ((_ % 4 : Nat) : Int); omega) (by rw [hl]; show ((_ % 4 : Nat) : Int) < _; omega) (secS_len _) hw
/-- All fields of a device in a box. -/
def dvB (d : TDev) : Entry := .box ((dvC d).map .t) false
theorem w_mod4 (a : Nat) : IntKind.i64.wrap ((a % 4 : Nat) : Int) = ((a % 4 : Nat) : Int) := IntWalk.i64_in _ (by omega)
theorem tmod_4 (a : Nat) : (a : Int).tmod 4 = ((a % 4 : Nat) : Int) := tmod_nat a 4

theorem tmod_10 (a : Nat) : (a : Int).tmod 10 = ((a % 10 : Nat) : Int) := tmod_nat a 10
theorem w_mod10 (a : Nat) : IntKind.i64.wrap ((a % 10 : Nat) : Int) = ((a % 10 : Nat) : Int) := IntWalk.i64_in _ (by omega)
theorem bb4L : (newD 4).Last.length = 4 := by decide +kernel
theorem tmod_5 (a : Nat) : (a : Int).tmod 5 = ((a % 5 : Nat) : Int) := tmod_nat a 5
theorem w_mod5 (a : Nat) : IntKind.i64.wrap ((a % 5 : Nat) : Int) = ((a % 5 : Nat) : Int) := IntWalk.i64_in _ (by omega)
theorem tmod_7 (a : Nat) : (a : Int).tmod 7 = ((a % 7 : Nat) : Int) := tmod_nat a 7
theorem w_mod7 (a : Nat) : IntKind.i64.wrap ((a % 7 : Nat) : Int) = ((a % 7 : Nat) : Int) := IntWalk.i64_in _ (by omega)
theorem i64_mod (a m : Nat) (h : m ≤ 9223372036854775807) (h0 : 0 < m) : IntKind.i64.wrap ((a % m : Nat) : Int) = ((a % m : Nat) : Int) := IntWalk.i64_in _ (by have := Nat.mod_lt a h0; omega)
end Go.Proofs.Ytpdjpemmdjeabaa


namespace Go.Proofs.Ytpdjpemmdjeabaa
open Go Go.Eng
def wsD (d : TDev) (l : List (Byt × Byt)) : TDev := { d with Wait := d.Wait ++ l.map putK }
theorem wsD_nil (d : TDev) (l : List (Byt × Byt)) : wsD d (l.take 0) = d := by simp [wsD]
theorem take_succ_getD {α : Type} [Inhabited α] {l : List α} {i : Nat} (h : i < l.length) : l.take (i + 1) = l.take i ++ [l.getD i default] := by
  rw [List.take_add_one, List.getElem?_eq_getElem h, List.getD_eq_getElem?_getD, List.getElem?_eq_getElem h]; rfl
theorem wsD_next {d : TDev} {l : List (Byt × Byt)} {i : Nat} (hl : d.Last.length = 4) (hd : d.Down = false) (ha : d.Arm = 0) (hi : i < l.length) :
    writeD (wsD d (l.take i)) [putK (l.getD i default)] = (wsD d (l.take (i + 1)), true) := by
  rw [write_put _ (show (wsD d (l.take i)).Last.length = 4 from hl), if_neg (show ¬ (wsD d (l.take i)).Down = true by show ¬ d.Down = true; rw [hd]; decide), if_pos (show (wsD d (l.take i)).Arm ≤ 0 by show d.Arm ≤ 0; omega)]
  rw [take_succ_getD hi]
  simp [wsD]
theorem wsD_ok {d : TDev} {l : List (Byt × Byt)} (ok : OkD d) (hl : d.Last.length = 4) (hw : d.Wait.length + l.length ≤ 1000) : OkD (wsD d l) := by
  obtain ⟨a, b, c, e⟩ := ok
  refine ⟨a, by simp [wsD]; omega, c, fun q hq => ?_⟩
  rcases List.mem_append.mp hq with hq | hq
  · exact e q hq
  · obtain ⟨k, _, rfl⟩ := List.mem_map.mp hq
    refine ⟨?_, ?_, secS_len _⟩
    · show (0 : Int) ≤ ((_ % 4 : Nat) : Int); omega
    · show ((_ % 4 : Nat) : Int) < (d.Last.length : Int); rw [hl]; omega
theorem settle1_256 {last : List (List UInt8)} {p : TPut} (h : Int) (hl : ∀ s ∈ last, s.length = 256) (hp : p.B.length = 256) : ∀ s ∈ settle1 last p h, s.length = 256 := by
  intro s hs
  unfold settle1 at hs
  split at hs
  next hc =>
    rcases List.mem_or_eq_of_mem_set hs with hs | hs
    · exact hl s hs
    · subst hs
      refine tornS_256 h (hl _ ?_) hp
      rw [List.getD_eq_getElem?_getD, List.getElem?_eq_getElem (by omega), Option.getD_some]
      exact List.getElem_mem _
  · exact hl s hs
theorem settleL_256 (how : Int → Int) : ∀ (l : List TPut) (last : List (List UInt8)) (k : Nat), (∀ s ∈ last, s.length = 256) → (∀ p ∈ l, p.B.length = 256) → ∀ s ∈ settleL how last k l, s.length = 256
  | [], _, _, h, _ => h
  | p :: r, last, k, h, hp => settleL_256 how r _ _ (settle1_256 _ h (hp p (List.mem_cons_self ..))) fun q hq => hp q (List.mem_cons_of_mem _ hq)
theorem settle1_0 {last : List (List UInt8)} {p : TPut} (hl : ∀ s ∈ last, s.length = 256) : settle1 last p 0 = last := by
  unfold settle1
  split
  next hc =>
    have hi : p.At.toNat < last.length := by omega
    have : last.getD p.At.toNat [] = last[p.At.toNat] := by rw [List.getD_eq_getElem?_getD, List.getElem?_eq_getElem hi, Option.getD_some]
    rw [this, torn0 (hl _ (List.getElem_mem _)), List.set_getElem_self]
  · rfl
theorem settleL_0 : ∀ (l : List TPut) (last : List (List UInt8)) (k : Nat), (∀ s ∈ last, s.length = 256) → settleL (fun _ => 0) last k l = last
  | [], _, _, _ => rfl
  | p :: r, last, k, h => by show settleL _ (settle1 last p 0) (k + 1) r = last; rw [settle1_0 h]; exact settleL_0 r last _ h
/-- What lasts. -/
def lasD (L : List (List UInt8)) : TDev := ⟨L, [], 0, 0, false⟩
theorem flush_eq {d : TDev} (hd : d.Down = false) (hz : d.Lies = 0) (ha : d.Arm = 0) : flushD d = (lasD (settleL (fun _ => 3) d.Last 0 d.Wait), true) := by
  unfold flushD lasD
  rw [if_neg (by simp [hd]), if_neg (by omega)]
  simp [hz, ha, hd]
theorem crash_eq (d : TDev) (keep : List Int) : crashD d keep = lasD (settleL (howK keep) d.Last 0 d.Wait) := rfl
theorem howK_3 {n : Nat} {j : Nat} (h : j < n) : howK (List.replicate n 3) (j : Int) = 3 := by
  unfold howK
  rw [if_neg (by simp; omega), Int.toNat_natCast, List.getD_eq_getElem?_getD, List.getElem?_replicate, if_pos h]
  rfl
theorem crash_all {d : TDev} {n : Nat} (h : d.Wait.length ≤ n) : crashD d (List.replicate n 3) = lasD (settleL (fun _ => 3) d.Last 0 d.Wait) := by
  rw [crash_eq, settleL_congr (how' := fun _ => 3) _ _ _ fun j _ hj => howK_3 (by omega)]
theorem crash_none {d : TDev} (ok : OkD d) : crashD d [] = lasD d.Last := by
  rw [crash_eq, settleL_congr (how' := fun _ => 0) _ _ _ fun j _ hj => by simp [howK], settleL_0 _ _ _ ok.2.2.1]
theorem lasD_ok {L : List (List UInt8)} (h : L.length ≤ 1000) (h' : ∀ s ∈ L, s.length = 256) : OkD (lasD L) := ⟨h, Nat.zero_le _, h', fun _ hp => nomatch hp⟩
theorem OkD.las {d : TDev} (ok : OkD d) (how : Int → Int) : OkD (lasD (settleL how d.Last 0 d.Wait)) :=
  lasD_ok (by rw [settleL_len]; exact ok.1) (settleL_256 _ _ _ _ ok.2.2.1 fun p hp => (ok.2.2.2 p hp).2.2)
theorem new4_eq : newD 4 = lasD [z256, z256, z256, z256] := by decide +kernel
theorem dp_at (a : Nat) (s : List UInt8) : (argT (List TPut)).dec (.t (.seq 2 [[.int .i64 (a : Int), .str s]])) = some [⟨(a : Int), s⟩] := rfl
theorem db_at (b : UInt8) : (argT Byt).dec (.t (.int .u8 (b.toNat : Int))) = some ⟨b⟩ := by have := b.toNat_lt; simp [argT, Cell.dec]; omega
theorem enc_pair (k : Byt × Byt) : Cell.enc k = [.int .u8 (k.1.v.toNat : Int), .int .u8 (k.2.v.toNat : Int)] := rfl
theorem dev_eta (x : TDev) : (⟨x.Last, x.Wait, x.Lies, x.Arm, x.Down⟩ : TDev) = x := rfl
theorem putK_mk (k : Byt × Byt) : (⟨((k.1.v.toNat % 4 : Nat) : Int), secS k.2.v⟩ : TPut) = putK k := rfl
theorem false_to (p : Prop) : (False → p) = True := eq_true False.elim
end Go.Proofs.Ytpdjpemmdjeabaa


namespace Go.Proofs.Ytpdjpemmdjeabaa
open Go Go.Eng
theorem settle1_3 {last : List (List UInt8)} {p : TPut} (h : 0 ≤ p.At ∧ p.At < (last.length : Int)) (hb : p.B.length = 256) : settle1 last p 3 = last.set p.At.toNat p.B := by
  unfold settle1
  rw [if_pos h, torn3 hb]
theorem lastB_cons (i : Int) (p : TPut) (r : List TPut) : lastB i (p :: r) = match lastB i r with | some s => some s | none => if p.At = i then some p.B else none := rfl
/-- What lasts behind a flush is what was read ahead of it. -/
theorem settle3_get (a : Nat) : ∀ (l : List TPut) (last : List (List UInt8)) (k : Nat), (∀ p ∈ l, 0 ≤ p.At ∧ p.At < (last.length : Int) ∧ p.B.length = 256) → a < last.length →
    (settleL (fun _ => 3) last k l).getD a [] = (lastB (a : Int) l).getD (last.getD a [])
  | [], last, k, _, _ => rfl
  | p :: r, last, k, h, ha => by
    obtain ⟨h0, h1, h2⟩ := h p (List.mem_cons_self ..)
    show (settleL (fun _ => 3) (settle1 last p 3) (k + 1) r).getD a [] = _
    rw [settle1_3 ⟨h0, h1⟩ h2]
    rw [settle3_get a r (last.set p.At.toNat p.B) (k + 1) (fun q hq => by rw [List.length_set]; exact h q (List.mem_cons_of_mem _ hq)) (by rw [List.length_set]; exact ha)]
    rw [lastB_cons]
    cases lastB (a : Int) r with
    | some s => rfl
    | none =>
      by_cases hp : p.At = (a : Int)
      · rw [if_pos hp]
        have : p.At.toNat = a := by omega
        subst this
        simp [ha]
      · rw [if_neg hp]
        have : p.At.toNat ≠ a := by omega
        simp [List.getD_eq_getElem?_getD, List.getElem?_set_ne this]
theorem lastB_no (a : Int) : ∀ (l : List TPut), (∀ p ∈ l, p.At ≠ a) → lastB a l = none
  | [], _ => rfl
  | p :: r, h => by rw [lastB_cons, lastB_no a r fun q hq => h q (List.mem_cons_of_mem _ hq)]; exact if_neg (h p (List.mem_cons_self ..))
theorem lastB_at : ∀ (l : List TPut) (i : Nat), i < l.length → (∀ k, i < k → k < l.length → (l.getD k default).At ≠ (l.getD i default).At) → lastB (l.getD i default).At l = some (l.getD i default).B
  | [], _, hi, _ => absurd hi (Nat.not_lt_zero _)
  | p :: r, 0, _, h => by
    show lastB p.At (p :: r) = some p.B
    rw [lastB_cons, lastB_no p.At r fun q hq => ?_]
    · exact if_pos rfl
    · obtain ⟨k, hk, rfl⟩ := List.mem_iff_getElem.mp hq
      have := h (k + 1) (by omega) (by simp; omega)
      simpa [List.getD_eq_getElem?_getD, hk] using this
  | p :: r, i + 1, hi, h => by
    have hi' : i < r.length := by simpa using hi
    have := lastB_at r i hi' fun k h1 h2 => by
      have := h (k + 1) (by omega) (by simp; omega)
      simpa using this
    show lastB (r.getD i default).At (p :: r) = some (r.getD i default).B
    rw [lastB_cons, this]
/-- The device behind so many flushes, the first ones of which lie. -/
def flN (w : TDev) (n j : Nat) : TDev := if j ≤ n then { w with Lies := ((n - j : Nat) : Int) } else lasD (settleL (fun _ => 3) w.Last 0 w.Wait)
theorem flN_next {w : TDev} {n j : Nat} (hd : w.Down = false) (ha : w.Arm = 0) : flushD (flN w n j) = (flN w n (j + 1), true) := by
  unfold flN
  by_cases h : j + 1 ≤ n
  · rw [if_pos (by omega), if_pos h]
    unfold flushD
    rw [if_neg (by simp [hd]), if_pos (by dsimp only; omega)]
    have : ((n - j : Nat) : Int) - 1 = ((n - (j + 1) : Nat) : Int) := by omega
    simp [this]
  · rw [if_neg h]
    by_cases hj : j ≤ n
    · rw [if_pos hj, flush_eq (by exact hd) (by dsimp only; omega) (by exact ha)]
    · rw [if_neg hj, flush_eq rfl rfl rfl]; rfl
theorem flN_ok {w : TDev} {n j : Nat} (ok : OkD w) : OkD (flN w n j) := by
  unfold flN
  split
  · exact ok.of rfl rfl
  · exact ok.las _
theorem flN_last {w : TDev} {n j : Nat} : (flN w n j).Last.length = w.Last.length := by
  unfold flN
  split
  · rfl
  · exact settleL_len ..
theorem flN_down {w : TDev} {n j : Nat} (hd : w.Down = false) : (flN w n j).Down = false := by
  unfold flN
  split
  · exact hd
  · rfl
theorem flN_read {w : TDev} {n j a : Nat} (ok : OkD w) (hd : w.Down = false) (ha : a < w.Last.length) : readD (flN w n j) (a : Int) = ((lastB (a : Int) w.Wait).getD (w.Last.getD a []), true) := by
  have hh : hasD (flN w n j) (a : Int) = true := by
    unfold hasD; rw [flN_last]; simp; omega
  unfold readD
  rw [if_neg (by rw [flN_down hd, hh]; decide)]
  unfold flN
  split
  · simp
  · have h := settle3_get a w.Wait w.Last 0 ok.2.2.2 ha
    rw [← h]; rfl
theorem flN_lies {w : TDev} {n j : Nat} (hn : n ≤ 4) : 0 ≤ (flN w n j).Lies ∧ (flN w n j).Lies ≤ 4 := by
  unfold flN
  split
  · dsimp only; omega
  · exact ⟨Int.le_refl _, (by decide : (0 : Int) ≤ 4)⟩
theorem flN_lt {w : TDev} {n j : Nat} (h : j < n) : (flN w n (j + 1)).Wait = w.Wait ∧ (flN w n (j + 1)).Last = (flN w n j).Last ∧ (flN w n (j + 1)).Lies = (flN w n j).Lies - 1 := by
  unfold flN
  rw [if_pos (by omega), if_pos (by omega)]
  exact ⟨rfl, rfl, by dsimp only; omega⟩
theorem flN_ge {w : TDev} {n j : Nat} (h : n ≤ j) : (flN w n (j + 1)).Wait = [] := by
  unfold flN
  rw [if_neg (by omega)]; rfl
theorem putK_get {l : List (Byt × Byt)} {i : Nat} (h : i < l.length) : (l.map putK).getD i default = putK (l.getD i default) := by
  simp [List.getD_eq_getElem?_getD, h]
/-- Is the write at i the last one of its sector, as far as k? -/
def lastK (l : List (Byt × Byt)) (i k : Nat) : Bool := (List.range k).all fun j => decide (j ≤ i) || !decide ((l.getD j default).1.v.toNat % 4 = (l.getD i default).1.v.toNat % 4)
theorem lastK_next {l : List (Byt × Byt)} {i k : Nat} (h : i < k) : lastK l i (k + 1) = (lastK l i k && !decide ((l.getD k default).1.v.toNat % 4 = (l.getD i default).1.v.toNat % 4)) := by
  unfold lastK
  rw [List.range_succ, List.all_append]
  simp only [List.all_cons, List.all_nil, Bool.and_true]
  rw [decide_eq_false (by omega : ¬ k ≤ i), Bool.false_or]
theorem lastK_zero {l : List (Byt × Byt)} {i : Nat} : lastK l i (i + 1) = true := by
  unfold lastK
  rw [List.all_eq_true]
  intro j hj
  have : j ≤ i := by have := List.mem_range.mp hj; omega
  simp [this]
theorem lastK_read {l : List (Byt × Byt)} {i : Nat} (hi : i < l.length) (h : lastK l i l.length = true) (x : List UInt8) :
    (lastB (((l.getD i default).1.v.toNat % 4 : Nat) : Int) (l.map putK)).getD x = secS (l.getD i default).2.v := by
  have := lastB_at (l.map putK) i (by simpa using hi) fun k h1 h2 => by
    rw [List.length_map] at h2
    rw [putK_get h2, putK_get hi]
    have := List.all_eq_true.mp h k (List.mem_range.mpr h2)
    rw [decide_eq_false (by omega : ¬ k ≤ i), Bool.false_or] at this
    show ((_ % 4 : Nat) : Int) ≠ ((_ % 4 : Nat) : Int)
    have h3 : ¬ ((l.getD k default).1.v.toNat % 4 = (l.getD i default).1.v.toNat % 4) := fun e => by rw [decide_eq_true e] at this; cases this
    omega
  rw [putK_get hi] at this
  show (lastB (putK (l.getD i default)).At (l.map putK)).getD x = _
  rw [this]; rfl
end Go.Proofs.Ytpdjpemmdjeabaa


namespace Go.Eng
/-- A list of the call's own that may be written: none yet, or a row. -/
def OW {α : Type} [Cell α] (s : Store) (v : AV) (l : List α) : Prop := (v = .t .nilS ∧ l = []) ∨ ∃ g, v = .tok g (Cell.width α) 0 l.length ∧ s.f g = some (.row (Cell.width α) (l.map Cell.enc) false)
theorem OW.lv {α : Type} [Cell α] {s : Store} {v : AV} {l : List α} (h : OW s v l) : LV s v l := h.elim (fun ⟨a, b⟩ => by subst a b; exact lv_nil) fun ⟨g, a, b⟩ => by subst a; exact lv_tok b
theorem OW.fresh {α : Type} [Cell α] {s : Store} {v : AV} {l : List α} {g : Nat} {x : Option Entry} (h : OW s v l) (hg : s.f g = none) : OW (s.set g x) v l :=
  h.imp id fun ⟨k, a, b⟩ => ⟨k, a, by rw [Store.set_other _ _ (ne_of b hg)]; exact b⟩
theorem append_ow {C : Ctx} {α : Type} [Cell α] {S : Store} {v y : AV} {l r : List α} {T e : TypeId} {n m : Nat} {z : List TV} {de : TyD} {g6 : Nat} {x : Entry} {K : AV → Store → Prop} (h : C.ty T = some ⟨.slice e, n, m, z⟩) (he : C.ty e = some de) (hw : de.size = Cell.width α) (hw0 : 0 < Cell.width α)
    (hv : OW S v l) (hg : S.f g6 = none) (hy : Shows (S.set g6 (some x)) y r) (h1 : l.length + r.length ≤ 140737488355328) (h2 : (l.length + r.length) * de.bytes ≤ 140737488355328)
    (hk : ∀ g' S', S'.f g' = some (.row (Cell.width α) ((l ++ r).map Cell.enc) false) → (∀ k e, S.f k = some e → Not v k → S'.f k = some e ∧ k ≠ g') → K (.tok g' (Cell.width α) 0 (l ++ r).length) S') : appendV C T v y K (S.set g6 (some x)) := by
  rcases hv with ⟨rfl, rfl⟩ | ⟨g, rfl, hr⟩
  · obtain ⟨y1, y2⟩ := hy
    unfold appendV appendT
    simp only [h, he, y1, hw, List.length_map, List.length_nil, Nat.zero_add] at *
    refine ⟨hw0, y2, by trivial, h1, h2, fun g hg' => ?_⟩
    refine hk g _ (Store.set_same _ _ _) fun k e hs _ => ?_
    have n1 : k ≠ g6 := ne_of hs hg
    have n2 : k ≠ g := ne_of hs (Store.old_none hg')
    exact ⟨by rw [Store.set_other _ _ n2, Store.set_other _ _ n1]; exact hs, n2⟩
  · have hn : g ≠ g6 := ne_of hr hg
    refine append_tok h he hw hw0 ((Store.set_other _ _ hn).trans hr) hy h1 h2 fun g' hg' => hk g' _ (Store.set_same _ _ _) fun k e hs hnk => ?_
    have n1 : k ≠ g6 := ne_of hs hg
    have n2 : k ≠ g' := ne_of hs (Store.old_none hg')
    have n3 : k ≠ g := fun hh => hnk _ _ _ (by rw [hh])
    exact ⟨by rw [Store.set_other _ _ n2, Store.set_other _ _ n3, Store.set_other _ _ n1]; exact hs, n2⟩
end Go.Eng
namespace Go.Proofs.Ytpdjpemmdjeabaa
open Go Go.Eng
theorem settleL_append (how : Int → Int) : ∀ (a b : List TPut) (last : List (List UInt8)) (k : Nat), settleL how last k (a ++ b) = settleL how (settleL how last k a) (k + a.length) b
  | [], b, last, k => rfl
  | p :: r, b, last, k => by
    show settleL how (settle1 last p (how k)) (k + 1) (r ++ b) = settleL how (settleL how (settle1 last p (how k)) (k + 1) r) (k + (r.length + 1)) b
    rw [settleL_append how r b, show k + 1 + r.length = k + (r.length + 1) by omega]
def howL (keep : List Byt) : List Int := keep.map fun b => ((b.v.toNat % 4 : Nat) : Int)
theorem howL_take {keep : List Byt} {i : Nat} (h : i < keep.length) : howL (keep.take (i + 1)) = howL (keep.take i) ++ [(((keep.getD i default).v.toNat % 4 : Nat) : Int)] := by
  rw [take_succ_getD h]; simp [howL]
theorem howL_get {keep : List Byt} {i : Nat} (h : i < keep.length) : (howL keep).getD i 0 = (((keep.getD i default).v.toNat % 4 : Nat) : Int) := by
  simp [howL, List.getD_eq_getElem?_getD, h]
/-- What has settled, of so many writes. -/
def sK (L : List (List UInt8)) (m : List (Byt × Byt)) (how : List Int) (k : Nat) : List (List UInt8) := settleL (howK how) L 0 ((m.map putK).take k)
theorem sK_len {L : List (List UInt8)} {m : List (Byt × Byt)} {how : List Int} {k : Nat} : (sK L m how k).length = L.length := settleL_len ..
theorem sK_256 {L : List (List UInt8)} {m : List (Byt × Byt)} {how : List Int} {k i : Nat} (h : ∀ s ∈ L, s.length = 256) (hi : i < L.length) : ((sK L m how k).getD i []).length = 256 := by
  have hl : i < (sK L m how k).length := by rw [sK_len]; exact hi
  rw [List.getD_eq_getElem?_getD, List.getElem?_eq_getElem hl, Option.getD_some]
  refine settleL_256 _ _ _ _ h (fun p hp => ?_) _ (List.getElem_mem hl)
  obtain ⟨q, _, rfl⟩ := List.mem_map.mp (List.mem_of_mem_take hp)
  exact putK_len q
theorem sK_next {L : List (List UInt8)} {m : List (Byt × Byt)} {how : List Int} {k i : Nat} (hk : k < m.length) (hL : L.length = 4) (hi : i < 4) :
    (sK L m how (k + 1)).getD i [] = if (m.getD k default).1.v.toNat % 4 = i then tornS ((sK L m how k).getD i []) (secS (m.getD k default).2.v) (howK how (k : Int)) else (sK L m how k).getD i [] := by
  have hk' : k < (m.map putK).length := by simpa using hk
  have e : sK L m how (k + 1) = settle1 (sK L m how k) (putK (m.getD k default)) (howK how (k : Int)) := by
    unfold sK
    rw [take_succ_getD hk', settleL_append, putK_get hk, List.length_take, Nat.min_eq_left (by omega), Nat.zero_add]; rfl
  rw [e]
  unfold settle1
  rw [if_pos ⟨by show (0 : Int) ≤ ((_ % 4 : Nat) : Int); omega, by rw [sK_len, hL]; show ((_ % 4 : Nat) : Int) < _; omega⟩]
  have e2 : (putK (m.getD k default)).At.toNat = (m.getD k default).1.v.toNat % 4 := Int.toNat_natCast _
  rw [e2]
  split
  next h => rw [h, List.getD_eq_getElem?_getD, List.getElem?_set_self (by rw [sK_len]; omega)]; rfl
  next h => rw [List.getD_eq_getElem?_getD, List.getElem?_set_ne h, ← List.getD_eq_getElem?_getD]
theorem sK_all {L : List (List UInt8)} {m : List (Byt × Byt)} {how : List Int} (h : ∀ s ∈ L, s.length = 256) {k : Nat} (hk : k ≤ m.length) (hf : k = m.length ∨ k = how.length) : settleL (howK how) L 0 (m.map putK) = sK L m how k := by
  have e : m.map putK = (m.map putK).take k ++ (m.map putK).drop k := (List.take_append_drop ..).symm
  rw [e, settleL_append]
  unfold sK
  rcases hf with rfl | rfl
  · rw [List.drop_of_length_le (by simp)]; rfl
  · rw [settleL_congr (how' := fun _ => 0) _ _ _ fun j hj _ => ?_, settleL_0 _ _ _ ?_]
    · refine settleL_256 _ _ _ _ h fun p hp => ?_
      obtain ⟨q, _, rfl⟩ := List.mem_map.mp (List.mem_of_mem_take hp)
      exact putK_len q
    · rw [List.length_take, List.length_map] at hj
      unfold howK
      rw [if_pos (by omega)]
theorem howK_get {keep : List Byt} {k : Nat} (h : k < keep.length) : howK (howL keep) (k : Int) = (((keep.getD k default).v.toNat % 4 : Nat) : Int) := by
  have : (howL keep).length = keep.length := by simp [howL]
  unfold howK
  rw [if_neg (by omega), Int.toNat_natCast, howL_get h]
  omega
theorem read_las {L : List (List UInt8)} {i : Nat} (h : i < L.length) : readD (lasD L) (i : Int) = (L.getD i [], true) := by
  have hh : hasD (lasD L) (i : Int) = true := by unfold hasD lasD; simp; omega
  unfold readD
  rw [if_neg (by rw [hh]; simp [lasD])]
  simp [lasD, lastB]
/-- Two halves, one by one. -/
def halfA (w s : List UInt8) (h : Int) : List UInt8 := if h % 2 = 1 then s.take 128 ++ w.drop 128 else w
def halfB (w s : List UInt8) (h : Int) : List UInt8 := if 2 ≤ h then w.take 128 ++ s.drop 128 else w
theorem half_torn {w s : List UInt8} {h : Int} (hw : w.length = 256) (hs : s.length = 256) (h0 : 0 ≤ h) (h3 : h ≤ 3) : halfB (halfA w s h) s h = tornS w s h := by
  have : h = 0 ∨ h = 1 ∨ h = 2 ∨ h = 3 := by omega
  have e : ∀ a b : List UInt8, a.length = 256 → (a.take 128 ++ b).take 128 = a.take 128 := fun a b ha => by
    rw [List.take_append_of_le_length (by rw [List.length_take]; omega), List.take_take]; rfl
  rcases this with rfl | rfl | rfl | rfl <;> simp [halfA, halfB, tornS, e, hw, hs]
end Go.Proofs.Ytpdjpemmdjeabaa


namespace Go.Proofs.Ytpdjpemmdjeabaa
open Go Go.Eng
def InvD (w : Nat) (d : TDev) : Prop := OkD d ∧ d.Last.length = 4 ∧ d.Wait.length ≤ w ∧ (0 ≤ d.Lies ∧ d.Lies ≤ 300) ∧ (0 ≤ d.Arm ∧ d.Arm ≤ 300)
theorem InvD.mono {w w' : Nat} {d : TDev} (h : InvD w d) (hw : w ≤ w') : InvD w' d := ⟨h.1, h.2.1, Nat.le_trans h.2.2.1 hw, h.2.2.2⟩
theorem invD_wr1 {w : Nat} {d : TDev} (h : InvD w d) (hw : w < 1000) (p : TPut) : InvD (w + 1) (wr1 d p).1 := by
  obtain ⟨ok, hl, hwt, hz, ha⟩ := h
  unfold wr1
  by_cases hc : (!hasD d p.At || !sz256 p.B) = true
  · rw [if_pos hc]; exact ⟨ok, hl, by dsimp only; omega, hz, ha⟩
  · have h1 : hasD d p.At = true := by cases h : hasD d p.At <;> simp [h] at hc ⊢
    have h2 : sz256 p.B = true := by cases h : sz256 p.B <;> simp [h, h1] at hc ⊢
    have h3 : 0 ≤ p.At ∧ p.At < (d.Last.length : Int) := by simpa [hasD] using h1
    have h4' : (p.B.length : Int) = 256 := by simpa [sz256] using h2
    have h4 : p.B.length = 256 := by omega
    have ok' : OkD { d with Wait := d.Wait ++ [p] } := ok.snoc h3.1 h3.2 h4 (by omega)
    have hlen : (d.Wait ++ [p]).length ≤ w + 1 := by rw [List.length_append]; show _ + 1 ≤ _; omega
    rw [if_neg hc]
    split
    · exact ⟨ok', hl, hlen, hz, ha⟩
    split
    · exact ⟨ok'.of rfl rfl, hl, hlen, hz, by dsimp only; omega⟩
    · exact ⟨ok'.of rfl rfl, hl, hlen, hz, by dsimp only; omega⟩
theorem invD_wrL : ∀ (l : List TPut) {w : Nat} {d : TDev}, InvD w d → w + l.length ≤ 1000 → InvD (w + l.length) (wrL d l).1
  | [], _, _, h, _ => h
  | p :: r, w, d, h, hw => by
    have hw' : w + (r.length + 1) ≤ 1000 := hw
    have h1 := invD_wr1 h (by omega) p
    show InvD (w + (r.length + 1)) (if (wr1 d p).2 then wrL (wr1 d p).1 r else ((wr1 d p).1, false)).1
    split
    · exact (invD_wrL r h1 (by omega)).mono (by omega)
    · exact h1.mono (by omega)
theorem InvD.write {w : Nat} {d : TDev} {l : List TPut} (h : InvD w d) (hw : w + l.length ≤ 1000) : InvD (w + l.length) (writeD d l).1 := by
  unfold writeD
  split
  · exact h.mono (by omega)
  · exact invD_wrL l h hw
theorem InvD.flush {w : Nat} {d : TDev} (h : InvD w d) : InvD w (flushD d).1 := by
  obtain ⟨ok, hl, hwt, hz, ha⟩ := h
  unfold flushD
  split
  · exact ⟨ok, hl, hwt, hz, ha⟩
  split
  · exact ⟨ok.of rfl rfl, hl, hwt, by dsimp only; omega, ha⟩
  · have := ok.las (fun _ => 3)
    exact ⟨this.of rfl rfl, by dsimp only; rw [settleL_len]; exact hl, Nat.zero_le _, hz, ha⟩
theorem InvD.crash {w : Nat} {d : TDev} (h : InvD w d) (k : List Int) : InvD w (crashD d k) := by
  obtain ⟨ok, hl, hwt, hz, ha⟩ := h
  exact ⟨ok.las _, by show (settleL _ _ _ _).length = 4; rw [settleL_len]; exact hl, Nat.zero_le _, by show (0 : Int) ≤ 0 ∧ (0 : Int) ≤ 300; decide, by show (0 : Int) ≤ 0 ∧ (0 : Int) ≤ 300; decide⟩
theorem InvD.turn {w : Nat} {d : TDev} (h : InvD w d) (i a b : Int) : InvD w (turnD d i a b) := by
  obtain ⟨ok, hl, hwt, hz, ha⟩ := h
  unfold turnD
  split
  next hc =>
    refine ⟨⟨by dsimp only; rw [List.length_set]; exact ok.1, ok.2.1, fun s hs => ?_, fun p hp => by dsimp only; rw [List.length_set]; exact ok.2.2.2 p hp⟩, by dsimp only; rw [List.length_set]; exact hl, hwt, hz, ha⟩
    rcases List.mem_or_eq_of_mem_set hs with hs | hs
    · exact ok.2.2.1 s hs
    · subst hs
      have h3 : 0 ≤ i ∧ i < (d.Last.length : Int) := by simpa [hasD] using hc.1
      rw [List.length_set, List.getD_eq_getElem?_getD, List.getElem?_eq_getElem (by omega), Option.getD_some]
      exact ok.2.2.1 _ (List.getElem_mem _)
  · exact ⟨ok, hl, hwt, hz, ha⟩
theorem InvD.arm {w : Nat} {d : TDev} (h : InvD w d) {x : Int} (h0 : 0 ≤ x) (h1 : x ≤ 300) : InvD w { d with Arm := x } := ⟨h.1.of rfl rfl, h.2.1, h.2.2.1, h.2.2.2.1, h0, h1⟩
theorem InvD.lies {w : Nat} {d : TDev} (h : InvD w d) {x : Int} (h0 : 0 ≤ x) (h1 : x ≤ 300) : InvD w { d with Lies := x } := ⟨h.1.of rfl rfl, h.2.1, h.2.2.1, ⟨h0, h1⟩, h.2.2.2.2⟩
theorem InvD.new : InvD 0 (newD 4) := ⟨new4_ok, bb4L, by decide +kernel, by decide +kernel, by decide +kernel⟩
end Go.Proofs.Ytpdjpemmdjeabaa

