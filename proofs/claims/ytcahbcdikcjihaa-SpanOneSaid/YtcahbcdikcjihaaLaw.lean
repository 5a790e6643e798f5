/-
  SpanOne.
-/
import Derived.Test.YtcahbcdikcjihaaFnsC
set_option linter.unusedSimpArgs false
set_option linter.unusedVariables false
namespace Go.Proofs.Ytcahbcdikcjihaa
open Go Go.Eng
def G_law8_SpanOne_17 : GCode := .seq (.seq .weak (.region [⟨(some 74), none, .move (.tmp 8)⟩, ⟨(some 75), none, .call ⟨.value (.func 27), #[.tmp 74], #[24]⟩⟩, ⟨(some 76), none, .move (.tmp 5)⟩, ⟨(some 77), none, .call ⟨.value (.func 15), #[.tmp 75, .tmp 76], #[23, 23]⟩⟩, ⟨(some 78), none, .move (.tmp 77)⟩, ⟨(some 79), (some (78, true)), .move (.tmp 9)⟩, ⟨(some 80), (some (78, true)), .move (.tmp 5)⟩, ⟨(some 81), (some (78, true)), .call ⟨.value (.func 15), #[.tmp 79, .tmp 80], #[23, 23]⟩⟩, ⟨(some 82), none, .pick (.tmp 78) (.tmp 81) (.const (.bool false))⟩, ⟨(some 83), none, .move (.tmp 82)⟩, ⟨(some 84), (some (83, true)), .move (.tmp 6)⟩, ⟨(some 85), (some (83, true)), .call ⟨.value (.func 27), #[.tmp 84], #[24]⟩⟩, ⟨(some 86), (some (83, true)), .move (.tmp 5)⟩, ⟨(some 87), (some (83, true)), .call ⟨.value (.func 15), #[.tmp 85, .tmp 86], #[23, 23]⟩⟩, ⟨(some 88), none, .pick (.tmp 83) (.tmp 87) (.const (.bool false))⟩, ⟨(some 4), none, .assign (.tmp 88)⟩])) (.ret)
def G_law8_SpanOne_9 : GCode := .seq (.seq .weak (.region [⟨(some 8), none, .assign (.const (.slice none 0 0))⟩])) (.seq (.region [⟨(some 9), none, .assign (.const (.slice none 0 0))⟩]) (.seq (.seq (.region [⟨(some 36), none, .move (.tmp 6)⟩, ⟨(some 37), none, .call ⟨.builtin .len, #[.tmp 36], #[24]⟩⟩, ⟨(some 38), none, .binOp .sub 3 (.tmp 37) (.const (.int .i64 1)) 3⟩, ⟨(some 10), none, .assign (.tmp 38)⟩]) (.block 0 (.loop (.seq .weak (.seq (.seq (.region [⟨(some 39), none, .move (.tmp 10)⟩, ⟨(some 40), none, .binOp .geq 3 (.tmp 39) (.const (.int .i64 0)) 3⟩]) (.cond (.tmp 40) (.skip) (.exit 0))) (.seq (.block 1 (.seq (.region [⟨(some 43), none, .move (.tmp 10)⟩, ⟨(some 44), none, .move (.tmp 1)⟩, ⟨(some 45), none, .convert 5 3 (.tmp 44)⟩, ⟨(some 46), none, .binOp .add 3 (.tmp 43) (.tmp 45) 3⟩, ⟨(some 47), none, .move (.tmp 6)⟩, ⟨(some 48), none, .call ⟨.builtin .len, #[.tmp 47], #[24]⟩⟩, ⟨(some 49), none, .binOp .rem 3 (.tmp 46) (.tmp 48) 3⟩, ⟨(some 11), none, .assign (.tmp 49)⟩]) (.seq (.region [⟨(some 50), none, .move (.tmp 8)⟩, ⟨(some 51), none, .move (.tmp 6)⟩, ⟨(some 52), none, .move (.tmp 11)⟩, ⟨(some 53), none, .indexAddr 24 (.tmp 51) (.tmp 52)⟩, ⟨(some 54), none, .load 3 (.tmp 53)⟩, ⟨(some 55), none, .move (.tmp 6)⟩, ⟨(some 56), none, .move (.tmp 10)⟩, ⟨(some 57), none, .indexAddr 24 (.tmp 55) (.tmp 56)⟩, ⟨(some 58), none, .load 3 (.tmp 57)⟩, ⟨(some 59), none, .buildSlice 24 2 #[(0, .tmp 54), (1, .tmp 58)]⟩, ⟨(some 60), none, .call ⟨.builtin .append, #[.tmp 50, .tmp 59], #[24, 24]⟩⟩, ⟨(some 8), none, .assign (.tmp 60)⟩]) (.region [⟨(some 61), none, .move (.tmp 6)⟩, ⟨(some 62), none, .move (.tmp 11)⟩, ⟨(some 63), none, .indexAddr 24 (.tmp 61) (.tmp 62)⟩, ⟨(some 64), none, .load 3 (.tmp 63)⟩, ⟨(some 65), none, .move (.tmp 6)⟩, ⟨(some 66), none, .move (.tmp 11)⟩, ⟨(some 67), none, .indexAddr 24 (.tmp 65) (.tmp 66)⟩, ⟨(some 68), none, .load 3 (.tmp 67)⟩, ⟨(some 69), none, .binOp .add 3 (.tmp 68) (.const (.int .i64 1)) 3⟩, ⟨(some 70), none, .build 31 #[(0, .tmp 64), (1, .tmp 69)]⟩, ⟨(some 71), none, .buildSlice 23 1 #[(0, .tmp 70)]⟩, ⟨(some 72), none, .move (.tmp 9)⟩, ⟨(some 73), none, .call ⟨.value (.func 16), #[.tmp 71, .tmp 72], #[23, 23]⟩⟩, ⟨(some 9), none, .assign (.tmp 73)⟩])))) (.region [⟨(some 41), none, .move (.tmp 10)⟩, ⟨(some 42), none, .binOp .sub 3 (.tmp 41) (.const (.int .i64 1)) 3⟩, ⟨(some 10), none, .assign (.tmp 42)⟩]))))))) (G_law8_SpanOne_17)))
def G_law8_SpanOne : GCode := .seq (.region [⟨(some 4), none, .assign (.const (.bool false))⟩]) (.seq (.seq (.region [⟨(some 12), none, .call ⟨.value (.func 10), #[], #[]⟩⟩, ⟨(some 13), none, .unOp .not 4 (.tmp 12)⟩]) (.cond (.tmp 13) (.seq (.region [⟨(some 4), none, .assign (.const (.bool false))⟩]) (.ret)) (.skip))) (.seq (.seq (.region [⟨(some 14), none, .move (.tmp 0)⟩, ⟨(some 15), none, .call ⟨.builtin .len, #[.tmp 14], #[22]⟩⟩, ⟨(some 16), none, .binOp .gtr 3 (.tmp 15) (.const (.int .i64 20)) 3⟩]) (.cond (.tmp 16) (.seq (.region [⟨(some 4), none, .assign (.const (.bool true))⟩]) (.ret)) (.skip))) (.seq (.region [⟨(some 17), none, .move (.tmp 0)⟩, ⟨(some 18), none, .call ⟨.value (.func 11), #[.tmp 17], #[22]⟩⟩, ⟨(some 19), none, .call ⟨.value (.func 12), #[.tmp 18, .const (.int .i64 8)], #[26, 3]⟩⟩, ⟨(some 5), none, .assign (.tmp 19)⟩]) (.seq (.seq .weak (.region [⟨(some 21), none, .move (.tmp 5)⟩, ⟨(some 22), none, .move (.tmp 5)⟩, ⟨(some 23), none, .call ⟨.value (.func 22), #[.tmp 22], #[23]⟩⟩, ⟨(some 24), none, .call ⟨.value (.func 29), #[.tmp 21, .tmp 23], #[23, 3]⟩⟩, ⟨(some 20), none, .move (.tmp 24)⟩, ⟨(some 25), none, .extract (.tmp 20) 0⟩, ⟨(some 26), none, .extract (.tmp 20) 1⟩, ⟨(some 6), none, .assign (.tmp 25)⟩, ⟨(some 7), none, .assign (.tmp 26)⟩])) (.seq (.seq (.region [⟨(some 27), none, .move (.tmp 7)⟩, ⟨(some 28), none, .unOp .not 4 (.tmp 27)⟩, ⟨(some 29), none, .move (.tmp 28)⟩, ⟨(some 30), (some (29, false)), .move (.tmp 6)⟩, ⟨(some 31), (some (29, false)), .call ⟨.builtin .len, #[.tmp 30], #[24]⟩⟩, ⟨(some 32), (some (29, false)), .move (.tmp 5)⟩, ⟨(some 33), (some (29, false)), .call ⟨.value (.func 22), #[.tmp 32], #[23]⟩⟩, ⟨(some 34), (some (29, false)), .binOp .neq 3 (.tmp 31) (.tmp 33) 3⟩, ⟨(some 35), none, .pick (.tmp 29) (.const (.bool true)) (.tmp 34)⟩]) (.cond (.tmp 35) (.seq (.region [⟨(some 4), none, .assign (.const (.bool false))⟩]) (.ret)) (.skip))) (G_law8_SpanOne_9))))))
noncomputable def l_law8_SpanOne : List (Nat × Con) := [(10, c_law8_begun), (11, c_made_Made), (12, c_made_Picks_Runs), (22, c_span_Count), (29, c_span_First), (16, c_span_Add), (27, c_span_Of), (15, c_span_Same)]
noncomputable abbrev K_law8_SpanOne : Ctx := ctx (cl l_law8_SpanOne)
theorem geq_law8_SpanOne : gof K_law8_SpanOne Try.f7 = some G_law8_SpanOne.strip := by kernel_rfl
theorem sys_law8_SpanOne : Go.Eng.Sys Try.prog K_law8_SpanOne := sys_of' ⟨ok_law8_begun, ok_made_Made, ok_made_Picks_Runs, ok_span_Count, ok_span_First, ok_span_Add, ok_span_Of, ok_span_Same, trivial⟩
theorem hm_law8_SpanOne : ConMono K_law8_SpanOne := conMono_of sys_law8_SpanOne.con
noncomputable def k_law8_SpanOne_law8_begun := PLift.up (call_scal (C := K_law8_SpanOne) (f := 10) (A := A_law8_begun) (p := p_law8_begun) (r := r_law8_begun) rfl)
noncomputable def k_law8_SpanOne_made_Made := PLift.up (call_new (C := K_law8_SpanOne) (f := 11) (c := q_made_Made) (e := e_made_Made) (mk := mk_made_Made) rfl)
noncomputable def k_law8_SpanOne_made_Picks_Runs := PLift.up (call_gen (C := K_law8_SpanOne) (f := 12) (modes := m_made_Picks_Runs) (F := F_made_Picks_Runs) rfl)
noncomputable def k_law8_SpanOne_span_Count := PLift.up (call_scal (C := K_law8_SpanOne) (f := 22) (A := A_span_Count) (p := p_span_Count) (r := r_span_Count) rfl)
noncomputable def k_law8_SpanOne_span_First := PLift.up (call_fn (C := K_law8_SpanOne) (f := 29) (A := A_span_First) (p := p_span_First) (r := r_span_First) rfl)
noncomputable def k_law8_SpanOne_span_Add := PLift.up (call_fn (C := K_law8_SpanOne) (f := 16) (A := A_span_Add) (p := p_span_Add) (r := r_span_Add) rfl)
noncomputable def k_law8_SpanOne_span_Of := PLift.up (call_fn (C := K_law8_SpanOne) (f := 27) (A := A_span_Of) (p := p_span_Of) (r := r_span_Of) rfl)
noncomputable def k_law8_SpanOne_span_Same := PLift.up (call_scal (C := K_law8_SpanOne) (f := 15) (A := A_span_Same) (p := p_span_Same) (r := r_span_Same) rfl)
noncomputable def A_law8_SpanOne : Arms ((List Byt) × Byt × Unit) := Arms.cons (argT (List Byt)) (Arms.cons (argT Byt) (Arms.nil))
def p_law8_SpanOne (x : (List Byt) × Byt × Unit) : Prop := (goodList (fun x : Byt => goodAny x) x.1) ∧ (goodAny x.2.1) ∧ goodAny (x.2.2)
abbrev r_law8_SpanOne (x : (List Byt) × Byt × Unit) : AV := rTrue x
theorem rd_law8_SpanOne : ReadsA Try.prog [22, 5] A_law8_SpanOne p_law8_SpanOne := (readsA_T (reads_list Try.underlying22 (reads_u8 Try.underlying5) (by kernel_rfl) (by decide)) (by kernel_rfl) (readsA_T (reads_u8 Try.underlying5) (by kernel_rfl) readsA_nil))
theorem u8w (x : UInt8) : IntKind.i64.wrap (x.toNat : Int) = (x.toNat : Int) := IntWalk.i64_in _ (by have := x.toNat_lt; omega)
theorem mod_all {L n s : Nat} (hs : s < L) : ∃ t, t < L ∧ (t + n) % L = s := by
  have hL : 0 < L := by omega
  have h1 := Nat.mod_lt n hL
  refine ⟨(s + (L - n % L)) % L, Nat.mod_lt _ hL, ?_⟩
  rw [Nat.add_mod, Nat.mod_mod, ← Nat.add_mod]
  have h2 := Nat.div_add_mod n L
  have e : s + (L - n % L) + n = s + L * (n / L + 1) := by
    rw [Nat.mul_add, Nat.mul_one]
    omega
  rw [e, Nat.add_mul_mod_self_left, Nat.mod_eq_of_lt hs]
theorem first_all {x : List TRun} {m : Int} (hx : Sm m x) : firstA x ((secs x).length : Int) = .tup [.t (sl (secs x)), .t (.bool true)] := by
  have hb := cntR_bd hx.ok
  have hs := cntR_secs fun r hr => Int.le_of_lt (hx.nf.ne r hr)
  rw [firstA, if_neg (by omega), firstR, Int.toNat_natCast, List.take_of_length_le (Nat.le_refl _)]
theorem of_secs {x : List TRun} {m : Int} (hx : Sm m x) {l : List Int} (h : ∀ i, i ∈ l ↔ i ∈ secs x) : ofL l = x := nf_ext (ofL_set l).1 hx.nf fun i => by
  rw [(ofL_set l).2, Bool.eq_iff_iff, Bool.and_eq_true, List.contains_iff_mem, h, (secs_of hx.nf).2]
  refine ⟨fun h => h.1, fun h => ⟨h, ?_⟩⟩
  have := hx.wn i h
  simp only [okS8, Bool.and_eq_true, decide_eq_true_eq]
  omega
set_option maxRecDepth 100000 in
set_option maxHeartbeats 4000000 in
theorem one_17 {x : List TRun} (hx : Sm 8 x) {l : List Int} (hl : ∀ i, i ∈ l ↔ i ∈ secs x) (hll : l.length ≤ 1000) {σ : St} (hσ : Wk σ (mkS [(5, .t (sl x)), (6, .t (sl (secs x))), (8, .t (sl l)), (9, .t (sl x))] .empty)) :
    avp K_law8_SpanOne G_law8_SpanOne_17 (Ret K_law8_SpanOne [.tmp 4] fun v _ => v = .t (.bool true)) σ := by
  unfold G_law8_SpanOne_17
  simp only [avp_seq]
  refine ⟨_, hσ, ?_⟩
  have lx := hx.len
  have e1 := of_secs hx hl
  have e2 := of_secs hx (l := secs x) fun _ => Iff.rfl
  have hs := cntR_secs fun r hr => Int.le_of_lt (hx.nf.ne r hr)
  have hb := cntR_bd hx.ok
  simp only [vP.down, vS.down, vE.down, Nat.reduceEqDiff, Nat.reduceAdd, Nat.reduceSub, Nat.reduceMul, Nat.reduceLeDiff, Nat.reduceLT, Int.reduceToNat, reduceIte, reduceCtorEq, Int.reduceEq, Int.reduceLT, Int.reduceLE, ↓avp_condG, ↓tf_arrow, ↓ft_arrow, e1, e2, pick_of, pick_ot, k_law8_SpanOne_span_Of.down, A_span_Of, p_span_Of, r_span_Of, k_law8_SpanOne_span_Same.down, A_span_Same, p_span_Same, r_span_Same]
  ((repeat' with_reducible refine And.intro ?_ ?_) <;> try (first | omega | (simp only [List.length_take, List.length_drop, List.length_append, List.length_map, List.length_replicate] <;> omega)))
  simp only [vP.down, vS.down, vE.down, Nat.reduceEqDiff, Nat.reduceAdd, Nat.reduceSub, Nat.reduceMul, Nat.reduceLeDiff, Nat.reduceLT, Int.reduceToNat, reduceIte, reduceCtorEq, Int.reduceEq, Int.reduceLT, Int.reduceLE, ↓avp_condG, ↓tf_arrow, ↓ft_arrow, vT.down]
set_option maxRecDepth 100000 in
set_option maxHeartbeats 4000000 in
theorem one_9 {n : UInt8} {x : List TRun} (hx : Sm 8 x) {σ : St} (hσ : Wk σ (mkS [(1, .t (.int .u8 (n.toNat : Int))), (5, .t (sl x)), (6, .t (sl (secs x)))] .empty)) :
    avp K_law8_SpanOne G_law8_SpanOne_9 (Ret K_law8_SpanOne [.tmp 4] fun v _ => v = .t (.bool true)) σ := by
  unfold G_law8_SpanOne_9
  simp only [avp_seq]
  refine ⟨_, hσ, ?_⟩
  obtain ⟨e, he⟩ : ∃ e, e = secs x := ⟨_, rfl⟩
  have fin := fun l hl hll σ hσ => one_17 hx (l := l) hl hll (σ := σ) hσ
  have hs := cntR_secs fun r hr => Int.le_of_lt (hx.nf.ne r hr)
  have hb := cntR_bd hx.ok
  have lx := hx.len
  have hmem := (secs_of hx.nf).2
  have hsm : e.length ≤ 40 := by
    have := hx.wn
    rw [he, secs_filter hx.nf hx.wn]
    have := List.length_filter_le (hasR x) (seg 14 40)
    rw [seg_len] at this
    exact this
  rw [← he] at hs fin ⊢
  have hm1 : IntKind.i64.wrap ((e.length : Int) - 1) = (e.length : Int) - 1 := IntWalk.i64_in _ (by omega)
  simp only [vP.down, vS.down, vE.down, Nat.reduceEqDiff, Nat.reduceAdd, Nat.reduceSub, Nat.reduceMul, Nat.reduceLeDiff, Nat.reduceLT, Int.reduceToNat, reduceIte, reduceCtorEq, Int.reduceEq, Int.reduceLT, Int.reduceLE, ↓avp_condG, ↓tf_arrow, ↓ft_arrow, hm1]
  refine loop_weak hm_law8_SpanOne (fun k σ => ∃ (j : Nat) (v : AV) (S : Store) (l : List Int) (y : List TRun), k = j ∧ j ≤ e.length ∧ LV S v l ∧ l.length ≤ 2 * (e.length - j) ∧ (∀ i, i ∈ l → i ∈ e) ∧ (∀ t, j ≤ t → t < e.length → e.getD t default ∈ l) ∧ Nf y ∧ (∀ i, hasR y i = true ↔ ∃ t, j ≤ t ∧ t < e.length ∧ i = e.getD ((t + n.toNat) % e.length) default) ∧
      σ = mkS [(1, .t (.int .u8 (n.toNat : Int))), (5, .t (sl x)), (6, .t (sl e)), (8, v), (9, .t (sl y)), (10, .t (.int .i64 ((j : Int) - 1)))] S)
    ⟨e.length, .t .nilS, .empty, [], [], rfl, Nat.le_refl _, lv_nil, by simp, fun _ h => (by cases h), fun t h1 h2 => by omega, .nil, fun i => ⟨fun h => (by cases h), fun ⟨t, h1, h2, _⟩ => by omega⟩, rfl⟩ (wk_to fewer_refl (by simp only [vP.down, vS.down, vE.down, Nat.reduceEqDiff, Nat.reduceAdd, Nat.reduceSub, Nat.reduceMul, Nat.reduceLeDiff, Nat.reduceLT, Int.reduceToNat, reduceIte, reduceCtorEq, Int.reduceEq, Int.reduceLT, Int.reduceLE, ↓avp_condG, ↓tf_arrow, ↓ft_arrow, wP.down])) ?_
  rintro j _ ⟨_, v, S, l, y, rfl, hj, hv, hll, hle', hel, hy, hyt, rfl⟩
  have hget : ∀ t, t < e.length → e.getD t default ∈ e := fun t ht => by
    rw [List.getD_eq_getElem?_getD, List.getElem?_eq_getElem ht]; exact List.getElem_mem _
  have hge : ∀ i, i ∈ e → ∃ t, t < e.length ∧ i = e.getD t default := fun i hi => by
    obtain ⟨t, ht, rfl⟩ := List.getElem_of_mem hi
    exact ⟨t, ht, by rw [List.getD_eq_getElem?_getD, List.getElem?_eq_getElem ht]; rfl⟩
  have hye : ∀ i, hasR y i = true → i ∈ e := fun i hi => by
    obtain ⟨t, h1, h2, rfl⟩ := (hyt i).1 hi
    exact hget _ (Nat.mod_lt _ (by omega))
  have hyl : y.length ≤ 40 := Nat.le_trans (nf_count hy hye) hsm
  by_cases h0 : j = 0
  · subst h0
    have hlt : ¬ ((0 : Int) ≤ 0 - 1) := by omega
    have hyx : y = x := nf_ext hy hx.nf fun i => by
      rw [Bool.eq_iff_iff, ← hmem i, ← he]
      refine ⟨hye i, fun hi => (hyt i).2 ?_⟩
      obtain ⟨s, hs1, rfl⟩ := hge i hi
      obtain ⟨t, ht1, ht2⟩ := mod_all (n := n.toNat) hs1
      exact ⟨t, Nat.zero_le _, ht1, by rw [ht2]⟩
    rw [hyx]
    simp only [vP.down, vS.down, vE.down, Nat.reduceEqDiff, Nat.reduceAdd, Nat.reduceSub, Nat.reduceMul, Nat.reduceLeDiff, Nat.reduceLT, Int.reduceToNat, reduceIte, reduceCtorEq, Int.reduceEq, Int.reduceLT, Int.reduceLE, ↓avp_condG, ↓tf_arrow, ↓ft_arrow, hlt, ge_iff_le, Int.natCast_zero]
    refine fin l (fun i => ⟨hle' i, fun hi => by obtain ⟨t, ht, rfl⟩ := hge i hi; exact hel t (Nat.zero_le _) ht⟩) (by omega) _ ?_
    exact wk_to fewer_empty (by simp only [vP.down, vS.down, vE.down, Nat.reduceEqDiff, Nat.reduceAdd, Nat.reduceSub, Nat.reduceMul, Nat.reduceLeDiff, Nat.reduceLT, Int.reduceToNat, reduceIte, reduceCtorEq, Int.reduceEq, Int.reduceLT, Int.reduceLE, ↓avp_condG, ↓tf_arrow, ↓ft_arrow, wP.down]; exact hv.w2 fun _ _ => rfl)
  obtain ⟨t, rfl⟩ : ∃ t, j = t + 1 := ⟨j - 1, by omega⟩
  have hjm : ((t + 1 : Nat) : Int) - 1 = (t : Int) := by omega
  rw [hjm]
  have hlt : (0 : Int) ≤ (t : Int) := by omega
  have hn8 := n.toNat_lt
  have ht : t < e.length := by omega
  have hk : (t + n.toNat) % e.length < e.length := Nat.mod_lt _ (by omega)
  have w1 : IntKind.i64.wrap ((t : Int) + (n.toNat : Int)) = (t : Int) + (n.toNat : Int) := IntWalk.i64_in _ (by omega)
  have w2 : ((t : Int) + (n.toNat : Int)).tmod (e.length : Int) = (((t + n.toNat) % e.length : Nat) : Int) := by
    rw [Int.tmod_eq_emod_of_nonneg (by omega)]
    exact (Int.natCast_emod (t + n.toNat) e.length).symm
  have w4 : IntKind.i64.wrap ((t : Int) - 1) = (t : Int) - 1 := IntWalk.i64_in _ (by omega)
  have hne : ¬ (e.length : Int) = 0 := by omega
  obtain ⟨k, hkk⟩ : ∃ k, k = (t + n.toNat) % e.length := ⟨_, rfl⟩
  rw [← hkk] at w2 hk
  have wk2 : IntKind.i64.wrap (k : Int) = (k : Int) := IntWalk.i64_in _ (by omega)
  have hx0 := idx_at (C := K_law8_SpanOne) (l := e) ty_Lint ty_int rfl hk .i64
  have hx1 := idx_at (C := K_law8_SpanOne) (l := e) ty_Lint ty_int rfl ht .i64
  obtain ⟨a, ha⟩ : ∃ a, a = e.getD k default := ⟨_, rfl⟩
  obtain ⟨b, hb⟩ : ∃ b, b = e.getD t default := ⟨_, rfl⟩
  have hae : a ∈ e := by rw [ha]; exact hget _ hk
  have hbe : b ∈ e := by rw [hb]; exact hget _ ht
  have hab := hx.wn a ((hmem a).1 (he ▸ hae))
  rw [← ha] at hx0
  rw [← hb] at hx1
  have w3 : IntKind.i64.wrap (a + 1) = a + 1 := IntWalk.i64_in _ (by omega)
  simp only [vP.down, vS.down, vE.down, Nat.reduceEqDiff, Nat.reduceAdd, Nat.reduceSub, Nat.reduceMul, Nat.reduceLeDiff, Nat.reduceLT, Int.reduceToNat, reduceIte, reduceCtorEq, Int.reduceEq, Int.reduceLT, Int.reduceLE, ↓avp_condG, ↓tf_arrow, ↓ft_arrow, hlt, ge_iff_le, w1, w2, hne, wk2, u8w, hx0, hx1, w3]
  intro g6 hg6
  have hnl := where_len .add [⟨a, a + 1⟩] y
  refine append_new ty_Lint ty_int rfl (by decide) hv hg6 (shows_new (l := [a, b]) rfl) (by simp; omega) (by simp; omega) fun v' S2 hv' kp => ?_
  have hd : (argT (List TRun)).dec (.t (.seq 2 [[.int .i64 a, .int .i64 (a + 1)]])) = some [⟨a, a + 1⟩] := argT_sl (l := [(⟨a, a + 1⟩ : TRun)])
  have hle : 1 + y.length ≤ 1099511627 := by omega
  simp only [vP.down, vS.down, vE.down, Nat.reduceEqDiff, Nat.reduceAdd, Nat.reduceSub, Nat.reduceMul, Nat.reduceLeDiff, Nat.reduceLT, Int.reduceToNat, reduceIte, reduceCtorEq, Int.reduceEq, Int.reduceLT, Int.reduceLE, ↓avp_condG, ↓tf_arrow, ↓ft_arrow, hd, hle, k_law8_SpanOne_span_Add.down, A_span_Add, p_span_Add, r_span_Add]
  intro g7 hg7
  have hyn : ∀ i, hasR (whereL .add [⟨a, a + 1⟩] y) i = (decide (i = a) || hasR y i) := fun i => by rw [where_has, has_one]; rfl
  exact round_to t [(1, .t (.int .u8 (n.toNat : Int))), (5, .t (sl x)), (6, .t (sl e)), (8, v'), (9, .t (sl (whereL .add [⟨a, a + 1⟩] y))), (10, .t (.int .i64 ((t : Int) - 1)))] S2 (by omega) (fewer_sub fun q e' hq => (Store.set_other S2 _ (ne_of hq hg7)).trans hq) (by simp only [vP.down, vS.down, vE.down, Nat.reduceEqDiff, Nat.reduceAdd, Nat.reduceSub, Nat.reduceMul, Nat.reduceLeDiff, Nat.reduceLT, Int.reduceToNat, reduceIte, reduceCtorEq, Int.reduceEq, Int.reduceLT, Int.reduceLE, ↓avp_condG, ↓tf_arrow, ↓ft_arrow, wP.down, w4])
    ⟨t, v', S2, l ++ [a, b], _, rfl, by omega, hv', by rw [List.length_append]; simp; omega, fun i hi => by
      rcases List.mem_append.1 hi with h | h
      · exact hle' i h
      · simp only [List.mem_cons, List.not_mem_nil, or_false] at h
        rcases h with rfl | rfl
        · exact hae
        · exact hbe, fun s h1 h2 => by
      by_cases hst : s = t
      · subst hst; rw [← hb]; simp
      · exact List.mem_append.2 (.inl (hel s (by omega) h2)), where_nf, fun i => by
      rw [hyn, Bool.or_eq_true, decide_eq_true_eq, hyt]
      constructor
      · rintro (h | ⟨s, h1, h2, h3⟩)
        · exact ⟨t, Nat.le_refl _, ht, by rw [← hkk, ← ha]; exact h⟩
        · exact ⟨s, by omega, h2, h3⟩
      · rintro ⟨s, h1, h2, h3⟩
        by_cases hst : s = t
        · subst hst; rw [← hkk, ← ha] at h3; exact .inl h3
        · exact .inr ⟨s, by omega, h2, h3⟩, rfl⟩
set_option maxRecDepth 100000 in
set_option maxHeartbeats 4000000 in
theorem body_law8_SpanOne (x) (hx : p_law8_SpanOne x) : avp K_law8_SpanOne G_law8_SpanOne (Ret K_law8_SpanOne [.tmp 4] fun v _ => v = r_law8_SpanOne x) (entry (A_law8_SpanOne.enc x) .empty) := by
  obtain ⟨a, ⟨n⟩, ⟨⟩⟩ := x
  change avp _ _ (Ret _ _ fun v _ => v = .t (.bool true)) (entry [.t (sl a), .t (.int .u8 (n.toNat : Int))] .empty)
  unfold G_law8_SpanOne
  by_cases c1 : (20 : Int) < (a.length : Int)
  · simp only [vP.down, vS.down, vE.down, Nat.reduceEqDiff, Nat.reduceAdd, Nat.reduceSub, Nat.reduceMul, Nat.reduceLeDiff, Nat.reduceLT, Int.reduceToNat, reduceIte, reduceCtorEq, Int.reduceEq, Int.reduceLT, Int.reduceLE, ↓avp_condG, ↓tf_arrow, ↓ft_arrow, k_law8_SpanOne_law8_begun.down, A_law8_begun, p_law8_begun, r_law8_begun, c1, gt_iff_lt, pick_of, pick_ot]
    simp only [vP.down, vS.down, vE.down, Nat.reduceEqDiff, Nat.reduceAdd, Nat.reduceSub, Nat.reduceMul, Nat.reduceLeDiff, Nat.reduceLT, Int.reduceToNat, reduceIte, reduceCtorEq, Int.reduceEq, Int.reduceLT, Int.reduceLE, ↓avp_condG, ↓tf_arrow, ↓ft_arrow, vT.down]
  simp only [vP.down, vS.down, vE.down, Nat.reduceEqDiff, Nat.reduceAdd, Nat.reduceSub, Nat.reduceMul, Nat.reduceLeDiff, Nat.reduceLT, Int.reduceToNat, reduceIte, reduceCtorEq, Int.reduceEq, Int.reduceLT, Int.reduceLE, ↓avp_condG, ↓tf_arrow, ↓ft_arrow, k_law8_SpanOne_law8_begun.down, A_law8_begun, p_law8_begun, r_law8_begun, c1, gt_iff_lt, pick_of, pick_ot, k_law8_SpanOne_made_Made.down, q_made_Made, e_made_Made, mk_made_Made, k_law8_SpanOne_made_Picks_Runs.down, m_made_Picks_Runs]
  refine ⟨⟨a, rfl⟩, fun g1 hg1 => ?_⟩
  refine runs_any (pk_new hg1 (by omega)) (by omega) (by omega) fun v1 S1 x hv1 hx H1 _ => ?_
  refine weak_at [(1, .t (.int .u8 (n.toNat : Int))), (5, .t (sl x))] .empty fewer_empty (by
    simp only [vP.down, vS.down, vE.down, Nat.reduceEqDiff, Nat.reduceAdd, Nat.reduceSub, Nat.reduceMul, Nat.reduceLeDiff, Nat.reduceLT, Int.reduceToNat, reduceIte, reduceCtorEq, Int.reduceEq, Int.reduceLT, Int.reduceLE, ↓avp_condG, ↓tf_arrow, ↓ft_arrow, wP.down]
    exact hv1.w2 fun _ _ => rfl) ?_
  have lx := hx.len
  have p1 : x.length ≤ 1048576 := by omega
  have p2 : x.length ≤ 4096 := by omega
  have ox := hx.ok
  have hs := cntR_secs fun r hr => Int.le_of_lt (hx.nf.ne r hr)
  simp only [vP.down, vS.down, vE.down, Nat.reduceEqDiff, Nat.reduceAdd, Nat.reduceSub, Nat.reduceMul, Nat.reduceLeDiff, Nat.reduceLT, Int.reduceToNat, reduceIte, reduceCtorEq, Int.reduceEq, Int.reduceLT, Int.reduceLE, ↓avp_condG, ↓tf_arrow, ↓ft_arrow, p1, p2, ox, first_all hx, hs, bne_self_eq_false, pick_of, pick_ot, k_law8_SpanOne_span_Count.down, A_span_Count, p_span_Count, r_span_Count, k_law8_SpanOne_span_First.down, A_span_First, p_span_First, r_span_First]
  exact one_9 (n := n) hx (wk_to fewer_refl (by simp only [vP.down, vS.down, vE.down, Nat.reduceEqDiff, Nat.reduceAdd, Nat.reduceSub, Nat.reduceMul, Nat.reduceLeDiff, Nat.reduceLT, Int.reduceToNat, reduceIte, reduceCtorEq, Int.reduceEq, Int.reduceLT, Int.reduceLE, ↓avp_condG, ↓tf_arrow, ↓ft_arrow, wP.down]))
noncomputable def c_law8_SpanOne : Con := fnScal A_law8_SpanOne p_law8_SpanOne r_law8_SpanOne
theorem ok_law8_SpanOne : COk Try.prog 7 c_law8_SpanOne := fn_sok sys_law8_SpanOne mixed Try.func7 (by kernel_rfl) geq_law8_SpanOne Try.ntmps7 (by rw [Try.results7]) (fun x => by simp [rTrue, AV.scal]) fun x hx => ⟨Nat.le_of_ble_eq_true rfl, body_law8_SpanOne x hx⟩
theorem says_law8_SpanOne : SaysTrue Rows.spanOneSpec 2 := ⟨rfl, fun H ds h => by
  match ds, h with
  | [d0, d1], _ => exact ⟨rfl, rfl, rfl⟩⟩
set_option maxRecDepth 100000 in
theorem lifted_law8_SpanOne (os : Os) (started : os.Started) (H : Type) (enc : TypeId × Value → H) :
    ReturnsInHanded {} Try.checked os 7 .any (Rows.spanOneSpec.pre6 enc Try.prog Try.f7 Rows.spanOneRow.domain false) (Rows.spanOneSpec.post enc Try.prog Try.f7 false true false false) := by
  refine returnsInHanded_of_change (C := Try.checked) own started (by kernel_rfl) Try.func7
    (ChangeSpec.witness6 (enc := enc) (C := Try.checked) false ⟨#[], #[.slice none 0 0, .int .u8 0], []⟩ 8 (by kernel_rfl) (by kernel_rfl) (by kernel_rfl) (by kernel_rfl)) ?_
  intro W base args ds gs before hval hW _ _
  exact law_contract (ts := [22, 5]) (tb := 4) ok_law8_SpanOne (by rw [Try.params7]) (by kernel_rfl) Try.underlying4 laid (by kernel_rfl) rd_law8_SpanOne (fun _ h => h) says_law8_SpanOne H enc W base args ds gs before hval hW
theorem over_law8_SpanOne : Rows.spanOneRow.holds Try.pinned (OpenSpec.ofChange Rows.spanOneSpec) :=
  OpenClaim.holds_of_wide 7 Try.f7 rfl rfl rfl rfl rfl rfl rfl ⟨rfl, rfl, rfl, rfl, rfl⟩ rfl rfl rfl rfl rfl (by kernel_rfl) Try.func7 (by kernel_rfl)
    (of_decide_eq_true (by kernel_rfl)) (by unfold Func.isWrapper; first | (rw [if_pos (by decide +kernel)]; kernel_rfl) | (rw [if_neg (by decide +kernel)]; exact ⟨rfl, rfl⟩))
    (fun os started H enc _ => lifted_law8_SpanOne os started H enc)
theorem spanOne_holds : Rows.SpanOneSaid := over_law8_SpanOne
end Go.Proofs.Ytcahbcdikcjihaa

