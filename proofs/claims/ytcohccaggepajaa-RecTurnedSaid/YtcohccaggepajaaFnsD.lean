/-
  Pointers put are taken, and taken are put: the plain laws.
-/
import Derived.Test.YtcohccaggepajaaFnsC
set_option linter.unusedSimpArgs false
set_option linter.unusedVariables false
namespace Go.Proofs.Ytcohccaggepajaa
open Go Go.Eng
theorem be_num {b : List UInt8} {k : Nat} (h : b.length = k) : be k (num b) = b := by
  refine num_inj _ _ (by rw [be_len, h]) ?_
  have := num_bd k b h
  rw [num_be, Int.emod_eq_of_lt this.1 this.2]
theorem flat_take : ∀ (ws : List Int) (s : List UInt8), (∀ x ∈ ws, 0 ≤ x) → ws.sum ≤ (s.length : Int) → flat ws (takeN ws s) = s.take ws.sum.toNat
  | [], s, _, _ => by simp [flat, takeN]
  | w :: ws, s, h, hl => by
    have hw : 0 ≤ w := h w (by simp)
    have hs : 0 ≤ ws.sum := by
      clear hl
      induction ws with
      | nil => simp
      | cons x r ih =>
        have h1 := ih (fun y hy => h y (by
          rcases List.mem_cons.1 hy with e | e
          · exact e ▸ List.mem_cons_self
          · exact List.mem_cons_of_mem _ (List.mem_cons_of_mem _ e)))
        have h2 := h x (by simp)
        rw [List.sum_cons]; omega
    rw [List.sum_cons] at hl ⊢
    have ih := flat_take ws (s.drop w.toNat) (fun x hx => h x (by simp [hx])) (by rw [List.length_drop]; omega)
    rw [takeN, flat_cons, ih, be_num (by rw [List.length_take]; omega)]
    rw [show (w + ws.sum).toNat = w.toNat + ws.sum.toNat from by omega, List.take_add]
theorem put_take {f s : List UInt8} (h : takeOk f s = true) : putF f (takeL f s) ++ takeR f s = s := by
  have h' := h
  unfold takeOk at h'
  rw [Bool.and_eq_true, decide_eq_true_eq] at h'
  obtain ⟨hok, hl⟩ := h'
  have hn : f.length = (takeL f s).length := by rw [takeL_len h, digs_len]
  rw [putF, if_pos ⟨hn, hok⟩, takeL, if_pos h, takeR, if_pos h, flat_take _ _ (digs_nonneg hok) hl, List.take_append_drop]

theorem u32I_nat (u : UInt32) : u32I (u.toNat : Int) = u := by
  have := u.toNat_lt
  unfold u32I
  rw [Int.emod_eq_of_lt (by omega) (by omega), Int.toNat_natCast]
  simp
theorem numsP_ofN {l : List Int} (h : l.length = 6) (h2 : ∀ i, 2 ≤ i → i < 6 → 0 ≤ l.getD i 0 ∧ l.getD i 0 < 4294967296) : numsP (ofN l) = l := by
  match l, h with
  | [a, b, c, d, e, g], _ =>
    have hu : ∀ x : Int, 0 ≤ x → x < 4294967296 → ((u32I x).toNat : Int) = x := fun x h0 h1 => by
      rw [← u32I_wrap]
      simp only [IntKind.wrap, IntKind.signed, IntKind.bits]
      simp
      omega
    have e2 := h2 2 (by omega) (by omega)
    have e3 := h2 3 (by omega) (by omega)
    have e4 := h2 4 (by omega) (by omega)
    have e5 := h2 5 (by omega) (by omega)
    simp only [List.getD_cons_succ, List.getD_cons_zero] at e2 e3 e4 e5
    simp only [numsP, ofN, List.getD_cons_succ, List.getD_cons_zero, hu _ e2.1 e2.2, hu _ e3.1 e3.2, hu _ e4.1 e4.2, hu _ e5.1 e5.2]
theorem ofN_numsP (p : TPtr) : ofN (numsP p) = p := by
  obtain ⟨a, b, c, d, e, f⟩ := p
  simp [ofN, numsP, u32I_nat]
theorem mayP_bd {p : TPtr} (h : mayP p = true) : 0 ≤ p.Addr ∧ p.Addr ≤ 65535 ∧ 0 ≤ p.Birth ∧ p.Birth ≤ 1073741824 := by
  unfold mayP numB at h
  simp only [Bool.and_eq_true, decide_eq_true_eq] at h
  omega
theorem F6_digs : digs F6 = [2, 4, 4, 4, 4, 4] := by decide
theorem F6_ok : formOk F6 = true := by decide
theorem step_put {p : TPtr} (h : mayP p = true) (b : List UInt8) : stepP (ptrB p ++ b) = some (p, b) := by
  obtain ⟨_, _, h1, h2, h3⟩ := take_put (f := F6) (l := numsP p) b F6_ok rfl
  have hb := mayP_bd h
  have hu : ∀ u : UInt32, (u.toNat : Int) % 4294967296 = (u.toNat : Int) := fun u => Int.emod_eq_of_lt (by omega) (by have := u.toNat_lt; omega)
  have e : List.zipWith (fun (w n : Int) => n % 256 ^ w.toNat) (digs F6) (numsP p) = numsP p := by
    rw [F6_digs]
    unfold numsP
    simp only [List.zipWith_cons_cons, List.zipWith_nil_left]
    have e1 : p.Addr % 256 ^ (Int.toNat 2) = p.Addr := Int.emod_eq_of_lt hb.1 (by have : (256 : Int) ^ (Int.toNat 2) = 65536 := rfl; omega)
    have e4 : (256 : Int) ^ (Int.toNat 4) = 4294967296 := rfl
    rw [e1, e4, hu, hu, hu, hu, Int.emod_eq_of_lt hb.2.2.1 (by omega)]
  unfold stepP
  unfold ptrB
  rw [h1, h2, h3, e, ofN_numsP, if_pos ⟨rfl, h⟩]
theorem step_take {s r : List UInt8} {p : TPtr} (h : stepP s = some (p, r)) : mayP p = true ∧ s = ptrB p ++ r := by
  unfold stepP at h
  split at h
  · next hc =>
    cases h
    refine ⟨hc.2, ?_⟩
    have h6 := takeL6 hc.1
    have hb : ∀ i, 2 ≤ i → i < 6 → 0 ≤ (takeL F6 s).getD i 0 ∧ (takeL F6 s).getD i 0 < 4294967296 := by
      intro i hi hi6
      rw [takeL, if_pos hc.1, F6_digs]
      have key : ∀ b : List UInt8, b.length ≤ 4 → 0 ≤ num b ∧ num b < 4294967296 := fun b hb => by
        have := num_bd b.length b rfl
        refine ⟨this.1, Int.lt_of_lt_of_le this.2 ?_⟩
        rcases (by omega : b.length = 0 ∨ b.length = 1 ∨ b.length = 2 ∨ b.length = 3 ∨ b.length = 4) with e | e | e | e | e <;> rw [e] <;> decide
      rcases (by omega : i = 2 ∨ i = 3 ∨ i = 4 ∨ i = 5) with rfl | rfl | rfl | rfl <;>
        (simp only [takeN, List.getD_cons_succ, List.getD_cons_zero]; exact key _ (by rw [List.length_take]; omega))
    unfold ptrB
    rw [numsP_ofN h6 hb]
    exact (put_take hc.1).symm
  · cases h

theorem ptrsB_snoc (l : List TPtr) (p : TPtr) : ptrsB (l ++ [p]) = ptrsB l ++ ptrB p := by simp [ptrsB]
theorem takeP_put : ∀ (n : Nat) (l : List TPtr) (b : List UInt8), l.length = n → l.all mayP = true → takeP n (ptrsB l ++ b) = some (l, b)
  | 0, l, b, h, _ => by
    obtain rfl := List.length_eq_zero_iff.1 h
    rfl
  | n + 1, l, b, h, ha => by
    obtain ⟨r, p, rfl⟩ : ∃ r p, l = r ++ [p] := by
      refine ⟨l.dropLast, l.getLast (by intro e; rw [e] at h; simp at h), (List.dropLast_concat_getLast _).symm⟩
    rw [List.all_append, Bool.and_eq_true] at ha
    have hp : mayP p = true := by simpa using ha.2
    rw [takeP, ptrsB_snoc, List.append_assoc, takeP_put n r _ (by simpa using h) ha.1]
    simp only [Option.bind_some, step_put hp, Option.map_some]
theorem takeP_take : ∀ (n : Nat) (s b : List UInt8) (l : List TPtr), takeP n s = some (l, b) → l.all mayP = true ∧ s = ptrsB l ++ b
  | 0, s, b, l, h => by cases h; exact ⟨rfl, rfl⟩
  | n + 1, s, b, l, h => by
    rw [takeP, Option.bind_eq_some_iff] at h
    obtain ⟨⟨l', b'⟩, h1, h2⟩ := h
    rw [Option.map_eq_some_iff] at h2
    obtain ⟨⟨q, r⟩, h3, h4⟩ := h2
    cases h4
    obtain ⟨h5, h6⟩ := takeP_take n s b' l' h1
    obtain ⟨h7, h8⟩ := step_take h3
    refine ⟨by rw [List.all_append, h5]; simp [h7], ?_⟩
    rw [ptrsB_snoc, List.append_assoc, ← h8]; exact h6

theorem setT_eq (s : List UInt8) : setT s = setTR s := by
  unfold setT setTR
  by_cases h : setOkR s
  · rw [if_pos h]
    have h' := h
    unfold setOkR takePOk takePR at h'
    cases hp : takeP 8 s with
    | none => rw [hp] at h'; simp at h'
    | some q =>
      obtain ⟨l, b⟩ := q
      rw [hp] at h'
      obtain rfl : b = [] := h'.2
      obtain ⟨h1, h2⟩ := takeP_take 8 s [] l hp
      have h3 := (takeP_len hp).1
      have hl : takePL 8 s = l := by unfold takePL; rw [hp]
      rw [if_pos]
      refine ⟨h.1, ?_⟩
      rw [hl, setF, if_pos ⟨h3, h1⟩, h2, List.append_nil]
  · rw [if_neg h, if_neg]
    rintro ⟨h1, h2⟩
    refine h ⟨h1, ?_⟩
    unfold takePOk at h1
    cases hp : takeP 8 s with
    | none => rw [hp] at h1; cases h1
    | some q =>
      obtain ⟨l, b⟩ := q
      obtain ⟨h4, h5⟩ := takeP_take 8 s b l hp
      have h3 := (takeP_len hp).1
      have hl : takePL 8 s = l := by unfold takePL; rw [hp]
      rw [hl, setF, if_pos ⟨h3, h4⟩] at h2
      have hR : takePR 8 s = b := by unfold takePR; rw [hp]
      rw [hR]
      have := congrArg List.length h2
      rw [h5, List.length_append] at this
      exact List.length_eq_zero_iff.1 (by omega)

theorem set_back {l : List TPtr} (h : l.length = 8) (ha : l.all mayP = true) : setTR (setF l) = (l, true) := by
  have e : takeP 8 (ptrsB l) = some (l, []) := by
    have := takeP_put 8 l [] h ha
    rwa [List.append_nil] at this
  rw [setF, if_pos ⟨h, ha⟩, setTR, if_pos]
  · unfold takePL; rw [e]
  · unfold setOkR takePOk takePR
    rw [e]
    exact ⟨rfl, rfl⟩
theorem setTR_len {s : List UInt8} (h : (setTR s).2 = true) : s.length = 176 ∧ setF (setTR s).1 = s := by
  unfold setTR at h ⊢
  split at h
  · next hk =>
    rw [if_pos hk]
    have h' := hk
    unfold setOkR takePOk takePR at h'
    cases hp : takeP 8 s with
    | none => rw [hp] at h'; simp at h'
    | some q =>
      obtain ⟨l, b⟩ := q
      rw [hp] at h'
      obtain rfl : b = [] := h'.2
      obtain ⟨h1, h2⟩ := takeP_take 8 s [] l hp
      have h3 := (takeP_len hp).1
      have hl : takePL 8 s = l := by unfold takePL; rw [hp]
      rw [List.append_nil] at h2
      refine ⟨by rw [h2, ptrsB_len, h3], ?_⟩
      change setF (takePL 8 s) = s
      rw [hl, setF, if_pos ⟨h3, h1⟩, h2]
  · cases h
theorem node_len {n : TNode} {z : Int} {l : List TPtr} (h : okNode n z l) : (nodeF n z l).length = 93 + n.Name.length := by
  rw [nodeF, if_pos h, nodeB]
  simp only [List.length_append, put3_len, put2_len, ptrsB_len, h.2.2.2.2.2.2.1]
  omega
theorem node_back {n : TNode} {z : Int} {l : List TPtr} (h : okNode n z l) : nodeT (nodeF n z l) = (⟨n.Kind, n.Up, n.Name, [], 0⟩, z, l, true) := by
  have h' := h
  obtain ⟨h1, h2, h3, h4, h5, h6, h7, h8⟩ := h
  rw [show nodeF n z l = nodeB n z l from if_pos h']
  obtain ⟨_, _, a1, a2, a3⟩ := take_put (f := [49, 49, 49]) (l := [n.Kind, n.Up, (n.Name.length : Int)]) (n.Name ++ putF [50] [z] ++ ptrsB l) (by decide) rfl
  obtain ⟨_, _, b1, b2, b3⟩ := take_put (f := [50]) (l := [z]) (ptrsB l) (by decide) rfl
  have d1 : digs [49, 49, 49] = [1, 1, 1] := by decide
  have d2 : digs [50] = [2] := by decide
  have p1 : (256 : Int) ^ (Int.toNat 1) = 256 := rfl
  have p2 : (256 : Int) ^ (Int.toNat 2) = 65536 := rfl
  have eB : nodeB n z l = putF [49, 49, 49] [n.Kind, n.Up, (n.Name.length : Int)] ++ (n.Name ++ putF [50] [z] ++ ptrsB l) := by simp [nodeB]
  rw [d1] at a2
  rw [d2] at b2
  simp only [List.zipWith_cons_cons, List.zipWith_nil_left, p1, p2] at a2 b2
  rw [Int.emod_eq_of_lt (by omega) (by omega), Int.emod_eq_of_lt (by omega) (by omega), Int.emod_eq_of_lt (by omega) (by omega), ← eB] at a2
  rw [Int.emod_eq_of_lt (by omega) (by omega)] at b2
  rw [← eB] at a1 a3
  have eN : nN (nodeB n z l) = [n.Kind, n.Up, (n.Name.length : Int)] := a2
  have eA : nA (nodeB n z l) = n.Name ++ (putF [50] [z] ++ ptrsB l) := by rw [← List.append_assoc]; exact a3
  have eL : nLen (nodeB n z l) = n.Name.length := by unfold nLen; rw [eN]; simp
  have eBB : nB (nodeB n z l) = putF [50] [z] ++ ptrsB l := by unfold nB; rw [eA, eL, List.drop_left]
  have eS : nS (nodeB n z l) = z := by unfold nS; rw [eBB, b2]; rfl
  have eC : nC (nodeB n z l) = ptrsB l := by unfold nC; rw [eBB, b3]
  have eP : takeP 4 (ptrsB l) = some (l, []) := by
    have := takeP_put 4 l [] h7 h8
    rwa [List.append_nil] at this
  have ePL : takePL 4 (nC (nodeB n z l)) = l := by unfold takePL; rw [eC, eP]
  have eNd : nNode (nodeB n z l) = ⟨n.Kind, n.Up, n.Name, [], 0⟩ := by
    unfold nNode
    rw [eN, eA, eL, List.take_left]
    rfl
  have ok2 : okNode ⟨n.Kind, n.Up, n.Name, [], 0⟩ z l := ⟨h1, h2, h3, h4, h5, h6, h7, h8⟩
  have hok : nOk (nodeB n z l) := by
    refine ⟨a1, by rw [eL, eA, List.length_append]; omega, by rw [eBB]; exact b1, ?_, ?_⟩
    · unfold takePOk; rw [eC, eP]; rfl
    · rw [eNd, eS, ePL, nodeF, if_pos ok2]
      rfl
  rw [nodeT, if_pos hok, eNd, eS, ePL]
theorem nodeT_put {s : List UInt8} (h : (nodeT s).2.2.2 = true) : nodeF (nodeT s).1 (nodeT s).2.1 (nodeT s).2.2.1 = s := by
  unfold nodeT at h ⊢
  split at h
  · next hk => rw [if_pos hk]; exact hk.2.2.2.2
  · cases h
end Go.Proofs.Ytcohccaggepajaa


namespace Go.Proofs.Ytcohccaggepajaa
open Go Go.Eng
def numV (l : List Byt) (n : Nat) (m : Int) : Int := if l.length ≤ n ∨ m < 1 then 0 else ((l.getD n default).v.toNat : Int).tmod m
def numN (l : List Byt) (n : Nat) (m : Int) : Nat := if l.length ≤ n ∨ m < 1 then n else n + 1
def pkE (l : List Byt) (n : Nat) : Entry := .box [.t (sl l), .t (.int .i64 (n : Int))] false
theorem numV_bd {l : List Byt} {n : Nat} {m : Int} (h : 1 ≤ m) : 0 ≤ numV l n m ∧ numV l n m < m := by
  unfold numV
  split
  · omega
  · refine ⟨Int.tmod_nonneg _ (by omega), Int.tmod_lt_of_pos _ (by omega)⟩
theorem numN_bd {l : List Byt} {n : Nat} {m : Int} (h : n ≤ l.length) : numN l n m ≤ l.length := by
  unfold numN
  split <;> omega

def G_made_Made : GCode := .seq (.region [⟨(some 2), none, .assign (.const (.pointer none))⟩]) (.seq (.region [⟨(some 3), none, .move (.tmp 0)⟩, ⟨(some 4), none, .build 53 #[(0, .tmp 3)]⟩, ⟨(some 5), none, .box 53 (.tmp 4)⟩, ⟨(some 2), none, .assign (.tmp 5)⟩]) (.ret))
noncomputable def l_made_Made : List (Nat × Con) := []
noncomputable abbrev K_made_Made : Ctx := ctx (cl l_made_Made)
theorem geq_made_Made : gof K_made_Made Try.f8 = some G_made_Made.strip := by kernel_rfl
theorem sys_made_Made : Go.Eng.Sys Try.prog K_made_Made := sys_of' (l := []) trivial
theorem hm_made_Made : ConMono K_made_Made := conMono_of sys_made_Made.con
def q_made_Made (xs : List AV) : Prop := ∃ l : List Byt, xs = [.t (sl l)]
def e_made_Made (xs : List AV) : Entry := .box [xs.headD .unk, .t (.int .i64 0)] false
def mk_made_Made (g : Nat) : AV := .ptr g 0
theorem body_made_Made (xs : List AV) (h : q_made_Made xs) : xs.length ≤ 6 ∧ avp K_made_Made G_made_Made (Ret K_made_Made [.tmp 2] fun r s' => ∃ g, r = mk_made_Made g ∧ s'.f g = some (e_made_Made xs)) (entry xs .empty) := by
  obtain ⟨l, rfl⟩ := h
  refine ⟨by simp, ?_⟩
  unfold G_made_Made
  simp only [vR.down, vr20.down, vr40.down, vr50.down, vr60.down, vr70.down, vr80.down, vr90.down, vr100.down, vS.down, vE.down, List.drop_succ_cons, List.drop_zero, List.take_succ_cons, List.take_zero, Nat.zero_add, Nat.reduceEqDiff, Nat.reduceAdd, Nat.reduceSub, Nat.reduceMul, Nat.reduceLeDiff, Nat.reduceLT, ne_eq, not_false_eq_true, not_true_eq_false, Int.reduceToNat, reduceIte, reduceCtorEq, true_and, and_true, implies_true, forall_const, List.map_cons, List.map_nil, Option.map_some, Option.map_none, Option.bind_some, Option.bind_some, List.append_nil, List.nil_append, List.length_cons, List.length_nil, List.getD_cons_zero, List.getD_cons_succ, Bool.false_eq_true, Nat.zero_lt_succ, vr30.down, Option.toList_some, Option.toList_none, List.cons_append, getD_byt, Int.toNat_natCast, decide_eq_true_eq, decide_eq_false_iff_not, Bool.not_eq_true', Bool.not_eq_false', Bool.and_eq_true, Bool.or_eq_true, Bool.or_eq_false_iff, Bool.and_eq_false_imp, Decidable.not_not, List.length_map, beq_true, beq_false, imp_self, and_self, Option.isSome_some, List.toList_toArray, decide_true, decide_false, Bool.and_true, Bool.true_and, Bool.and_false, Bool.false_and, Bool.or_true, Bool.true_or, Bool.or_false, Bool.false_or, Bool.not_true, Bool.not_false, Int.reduceEq, Int.reduceLT, Int.reduceLE, Int.cast_ofNat_Int, eq_self, Nat.reduceLeDiff, Nat.le_refl, Bool.not_not]
  intro g hg
  simp only [vR.down, vr20.down, vr40.down, vr50.down, vr60.down, vr70.down, vr80.down, vr90.down, vr100.down, vS.down, vE.down, List.drop_succ_cons, List.drop_zero, List.take_succ_cons, List.take_zero, Nat.zero_add, Nat.reduceEqDiff, Nat.reduceAdd, Nat.reduceSub, Nat.reduceMul, Nat.reduceLeDiff, Nat.reduceLT, ne_eq, not_false_eq_true, not_true_eq_false, Int.reduceToNat, reduceIte, reduceCtorEq, true_and, and_true, implies_true, forall_const, List.map_cons, List.map_nil, Option.map_some, Option.map_none, Option.bind_some, Option.bind_some, List.append_nil, List.nil_append, List.length_cons, List.length_nil, List.getD_cons_zero, List.getD_cons_succ, Bool.false_eq_true, Nat.zero_lt_succ, vr30.down, Option.toList_some, Option.toList_none, List.cons_append, getD_byt, Int.toNat_natCast, decide_eq_true_eq, decide_eq_false_iff_not, Bool.not_eq_true', Bool.not_eq_false', Bool.and_eq_true, Bool.or_eq_true, Bool.or_eq_false_iff, Bool.and_eq_false_imp, Decidable.not_not, List.length_map, beq_true, beq_false, imp_self, and_self, Option.isSome_some, List.toList_toArray, decide_true, decide_false, Bool.and_true, Bool.true_and, Bool.and_false, Bool.false_and, Bool.or_true, Bool.true_or, Bool.or_false, Bool.false_or, Bool.not_true, Bool.not_false, Int.reduceEq, Int.reduceLT, Int.reduceLE, Int.cast_ofNat_Int, eq_self, Nat.reduceLeDiff, Nat.le_refl, Bool.not_not, vT.down]
  exact ⟨g, rfl, Store.set_same _ _ _⟩
noncomputable def c_made_Made : Con := newCon q_made_Made e_made_Made mk_made_Made
theorem ok_made_Made : COk Try.prog 8 c_made_Made := fn_nok sys_made_Made mixed Try.func8 (by kernel_rfl) geq_made_Made Try.ntmps8 (by rw [Try.results8]) body_made_Made

def G_made_Picks_Num : GCode := .seq (.region [⟨(some 4), none, .assign (.const (.int .i64 0))⟩]) (.seq (.seq (.region [⟨(some 5), none, .move (.tmp 0)⟩, ⟨(some 6), none, .nilCheck (.tmp 5)⟩, ⟨(some 7), none, .fieldAddr 53 (.tmp 6) 1⟩, ⟨(some 8), none, .load 3 (.tmp 7)⟩, ⟨(some 9), none, .move (.tmp 0)⟩, ⟨(some 10), none, .nilCheck (.tmp 9)⟩, ⟨(some 11), none, .fieldAddr 53 (.tmp 10) 0⟩, ⟨(some 12), none, .load 25 (.tmp 11)⟩, ⟨(some 13), none, .call ⟨.builtin .len, #[.tmp 12], #[25]⟩⟩, ⟨(some 14), none, .binOp .geq 3 (.tmp 8) (.tmp 13) 3⟩, ⟨(some 15), none, .move (.tmp 14)⟩, ⟨(some 16), (some (15, false)), .move (.tmp 1)⟩, ⟨(some 17), (some (15, false)), .binOp .lss 3 (.tmp 16) (.const (.int .i64 1)) 3⟩, ⟨(some 18), none, .pick (.tmp 15) (.const (.bool true)) (.tmp 17)⟩]) (.cond (.tmp 18) (.seq (.region [⟨(some 4), none, .assign (.const (.int .i64 0))⟩]) (.ret)) (.skip))) (.seq (.region [⟨(some 19), none, .move (.tmp 0)⟩, ⟨(some 20), none, .nilCheck (.tmp 19)⟩, ⟨(some 21), none, .fieldAddr 53 (.tmp 20) 1⟩, ⟨(some 22), none, .load 3 (.tmp 21)⟩, ⟨(some 23), none, .binOp .add 3 (.tmp 22) (.const (.int .i64 1)) 3⟩, ⟨(some 24), none, .nilCheck (.tmp 19)⟩, ⟨(some 25), none, .fieldAddr 53 (.tmp 24) 1⟩, ⟨none, none, .store 3 (.tmp 25) (.tmp 23)⟩]) (.seq (.region [⟨(some 26), none, .move (.tmp 0)⟩, ⟨(some 27), none, .nilCheck (.tmp 26)⟩, ⟨(some 28), none, .fieldAddr 53 (.tmp 27) 0⟩, ⟨(some 29), none, .load 25 (.tmp 28)⟩, ⟨(some 30), none, .move (.tmp 0)⟩, ⟨(some 31), none, .nilCheck (.tmp 30)⟩, ⟨(some 32), none, .fieldAddr 53 (.tmp 31) 1⟩, ⟨(some 33), none, .load 3 (.tmp 32)⟩, ⟨(some 34), none, .binOp .sub 3 (.tmp 33) (.const (.int .i64 1)) 3⟩, ⟨(some 35), none, .indexAddr 25 (.tmp 29) (.tmp 34)⟩, ⟨(some 36), none, .load 5 (.tmp 35)⟩, ⟨(some 37), none, .convert 5 3 (.tmp 36)⟩, ⟨(some 38), none, .move (.tmp 1)⟩, ⟨(some 39), none, .binOp .rem 3 (.tmp 37) (.tmp 38) 3⟩, ⟨(some 4), none, .assign (.tmp 39)⟩]) (.ret))))
noncomputable def l_made_Picks_Num : List (Nat × Con) := []
noncomputable abbrev K_made_Picks_Num : Ctx := ctx (cl l_made_Picks_Num)
theorem geq_made_Picks_Num : gof K_made_Picks_Num Try.f30 = some G_made_Picks_Num.strip := by kernel_rfl
theorem sys_made_Picks_Num : Go.Eng.Sys Try.prog K_made_Picks_Num := sys_of' (l := []) trivial
theorem hm_made_Picks_Num : ConMono K_made_Picks_Num := conMono_of sys_made_Picks_Num.con
def m_made_Picks_Num : List Bool := [true, false]
def F_made_Picks_Num (xs : List AV) (s : Store) (Q : AV → Store → Prop) : Prop :=
  ∃ (g : Nat) (l : List Byt) (n : Nat) (m : Int), xs = [.ptr g 0, .t (.int .i64 m)] ∧ s.f g = some (pkE l n) ∧ l.length ≤ 1099511627776 ∧ n ≤ l.length ∧ Q (.t (.int .i64 (numV l n m))) (s.set g (some (pkE l (numN l n m))))
theorem mono_made_Picks_Num (xs : List AV) (s : Store) (Q Q' : AV → Store → Prop) (hq : ∀ r t, Q r t → Q' r t) : F_made_Picks_Num xs s Q → F_made_Picks_Num xs s Q' :=
  fun ⟨g, l, n, m, a, b, c, d, e⟩ => ⟨g, l, n, m, a, b, c, d, hq _ _ e⟩
theorem ex_made_Picks_Num (xs : List AV) (s : Store) (Q : AV → Store → Prop) : F_made_Picks_Num xs s Q → ∃ r t, Q r t := fun ⟨_, _, _, _, _, _, _, _, e⟩ => ⟨_, _, e⟩
theorem body_made_Picks_Num (xs : List AV) (s : Store) (Q : AV → Store → Prop) (h : F_made_Picks_Num xs s Q) : xs.length ≤ 40 ∧ avp K_made_Picks_Num G_made_Picks_Num (Ret K_made_Picks_Num [.tmp 4] fun r s' => ∃ s'', Sub s'' s' ∧ Q r s'') (entry xs s) := by
  obtain ⟨g, l, n, m, rfl, hg, hl, hn, hq⟩ := h
  refine ⟨by simp, ?_⟩
  unfold pkE at hg
  unfold G_made_Picks_Num
  by_cases hge : l.length ≤ n
  · have c1 : (l.length : Int) ≤ (n : Int) := by omega
    simp only [vR.down, vr20.down, vr40.down, vr50.down, vr60.down, vr70.down, vr80.down, vr90.down, vr100.down, vS.down, vE.down, List.drop_succ_cons, List.drop_zero, List.take_succ_cons, List.take_zero, Nat.zero_add, Nat.reduceEqDiff, Nat.reduceAdd, Nat.reduceSub, Nat.reduceMul, Nat.reduceLeDiff, Nat.reduceLT, ne_eq, not_false_eq_true, not_true_eq_false, Int.reduceToNat, reduceIte, reduceCtorEq, true_and, and_true, implies_true, forall_const, List.map_cons, List.map_nil, Option.map_some, Option.map_none, Option.bind_some, Option.bind_some, List.append_nil, List.nil_append, List.length_cons, List.length_nil, List.getD_cons_zero, List.getD_cons_succ, Bool.false_eq_true, Nat.zero_lt_succ, vr30.down, Option.toList_some, Option.toList_none, List.cons_append, getD_byt, Int.toNat_natCast, decide_eq_true_eq, decide_eq_false_iff_not, Bool.not_eq_true', Bool.not_eq_false', Bool.and_eq_true, Bool.or_eq_true, Bool.or_eq_false_iff, Bool.and_eq_false_imp, Decidable.not_not, List.length_map, beq_true, beq_false, imp_self, and_self, Option.isSome_some, List.toList_toArray, decide_true, decide_false, Bool.and_true, Bool.true_and, Bool.and_false, Bool.false_and, Bool.or_true, Bool.true_or, Bool.or_false, Bool.false_or, Bool.not_true, Bool.not_false, Int.reduceEq, Int.reduceLT, Int.reduceLE, Int.cast_ofNat_Int, eq_self, Nat.reduceLeDiff, Nat.le_refl, Bool.not_not, hg, c1, false_implies]
    simp only [vR.down, vr20.down, vr40.down, vr50.down, vr60.down, vr70.down, vr80.down, vr90.down, vr100.down, vS.down, vE.down, List.drop_succ_cons, List.drop_zero, List.take_succ_cons, List.take_zero, Nat.zero_add, Nat.reduceEqDiff, Nat.reduceAdd, Nat.reduceSub, Nat.reduceMul, Nat.reduceLeDiff, Nat.reduceLT, ne_eq, not_false_eq_true, not_true_eq_false, Int.reduceToNat, reduceIte, reduceCtorEq, true_and, and_true, implies_true, forall_const, List.map_cons, List.map_nil, Option.map_some, Option.map_none, Option.bind_some, Option.bind_some, List.append_nil, List.nil_append, List.length_cons, List.length_nil, List.getD_cons_zero, List.getD_cons_succ, Bool.false_eq_true, Nat.zero_lt_succ, vr30.down, Option.toList_some, Option.toList_none, List.cons_append, getD_byt, Int.toNat_natCast, decide_eq_true_eq, decide_eq_false_iff_not, Bool.not_eq_true', Bool.not_eq_false', Bool.and_eq_true, Bool.or_eq_true, Bool.or_eq_false_iff, Bool.and_eq_false_imp, Decidable.not_not, List.length_map, beq_true, beq_false, imp_self, and_self, Option.isSome_some, List.toList_toArray, decide_true, decide_false, Bool.and_true, Bool.true_and, Bool.and_false, Bool.false_and, Bool.or_true, Bool.true_or, Bool.or_false, Bool.false_or, Bool.not_true, Bool.not_false, Int.reduceEq, Int.reduceLT, Int.reduceLE, Int.cast_ofNat_Int, eq_self, Nat.reduceLeDiff, Nat.le_refl, Bool.not_not, vT.down]
    rw [numV, if_pos (.inl hge), numN, if_pos (.inl hge)] at hq
    refine ⟨_, fun k e hk => ?_, hq⟩
    rw [set_f] at hk
    by_cases hkg : k = g
    · subst hkg; rw [if_pos rfl] at hk; rw [hg]; exact hk
    · rwa [if_neg hkg] at hk
  have c1 : ¬ (l.length : Int) ≤ (n : Int) := by omega
  by_cases hm : m < 1
  · simp only [vR.down, vr20.down, vr40.down, vr50.down, vr60.down, vr70.down, vr80.down, vr90.down, vr100.down, vS.down, vE.down, List.drop_succ_cons, List.drop_zero, List.take_succ_cons, List.take_zero, Nat.zero_add, Nat.reduceEqDiff, Nat.reduceAdd, Nat.reduceSub, Nat.reduceMul, Nat.reduceLeDiff, Nat.reduceLT, ne_eq, not_false_eq_true, not_true_eq_false, Int.reduceToNat, reduceIte, reduceCtorEq, true_and, and_true, implies_true, forall_const, List.map_cons, List.map_nil, Option.map_some, Option.map_none, Option.bind_some, Option.bind_some, List.append_nil, List.nil_append, List.length_cons, List.length_nil, List.getD_cons_zero, List.getD_cons_succ, Bool.false_eq_true, Nat.zero_lt_succ, vr30.down, Option.toList_some, Option.toList_none, List.cons_append, getD_byt, Int.toNat_natCast, decide_eq_true_eq, decide_eq_false_iff_not, Bool.not_eq_true', Bool.not_eq_false', Bool.and_eq_true, Bool.or_eq_true, Bool.or_eq_false_iff, Bool.and_eq_false_imp, Decidable.not_not, List.length_map, beq_true, beq_false, imp_self, and_self, Option.isSome_some, List.toList_toArray, decide_true, decide_false, Bool.and_true, Bool.true_and, Bool.and_false, Bool.false_and, Bool.or_true, Bool.true_or, Bool.or_false, Bool.false_or, Bool.not_true, Bool.not_false, Int.reduceEq, Int.reduceLT, Int.reduceLE, Int.cast_ofNat_Int, eq_self, Nat.reduceLeDiff, Nat.le_refl, Bool.not_not, hg, c1, hm, false_implies]
    simp only [vR.down, vr20.down, vr40.down, vr50.down, vr60.down, vr70.down, vr80.down, vr90.down, vr100.down, vS.down, vE.down, List.drop_succ_cons, List.drop_zero, List.take_succ_cons, List.take_zero, Nat.zero_add, Nat.reduceEqDiff, Nat.reduceAdd, Nat.reduceSub, Nat.reduceMul, Nat.reduceLeDiff, Nat.reduceLT, ne_eq, not_false_eq_true, not_true_eq_false, Int.reduceToNat, reduceIte, reduceCtorEq, true_and, and_true, implies_true, forall_const, List.map_cons, List.map_nil, Option.map_some, Option.map_none, Option.bind_some, Option.bind_some, List.append_nil, List.nil_append, List.length_cons, List.length_nil, List.getD_cons_zero, List.getD_cons_succ, Bool.false_eq_true, Nat.zero_lt_succ, vr30.down, Option.toList_some, Option.toList_none, List.cons_append, getD_byt, Int.toNat_natCast, decide_eq_true_eq, decide_eq_false_iff_not, Bool.not_eq_true', Bool.not_eq_false', Bool.and_eq_true, Bool.or_eq_true, Bool.or_eq_false_iff, Bool.and_eq_false_imp, Decidable.not_not, List.length_map, beq_true, beq_false, imp_self, and_self, Option.isSome_some, List.toList_toArray, decide_true, decide_false, Bool.and_true, Bool.true_and, Bool.and_false, Bool.false_and, Bool.or_true, Bool.true_or, Bool.or_false, Bool.false_or, Bool.not_true, Bool.not_false, Int.reduceEq, Int.reduceLT, Int.reduceLE, Int.cast_ofNat_Int, eq_self, Nat.reduceLeDiff, Nat.le_refl, Bool.not_not, vT.down]
    rw [numV, if_pos (.inr hm), numN, if_pos (.inr hm)] at hq
    refine ⟨_, fun k e hk => ?_, hq⟩
    rw [set_f] at hk
    by_cases hkg : k = g
    · subst hkg; rw [if_pos rfl] at hk; rw [hg]; exact hk
    · rwa [if_neg hkg] at hk
  have hno : ¬ (l.length ≤ n ∨ m < 1) := fun h => h.elim hge hm
  rw [numV, if_neg hno, numN, if_neg hno] at hq
  have w1 : IntKind.i64.wrap ((n : Int) + 1) = ((n + 1 : Nat) : Int) := by rw [IntWalk.i64_in _ (by omega)]; rfl
  have w2 : IntKind.i64.wrap (((n + 1 : Nat) : Int) - 1) = (n : Int) := by rw [IntWalk.i64_in _ (by omega)]; omega
  have w3 : ∀ x : UInt8, IntKind.i64.wrap (x.toNat : Int) = (x.toNat : Int) := fun x => IntWalk.i64_in _ (by have := x.toNat_lt; omega)
  simp only [vR.down, vr20.down, vr40.down, vr50.down, vr60.down, vr70.down, vr80.down, vr90.down, vr100.down, vS.down, vE.down, List.drop_succ_cons, List.drop_zero, List.take_succ_cons, List.take_zero, Nat.zero_add, Nat.reduceEqDiff, Nat.reduceAdd, Nat.reduceSub, Nat.reduceMul, Nat.reduceLeDiff, Nat.reduceLT, ne_eq, not_false_eq_true, not_true_eq_false, Int.reduceToNat, reduceIte, reduceCtorEq, true_and, and_true, implies_true, forall_const, List.map_cons, List.map_nil, Option.map_some, Option.map_none, Option.bind_some, Option.bind_some, List.append_nil, List.nil_append, List.length_cons, List.length_nil, List.getD_cons_zero, List.getD_cons_succ, Bool.false_eq_true, Nat.zero_lt_succ, vr30.down, Option.toList_some, Option.toList_none, List.cons_append, getD_byt, Int.toNat_natCast, decide_eq_true_eq, decide_eq_false_iff_not, Bool.not_eq_true', Bool.not_eq_false', Bool.and_eq_true, Bool.or_eq_true, Bool.or_eq_false_iff, Bool.and_eq_false_imp, Decidable.not_not, List.length_map, beq_true, beq_false, imp_self, and_self, Option.isSome_some, List.toList_toArray, decide_true, decide_false, Bool.and_true, Bool.true_and, Bool.and_false, Bool.false_and, Bool.or_true, Bool.true_or, Bool.or_false, Bool.false_or, Bool.not_true, Bool.not_false, Int.reduceEq, Int.reduceLT, Int.reduceLE, Int.cast_ofNat_Int, eq_self, Nat.reduceLeDiff, Nat.le_refl, Bool.not_not, hg, c1, hm, w1, w2, w3, false_implies]
  ((repeat' with_reducible refine And.intro ?_ ?_) <;> try (first | omega | (simp only [List.length_take, List.length_drop, List.length_append, List.length_map, List.length_replicate] <;> omega)))
  simp only [vR.down, vr20.down, vr40.down, vr50.down, vr60.down, vr70.down, vr80.down, vr90.down, vr100.down, vS.down, vE.down, List.drop_succ_cons, List.drop_zero, List.take_succ_cons, List.take_zero, Nat.zero_add, Nat.reduceEqDiff, Nat.reduceAdd, Nat.reduceSub, Nat.reduceMul, Nat.reduceLeDiff, Nat.reduceLT, ne_eq, not_false_eq_true, not_true_eq_false, Int.reduceToNat, reduceIte, reduceCtorEq, true_and, and_true, implies_true, forall_const, List.map_cons, List.map_nil, Option.map_some, Option.map_none, Option.bind_some, Option.bind_some, List.append_nil, List.nil_append, List.length_cons, List.length_nil, List.getD_cons_zero, List.getD_cons_succ, Bool.false_eq_true, Nat.zero_lt_succ, vr30.down, Option.toList_some, Option.toList_none, List.cons_append, getD_byt, Int.toNat_natCast, decide_eq_true_eq, decide_eq_false_iff_not, Bool.not_eq_true', Bool.not_eq_false', Bool.and_eq_true, Bool.or_eq_true, Bool.or_eq_false_iff, Bool.and_eq_false_imp, Decidable.not_not, List.length_map, beq_true, beq_false, imp_self, and_self, Option.isSome_some, List.toList_toArray, decide_true, decide_false, Bool.and_true, Bool.true_and, Bool.and_false, Bool.false_and, Bool.or_true, Bool.true_or, Bool.or_false, Bool.false_or, Bool.not_true, Bool.not_false, Int.reduceEq, Int.reduceLT, Int.reduceLE, Int.cast_ofNat_Int, eq_self, Nat.reduceLeDiff, Nat.le_refl, Bool.not_not, vT.down]
  exact ⟨_, fun k e hk => hk, hq⟩
noncomputable def c_made_Picks_Num : Con := .gen m_made_Picks_Num F_made_Picks_Num
theorem ok_made_Picks_Num : COk Try.prog 30 c_made_Picks_Num := fn_gok sys_made_Picks_Num mixed Try.func30 (by kernel_rfl) geq_made_Picks_Num Try.ntmps30 (by rw [Try.results30]) mono_made_Picks_Num ex_made_Picks_Num body_made_Picks_Num
end Go.Proofs.Ytcohccaggepajaa


namespace Go.Proofs.Ytcohccaggepajaa
open Go Go.Eng
def ptrAt (l : List Byt) (n : Nat) : TPtr × Nat :=
  if numV l n 4 = 0 then (ptr0, numN l n 4) else
    let n1 := numN l n 4
    let n2 := numN l n1 60
    let n3 := numN l n2 90
    let n4 := numN l n3 256
    let n5 := numN l n4 256
    (⟨14 + numV l n1 60, 1 + numV l n2 90, (u32I (((u32I (numV l n3 256)).toNat : Int) * 2 ^ min 24 IntKind.u32.bits), u32I (numV l n4 256), 5, u32I (numV l n5 9))⟩, numN l n5 9)
def ptrsAt (l : List Byt) (n : Nat) : Nat → List TPtr × Nat
  | 0 => ([], n)
  | k + 1 => ((ptrsAt l n k).1 ++ [(ptrAt l (ptrsAt l n k).2).1], (ptrAt l (ptrsAt l n k).2).2)
theorem ptrAt_bd {l : List Byt} {n : Nat} (h : n ≤ l.length) : (ptrAt l n).2 ≤ l.length ∧ mayP (ptrAt l n).1 = true := by
  unfold ptrAt
  split
  · exact ⟨numN_bd h, rfl⟩
  · refine ⟨numN_bd (numN_bd (numN_bd (numN_bd (numN_bd (numN_bd h))))), ?_⟩
    have h1 := numV_bd (l := l) (n := numN l n 4) (m := 60) (by omega)
    have h2 := numV_bd (l := l) (n := numN l (numN l n 4) 60) (m := 90) (by omega)
    simp only [mayP, numB, Bool.and_eq_true, decide_eq_true_eq, Bool.or_eq_true]
    omega
theorem ptrsAt_bd {l : List Byt} {n : Nat} (h : n ≤ l.length) : ∀ k, (ptrsAt l n k).2 ≤ l.length ∧ (ptrsAt l n k).1.all mayP = true ∧ (ptrsAt l n k).1.length = k
  | 0 => ⟨h, rfl, rfl⟩
  | k + 1 => by
    obtain ⟨h1, h2, h3⟩ := ptrsAt_bd h k
    obtain ⟨h4, h5⟩ := ptrAt_bd h1
    refine ⟨h4, ?_, by simp [ptrsAt, h3]⟩
    simp only [ptrsAt, List.all_append, h2, List.all_cons, h5, List.all_nil, Bool.and_self]

def G_made_Picks_Ptr : GCode := .seq (.region [⟨(some 2), none, .alloc 30⟩]) (.seq (.seq (.region [⟨(some 3), none, .move (.tmp 0)⟩, ⟨(some 4), none, .call ⟨.value (.func 30), #[.tmp 3, .const (.int .i64 4)], #[32, 3]⟩⟩, ⟨(some 5), none, .binOp .eql 3 (.tmp 4) (.const (.int .i64 0)) 3⟩]) (.cond (.tmp 5) (.seq (.region [⟨(some 6), none, .build 30 #[]⟩, ⟨none, none, .store 30 (.tmp 2) (.tmp 6)⟩]) (.ret)) (.skip))) (.seq (.region [⟨(some 7), none, .move (.tmp 0)⟩, ⟨(some 8), none, .call ⟨.value (.func 30), #[.tmp 7, .const (.int .i64 60)], #[32, 3]⟩⟩, ⟨(some 9), none, .binOp .add 3 (.const (.int .i64 14)) (.tmp 8) 3⟩, ⟨(some 10), none, .move (.tmp 0)⟩, ⟨(some 11), none, .call ⟨.value (.func 30), #[.tmp 10, .const (.int .i64 90)], #[32, 3]⟩⟩, ⟨(some 12), none, .binOp .add 3 (.const (.int .i64 1)) (.tmp 11) 3⟩, ⟨(some 13), none, .move (.tmp 0)⟩, ⟨(some 14), none, .call ⟨.value (.func 30), #[.tmp 13, .const (.int .i64 256)], #[32, 3]⟩⟩, ⟨(some 15), none, .convert 3 26 (.tmp 14)⟩, ⟨(some 16), none, .binOp .shl 26 (.tmp 15) (.const (.int .u64 24)) 64⟩, ⟨(some 17), none, .move (.tmp 0)⟩, ⟨(some 18), none, .call ⟨.value (.func 30), #[.tmp 17, .const (.int .i64 256)], #[32, 3]⟩⟩, ⟨(some 19), none, .convert 3 26 (.tmp 18)⟩, ⟨(some 20), none, .move (.tmp 0)⟩, ⟨(some 21), none, .call ⟨.value (.func 30), #[.tmp 20, .const (.int .i64 9)], #[32, 3]⟩⟩, ⟨(some 22), none, .convert 3 26 (.tmp 21)⟩, ⟨(some 23), none, .build 28 #[(0, .tmp 16), (1, .tmp 19), (2, .const (.int .u32 5)), (3, .tmp 22)]⟩, ⟨(some 24), none, .build 30 #[(0, .tmp 9), (1, .tmp 12), (2, .tmp 23)]⟩, ⟨none, none, .store 30 (.tmp 2) (.tmp 24)⟩]) (.ret)))
noncomputable def l_made_Picks_Ptr : List (Nat × Con) := [(30, c_made_Picks_Num)]
noncomputable abbrev K_made_Picks_Ptr : Ctx := ctx (cl l_made_Picks_Ptr)
theorem geq_made_Picks_Ptr : gof K_made_Picks_Ptr Try.f19 = some G_made_Picks_Ptr.strip := by kernel_rfl
theorem sys_made_Picks_Ptr : Go.Eng.Sys Try.prog K_made_Picks_Ptr := sys_of' ⟨ok_made_Picks_Num, trivial⟩
theorem hm_made_Picks_Ptr : ConMono K_made_Picks_Ptr := conMono_of sys_made_Picks_Ptr.con
noncomputable def k_made_Picks_Ptr_made_Picks_Num := PLift.up (call_gen (C := K_made_Picks_Ptr) (f := 30) (modes := m_made_Picks_Num) (F := F_made_Picks_Num) rfl)
def m_made_Picks_Ptr : List Bool := [true]
def F_made_Picks_Ptr (xs : List AV) (s : Store) (Q : AV → Store → Prop) : Prop :=
  ∃ (g : Nat) (l : List Byt) (n : Nat), xs = [.ptr g 0] ∧ s.f g = some (pkE l n) ∧ l.length ≤ 1099511627776 ∧ n ≤ l.length ∧ Q (.agg ((Cell.enc (ptrAt l n).1).map .t)) (s.set g (some (pkE l (ptrAt l n).2)))
theorem mono_made_Picks_Ptr (xs : List AV) (s : Store) (Q Q' : AV → Store → Prop) (hq : ∀ r t, Q r t → Q' r t) : F_made_Picks_Ptr xs s Q → F_made_Picks_Ptr xs s Q' :=
  fun ⟨g, l, n, a, b, c, d, e⟩ => ⟨g, l, n, a, b, c, d, hq _ _ e⟩
theorem ex_made_Picks_Ptr (xs : List AV) (s : Store) (Q : AV → Store → Prop) : F_made_Picks_Ptr xs s Q → ∃ r t, Q r t := fun ⟨_, _, _, _, _, _, _, e⟩ => ⟨_, _, e⟩
set_option maxRecDepth 10000 in
theorem body_made_Picks_Ptr (xs : List AV) (s : Store) (Q : AV → Store → Prop) (h : F_made_Picks_Ptr xs s Q) : xs.length ≤ 25 ∧ avp K_made_Picks_Ptr G_made_Picks_Ptr (Ret K_made_Picks_Ptr [.cell 2 30] fun r s' => ∃ s'', Sub s'' s' ∧ Q r s'') (entry xs s) := by
  obtain ⟨g, l, n, rfl, hg, hl, hn, hq⟩ := h
  refine ⟨by simp, ?_⟩
  unfold G_made_Picks_Ptr
  simp only [vR.down, vr20.down, vr40.down, vr50.down, vr60.down, vr70.down, vr80.down, vr90.down, vr100.down, vS.down, vE.down, List.drop_succ_cons, List.drop_zero, List.take_succ_cons, List.take_zero, Nat.zero_add, Nat.reduceEqDiff, Nat.reduceAdd, Nat.reduceSub, Nat.reduceMul, Nat.reduceLeDiff, Nat.reduceLT, ne_eq, not_false_eq_true, not_true_eq_false, Int.reduceToNat, reduceIte, reduceCtorEq, true_and, and_true, implies_true, forall_const, List.map_cons, List.map_nil, Option.map_some, Option.map_none, Option.bind_some, Option.bind_some, List.append_nil, List.nil_append, List.length_cons, List.length_nil, List.getD_cons_zero, List.getD_cons_succ, Bool.false_eq_true, Nat.zero_lt_succ, vr30.down, Option.toList_some, Option.toList_none, List.cons_append, getD_byt, Int.toNat_natCast, decide_eq_true_eq, decide_eq_false_iff_not, Bool.not_eq_true', Bool.not_eq_false', Bool.and_eq_true, Bool.or_eq_true, Bool.or_eq_false_iff, Bool.and_eq_false_imp, Decidable.not_not, List.length_map, beq_true, beq_false, imp_self, and_self, Option.isSome_some, List.toList_toArray, decide_true, decide_false, Bool.and_true, Bool.true_and, Bool.and_false, Bool.false_and, Bool.or_true, Bool.true_or, Bool.or_false, Bool.false_or, Bool.not_true, Bool.not_false, Int.reduceEq, Int.reduceLT, Int.reduceLE, Int.cast_ofNat_Int, eq_self, Nat.reduceLeDiff, Nat.le_refl, Bool.not_not]
  intro g2 hg2
  have hne : g ≠ g2 := fun h => by rw [h, hg2] at hg; cases hg
  have hsub : ∀ (e : Entry) (b : Option Entry), Sub (s.set g (some e)) ((s.set g (some e)).set g2 b) := fun e b k x hk => by
    rw [set_f] at hk ⊢
    by_cases h2 : k = g2
    · subst h2
      rw [if_neg (Ne.symm hne), hg2] at hk; cases hk
    · rw [if_neg h2, set_f]; exact hk
  have comm : ∀ (t : Store) (a b : Option Entry), (t.set g2 a).set g b = (t.set g b).set g2 a := fun t a b => Store.ext' fun k => by
    simp only [set_f]
    by_cases h1 : k = g
    · subst h1; simp [hne]
    · simp [h1]
  simp only [vR.down, vr20.down, vr40.down, vr50.down, vr60.down, vr70.down, vr80.down, vr90.down, vr100.down, vS.down, vE.down, List.drop_succ_cons, List.drop_zero, List.take_succ_cons, List.take_zero, Nat.zero_add, Nat.reduceEqDiff, Nat.reduceAdd, Nat.reduceSub, Nat.reduceMul, Nat.reduceLeDiff, Nat.reduceLT, ne_eq, not_false_eq_true, not_true_eq_false, Int.reduceToNat, reduceIte, reduceCtorEq, true_and, and_true, implies_true, forall_const, List.map_cons, List.map_nil, Option.map_some, Option.map_none, Option.bind_some, Option.bind_some, List.append_nil, List.nil_append, List.length_cons, List.length_nil, List.getD_cons_zero, List.getD_cons_succ, Bool.false_eq_true, Nat.zero_lt_succ, vr30.down, Option.toList_some, Option.toList_none, List.cons_append, getD_byt, Int.toNat_natCast, decide_eq_true_eq, decide_eq_false_iff_not, Bool.not_eq_true', Bool.not_eq_false', Bool.and_eq_true, Bool.or_eq_true, Bool.or_eq_false_iff, Bool.and_eq_false_imp, Decidable.not_not, List.length_map, beq_true, beq_false, imp_self, and_self, Option.isSome_some, List.toList_toArray, decide_true, decide_false, Bool.and_true, Bool.true_and, Bool.and_false, Bool.false_and, Bool.or_true, Bool.true_or, Bool.or_false, Bool.false_or, Bool.not_true, Bool.not_false, Int.reduceEq, Int.reduceLT, Int.reduceLE, Int.cast_ofNat_Int, eq_self, Nat.reduceLeDiff, Nat.le_refl, Bool.not_not, k_made_Picks_Ptr_made_Picks_Num.down, m_made_Picks_Num]
  refine ⟨g, l, n, 4, rfl, by rw [Store.set_other _ _ hne]; exact hg, hl, hn, ?_⟩
  by_cases h0 : numV l n 4 = 0
  · simp only [vR.down, vr20.down, vr40.down, vr50.down, vr60.down, vr70.down, vr80.down, vr90.down, vr100.down, vS.down, vE.down, List.drop_succ_cons, List.drop_zero, List.take_succ_cons, List.take_zero, Nat.zero_add, Nat.reduceEqDiff, Nat.reduceAdd, Nat.reduceSub, Nat.reduceMul, Nat.reduceLeDiff, Nat.reduceLT, ne_eq, not_false_eq_true, not_true_eq_false, Int.reduceToNat, reduceIte, reduceCtorEq, true_and, and_true, implies_true, forall_const, List.map_cons, List.map_nil, Option.map_some, Option.map_none, Option.bind_some, Option.bind_some, List.append_nil, List.nil_append, List.length_cons, List.length_nil, List.getD_cons_zero, List.getD_cons_succ, Bool.false_eq_true, Nat.zero_lt_succ, vr30.down, Option.toList_some, Option.toList_none, List.cons_append, getD_byt, Int.toNat_natCast, decide_eq_true_eq, decide_eq_false_iff_not, Bool.not_eq_true', Bool.not_eq_false', Bool.and_eq_true, Bool.or_eq_true, Bool.or_eq_false_iff, Bool.and_eq_false_imp, Decidable.not_not, List.length_map, beq_true, beq_false, imp_self, and_self, Option.isSome_some, List.toList_toArray, decide_true, decide_false, Bool.and_true, Bool.true_and, Bool.and_false, Bool.false_and, Bool.or_true, Bool.true_or, Bool.or_false, Bool.false_or, Bool.not_true, Bool.not_false, Int.reduceEq, Int.reduceLT, Int.reduceLE, Int.cast_ofNat_Int, eq_self, Nat.reduceLeDiff, Nat.le_refl, Bool.not_not, h0, false_implies, comm]
    ((repeat' with_reducible refine And.intro ?_ ?_) <;> try (first | omega | (simp only [List.length_take, List.length_drop, List.length_append, List.length_map, List.length_replicate] <;> omega)))
    simp only [vR.down, vr20.down, vr40.down, vr50.down, vr60.down, vr70.down, vr80.down, vr90.down, vr100.down, vS.down, vE.down, List.drop_succ_cons, List.drop_zero, List.take_succ_cons, List.take_zero, Nat.zero_add, Nat.reduceEqDiff, Nat.reduceAdd, Nat.reduceSub, Nat.reduceMul, Nat.reduceLeDiff, Nat.reduceLT, ne_eq, not_false_eq_true, not_true_eq_false, Int.reduceToNat, reduceIte, reduceCtorEq, true_and, and_true, implies_true, forall_const, List.map_cons, List.map_nil, Option.map_some, Option.map_none, Option.bind_some, Option.bind_some, List.append_nil, List.nil_append, List.length_cons, List.length_nil, List.getD_cons_zero, List.getD_cons_succ, Bool.false_eq_true, Nat.zero_lt_succ, vr30.down, Option.toList_some, Option.toList_none, List.cons_append, getD_byt, Int.toNat_natCast, decide_eq_true_eq, decide_eq_false_iff_not, Bool.not_eq_true', Bool.not_eq_false', Bool.and_eq_true, Bool.or_eq_true, Bool.or_eq_false_iff, Bool.and_eq_false_imp, Decidable.not_not, List.length_map, beq_true, beq_false, imp_self, and_self, Option.isSome_some, List.toList_toArray, decide_true, decide_false, Bool.and_true, Bool.true_and, Bool.and_false, Bool.false_and, Bool.or_true, Bool.true_or, Bool.or_false, Bool.false_or, Bool.not_true, Bool.not_false, Int.reduceEq, Int.reduceLT, Int.reduceLE, Int.cast_ofNat_Int, eq_self, Nat.reduceLeDiff, Nat.le_refl, Bool.not_not, vT.down]
    rw [ptrAt, if_pos h0] at hq
    exact ⟨_, hsub _ _, hq⟩
  simp only [vR.down, vr20.down, vr40.down, vr50.down, vr60.down, vr70.down, vr80.down, vr90.down, vr100.down, vS.down, vE.down, List.drop_succ_cons, List.drop_zero, List.take_succ_cons, List.take_zero, Nat.zero_add, Nat.reduceEqDiff, Nat.reduceAdd, Nat.reduceSub, Nat.reduceMul, Nat.reduceLeDiff, Nat.reduceLT, ne_eq, not_false_eq_true, not_true_eq_false, Int.reduceToNat, reduceIte, reduceCtorEq, true_and, and_true, implies_true, forall_const, List.map_cons, List.map_nil, Option.map_some, Option.map_none, Option.bind_some, Option.bind_some, List.append_nil, List.nil_append, List.length_cons, List.length_nil, List.getD_cons_zero, List.getD_cons_succ, Bool.false_eq_true, Nat.zero_lt_succ, vr30.down, Option.toList_some, Option.toList_none, List.cons_append, getD_byt, Int.toNat_natCast, decide_eq_true_eq, decide_eq_false_iff_not, Bool.not_eq_true', Bool.not_eq_false', Bool.and_eq_true, Bool.or_eq_true, Bool.or_eq_false_iff, Bool.and_eq_false_imp, Decidable.not_not, List.length_map, beq_true, beq_false, imp_self, and_self, Option.isSome_some, List.toList_toArray, decide_true, decide_false, Bool.and_true, Bool.true_and, Bool.and_false, Bool.false_and, Bool.or_true, Bool.true_or, Bool.or_false, Bool.false_or, Bool.not_true, Bool.not_false, Int.reduceEq, Int.reduceLT, Int.reduceLE, Int.cast_ofNat_Int, eq_self, Nat.reduceLeDiff, Nat.le_refl, Bool.not_not, h0, false_implies, k_made_Picks_Ptr_made_Picks_Num.down, m_made_Picks_Num]
  have e1 := numN_bd (m := 4) hn
  refine ⟨g, l, numN l n 4, 60, rfl, by rw [Store.set_same], hl, e1, ?_⟩
  have e2 := numN_bd (m := 60) e1
  simp only [vR.down, vr20.down, vr40.down, vr50.down, vr60.down, vr70.down, vr80.down, vr90.down, vr100.down, vS.down, vE.down, List.drop_succ_cons, List.drop_zero, List.take_succ_cons, List.take_zero, Nat.zero_add, Nat.reduceEqDiff, Nat.reduceAdd, Nat.reduceSub, Nat.reduceMul, Nat.reduceLeDiff, Nat.reduceLT, ne_eq, not_false_eq_true, not_true_eq_false, Int.reduceToNat, reduceIte, reduceCtorEq, true_and, and_true, implies_true, forall_const, List.map_cons, List.map_nil, Option.map_some, Option.map_none, Option.bind_some, Option.bind_some, List.append_nil, List.nil_append, List.length_cons, List.length_nil, List.getD_cons_zero, List.getD_cons_succ, Bool.false_eq_true, Nat.zero_lt_succ, vr30.down, Option.toList_some, Option.toList_none, List.cons_append, getD_byt, Int.toNat_natCast, decide_eq_true_eq, decide_eq_false_iff_not, Bool.not_eq_true', Bool.not_eq_false', Bool.and_eq_true, Bool.or_eq_true, Bool.or_eq_false_iff, Bool.and_eq_false_imp, Decidable.not_not, List.length_map, beq_true, beq_false, imp_self, and_self, Option.isSome_some, List.toList_toArray, decide_true, decide_false, Bool.and_true, Bool.true_and, Bool.and_false, Bool.false_and, Bool.or_true, Bool.true_or, Bool.or_false, Bool.false_or, Bool.not_true, Bool.not_false, Int.reduceEq, Int.reduceLT, Int.reduceLE, Int.cast_ofNat_Int, eq_self, Nat.reduceLeDiff, Nat.le_refl, Bool.not_not, k_made_Picks_Ptr_made_Picks_Num.down, m_made_Picks_Num]
  refine ⟨g, l, _, 90, rfl, by rw [Store.set_same], hl, e2, ?_⟩
  have e3 := numN_bd (m := 90) e2
  simp only [vR.down, vr20.down, vr40.down, vr50.down, vr60.down, vr70.down, vr80.down, vr90.down, vr100.down, vS.down, vE.down, List.drop_succ_cons, List.drop_zero, List.take_succ_cons, List.take_zero, Nat.zero_add, Nat.reduceEqDiff, Nat.reduceAdd, Nat.reduceSub, Nat.reduceMul, Nat.reduceLeDiff, Nat.reduceLT, ne_eq, not_false_eq_true, not_true_eq_false, Int.reduceToNat, reduceIte, reduceCtorEq, true_and, and_true, implies_true, forall_const, List.map_cons, List.map_nil, Option.map_some, Option.map_none, Option.bind_some, Option.bind_some, List.append_nil, List.nil_append, List.length_cons, List.length_nil, List.getD_cons_zero, List.getD_cons_succ, Bool.false_eq_true, Nat.zero_lt_succ, vr30.down, Option.toList_some, Option.toList_none, List.cons_append, getD_byt, Int.toNat_natCast, decide_eq_true_eq, decide_eq_false_iff_not, Bool.not_eq_true', Bool.not_eq_false', Bool.and_eq_true, Bool.or_eq_true, Bool.or_eq_false_iff, Bool.and_eq_false_imp, Decidable.not_not, List.length_map, beq_true, beq_false, imp_self, and_self, Option.isSome_some, List.toList_toArray, decide_true, decide_false, Bool.and_true, Bool.true_and, Bool.and_false, Bool.false_and, Bool.or_true, Bool.true_or, Bool.or_false, Bool.false_or, Bool.not_true, Bool.not_false, Int.reduceEq, Int.reduceLT, Int.reduceLE, Int.cast_ofNat_Int, eq_self, Nat.reduceLeDiff, Nat.le_refl, Bool.not_not, k_made_Picks_Ptr_made_Picks_Num.down, m_made_Picks_Num]
  refine ⟨g, l, _, 256, rfl, by rw [Store.set_same], hl, e3, ?_⟩
  have e4 := numN_bd (m := 256) e3
  simp only [vR.down, vr20.down, vr40.down, vr50.down, vr60.down, vr70.down, vr80.down, vr90.down, vr100.down, vS.down, vE.down, List.drop_succ_cons, List.drop_zero, List.take_succ_cons, List.take_zero, Nat.zero_add, Nat.reduceEqDiff, Nat.reduceAdd, Nat.reduceSub, Nat.reduceMul, Nat.reduceLeDiff, Nat.reduceLT, ne_eq, not_false_eq_true, not_true_eq_false, Int.reduceToNat, reduceIte, reduceCtorEq, true_and, and_true, implies_true, forall_const, List.map_cons, List.map_nil, Option.map_some, Option.map_none, Option.bind_some, Option.bind_some, List.append_nil, List.nil_append, List.length_cons, List.length_nil, List.getD_cons_zero, List.getD_cons_succ, Bool.false_eq_true, Nat.zero_lt_succ, vr30.down, Option.toList_some, Option.toList_none, List.cons_append, getD_byt, Int.toNat_natCast, decide_eq_true_eq, decide_eq_false_iff_not, Bool.not_eq_true', Bool.not_eq_false', Bool.and_eq_true, Bool.or_eq_true, Bool.or_eq_false_iff, Bool.and_eq_false_imp, Decidable.not_not, List.length_map, beq_true, beq_false, imp_self, and_self, Option.isSome_some, List.toList_toArray, decide_true, decide_false, Bool.and_true, Bool.true_and, Bool.and_false, Bool.false_and, Bool.or_true, Bool.true_or, Bool.or_false, Bool.false_or, Bool.not_true, Bool.not_false, Int.reduceEq, Int.reduceLT, Int.reduceLE, Int.cast_ofNat_Int, eq_self, Nat.reduceLeDiff, Nat.le_refl, Bool.not_not, k_made_Picks_Ptr_made_Picks_Num.down, m_made_Picks_Num]
  refine ⟨g, l, _, 256, rfl, by rw [Store.set_same], hl, e4, ?_⟩
  have e5 := numN_bd (m := 256) e4
  simp only [vR.down, vr20.down, vr40.down, vr50.down, vr60.down, vr70.down, vr80.down, vr90.down, vr100.down, vS.down, vE.down, List.drop_succ_cons, List.drop_zero, List.take_succ_cons, List.take_zero, Nat.zero_add, Nat.reduceEqDiff, Nat.reduceAdd, Nat.reduceSub, Nat.reduceMul, Nat.reduceLeDiff, Nat.reduceLT, ne_eq, not_false_eq_true, not_true_eq_false, Int.reduceToNat, reduceIte, reduceCtorEq, true_and, and_true, implies_true, forall_const, List.map_cons, List.map_nil, Option.map_some, Option.map_none, Option.bind_some, Option.bind_some, List.append_nil, List.nil_append, List.length_cons, List.length_nil, List.getD_cons_zero, List.getD_cons_succ, Bool.false_eq_true, Nat.zero_lt_succ, vr30.down, Option.toList_some, Option.toList_none, List.cons_append, getD_byt, Int.toNat_natCast, decide_eq_true_eq, decide_eq_false_iff_not, Bool.not_eq_true', Bool.not_eq_false', Bool.and_eq_true, Bool.or_eq_true, Bool.or_eq_false_iff, Bool.and_eq_false_imp, Decidable.not_not, List.length_map, beq_true, beq_false, imp_self, and_self, Option.isSome_some, List.toList_toArray, decide_true, decide_false, Bool.and_true, Bool.true_and, Bool.and_false, Bool.false_and, Bool.or_true, Bool.true_or, Bool.or_false, Bool.false_or, Bool.not_true, Bool.not_false, Int.reduceEq, Int.reduceLT, Int.reduceLE, Int.cast_ofNat_Int, eq_self, Nat.reduceLeDiff, Nat.le_refl, Bool.not_not, k_made_Picks_Ptr_made_Picks_Num.down, m_made_Picks_Num]
  refine ⟨g, l, _, 9, rfl, by rw [Store.set_same], hl, e5, ?_⟩
  have b1 := numV_bd (l := l) (n := numN l n 4) (m := 60) (by omega)
  have b2 := numV_bd (l := l) (n := numN l (numN l n 4) 60) (m := 90) (by omega)
  have w1 : IntKind.i64.wrap (14 + numV l (numN l n 4) 60) = 14 + numV l (numN l n 4) 60 := IntWalk.i64_in _ (by omega)
  have w2 : IntKind.i64.wrap (1 + numV l (numN l (numN l n 4) 60) 90) = 1 + numV l (numN l (numN l n 4) 60) 90 := IntWalk.i64_in _ (by omega)
  simp only [vR.down, vr20.down, vr40.down, vr50.down, vr60.down, vr70.down, vr80.down, vr90.down, vr100.down, vS.down, vE.down, List.drop_succ_cons, List.drop_zero, List.take_succ_cons, List.take_zero, Nat.zero_add, Nat.reduceEqDiff, Nat.reduceAdd, Nat.reduceSub, Nat.reduceMul, Nat.reduceLeDiff, Nat.reduceLT, ne_eq, not_false_eq_true, not_true_eq_false, Int.reduceToNat, reduceIte, reduceCtorEq, true_and, and_true, implies_true, forall_const, List.map_cons, List.map_nil, Option.map_some, Option.map_none, Option.bind_some, Option.bind_some, List.append_nil, List.nil_append, List.length_cons, List.length_nil, List.getD_cons_zero, List.getD_cons_succ, Bool.false_eq_true, Nat.zero_lt_succ, vr30.down, Option.toList_some, Option.toList_none, List.cons_append, getD_byt, Int.toNat_natCast, decide_eq_true_eq, decide_eq_false_iff_not, Bool.not_eq_true', Bool.not_eq_false', Bool.and_eq_true, Bool.or_eq_true, Bool.or_eq_false_iff, Bool.and_eq_false_imp, Decidable.not_not, List.length_map, beq_true, beq_false, imp_self, and_self, Option.isSome_some, List.toList_toArray, decide_true, decide_false, Bool.and_true, Bool.true_and, Bool.and_false, Bool.false_and, Bool.or_true, Bool.true_or, Bool.or_false, Bool.false_or, Bool.not_true, Bool.not_false, Int.reduceEq, Int.reduceLT, Int.reduceLE, Int.cast_ofNat_Int, eq_self, Nat.reduceLeDiff, Nat.le_refl, Bool.not_not, comm, w1, w2, u32I_wrap]
  ((repeat' with_reducible refine And.intro ?_ ?_) <;> try (first | omega | (simp only [List.length_take, List.length_drop, List.length_append, List.length_map, List.length_replicate] <;> omega)))
  simp only [vR.down, vr20.down, vr40.down, vr50.down, vr60.down, vr70.down, vr80.down, vr90.down, vr100.down, vS.down, vE.down, List.drop_succ_cons, List.drop_zero, List.take_succ_cons, List.take_zero, Nat.zero_add, Nat.reduceEqDiff, Nat.reduceAdd, Nat.reduceSub, Nat.reduceMul, Nat.reduceLeDiff, Nat.reduceLT, ne_eq, not_false_eq_true, not_true_eq_false, Int.reduceToNat, reduceIte, reduceCtorEq, true_and, and_true, implies_true, forall_const, List.map_cons, List.map_nil, Option.map_some, Option.map_none, Option.bind_some, Option.bind_some, List.append_nil, List.nil_append, List.length_cons, List.length_nil, List.getD_cons_zero, List.getD_cons_succ, Bool.false_eq_true, Nat.zero_lt_succ, vr30.down, Option.toList_some, Option.toList_none, List.cons_append, getD_byt, Int.toNat_natCast, decide_eq_true_eq, decide_eq_false_iff_not, Bool.not_eq_true', Bool.not_eq_false', Bool.and_eq_true, Bool.or_eq_true, Bool.or_eq_false_iff, Bool.and_eq_false_imp, Decidable.not_not, List.length_map, beq_true, beq_false, imp_self, and_self, Option.isSome_some, List.toList_toArray, decide_true, decide_false, Bool.and_true, Bool.true_and, Bool.and_false, Bool.false_and, Bool.or_true, Bool.true_or, Bool.or_false, Bool.false_or, Bool.not_true, Bool.not_false, Int.reduceEq, Int.reduceLT, Int.reduceLE, Int.cast_ofNat_Int, eq_self, Nat.reduceLeDiff, Nat.le_refl, Bool.not_not, vT.down]
  rw [ptrAt, if_neg h0] at hq
  exact ⟨_, hsub _ _, hq⟩
noncomputable def c_made_Picks_Ptr : Con := .gen m_made_Picks_Ptr F_made_Picks_Ptr
theorem ok_made_Picks_Ptr : COk Try.prog 19 c_made_Picks_Ptr := fn_gok sys_made_Picks_Ptr mixed Try.func19 (by kernel_rfl) geq_made_Picks_Ptr Try.ntmps19 (by rw [Try.results19]) mono_made_Picks_Ptr ex_made_Picks_Ptr body_made_Picks_Ptr
def G_made_Picks_Ptrs : GCode := .seq (.region [⟨(some 4), none, .assign (.const (.slice none 0 0))⟩]) (.seq (.region [⟨(some 5), none, .assign (.const (.slice none 0 0))⟩]) (.seq (.seq (.region [⟨(some 6), none, .assign (.const (.int .i64 0))⟩]) (.block 0 (.loop (.seq .weak (.seq (.seq (.region [⟨(some 7), none, .move (.tmp 6)⟩, ⟨(some 8), none, .move (.tmp 1)⟩, ⟨(some 9), none, .binOp .lss 3 (.tmp 7) (.tmp 8) 3⟩]) (.cond (.tmp 9) (.skip) (.exit 0))) (.seq (.block 1 (.region [⟨(some 12), none, .move (.tmp 5)⟩, ⟨(some 13), none, .move (.tmp 0)⟩, ⟨(some 14), none, .call ⟨.value (.func 19), #[.tmp 13], #[32]⟩⟩, ⟨(some 15), none, .buildSlice 34 1 #[(0, .tmp 14)]⟩, ⟨(some 16), none, .call ⟨.builtin .append, #[.tmp 12, .tmp 15], #[34, 34]⟩⟩, ⟨(some 5), none, .assign (.tmp 16)⟩])) (.region [⟨(some 10), none, .move (.tmp 6)⟩, ⟨(some 11), none, .binOp .add 3 (.tmp 10) (.const (.int .i64 1)) 3⟩, ⟨(some 6), none, .assign (.tmp 11)⟩]))))))) (.seq (.region [⟨(some 17), none, .move (.tmp 5)⟩, ⟨(some 4), none, .assign (.tmp 17)⟩]) (.ret))))
noncomputable def l_made_Picks_Ptrs : List (Nat × Con) := [(19, c_made_Picks_Ptr)]
noncomputable abbrev K_made_Picks_Ptrs : Ctx := ctx (cl l_made_Picks_Ptrs)
theorem geq_made_Picks_Ptrs : gof K_made_Picks_Ptrs Try.f9 = some G_made_Picks_Ptrs.strip := by kernel_rfl
theorem sys_made_Picks_Ptrs : Go.Eng.Sys Try.prog K_made_Picks_Ptrs := sys_of' ⟨ok_made_Picks_Ptr, trivial⟩
theorem hm_made_Picks_Ptrs : ConMono K_made_Picks_Ptrs := conMono_of sys_made_Picks_Ptrs.con
noncomputable def k_made_Picks_Ptrs_made_Picks_Ptr := PLift.up (call_gen (C := K_made_Picks_Ptrs) (f := 19) (modes := m_made_Picks_Ptr) (F := F_made_Picks_Ptr) rfl)
def m_made_Picks_Ptrs : List Bool := [true, false]
def F_made_Picks_Ptrs (xs : List AV) (s : Store) (Q : AV → Store → Prop) : Prop :=
  ∃ (g : Nat) (l : List Byt) (n k : Nat), xs = [.ptr g 0, .t (.int .i64 (k : Int))] ∧ s.f g = some (pkE l n) ∧ l.length ≤ 1099511627776 ∧ n ≤ l.length ∧ 0 < k ∧ k ≤ 1000 ∧
    ∀ g' ro, s.f g' = none → Q (.tok g' 6 0 k) ((s.set g (some (pkE l (ptrsAt l n k).2))).set g' (some (.row 6 ((ptrsAt l n k).1.map Cell.enc) ro)))
theorem mono_made_Picks_Ptrs (xs : List AV) (s : Store) (Q Q' : AV → Store → Prop) (hq : ∀ r t, Q r t → Q' r t) : F_made_Picks_Ptrs xs s Q → F_made_Picks_Ptrs xs s Q' :=
  fun ⟨g, l, n, k, a, b, c, d, e, f, h⟩ => ⟨g, l, n, k, a, b, c, d, e, f, fun g' ro hg => hq _ _ (h g' ro hg)⟩
theorem ex_made_Picks_Ptrs (xs : List AV) (s : Store) (Q : AV → Store → Prop) : F_made_Picks_Ptrs xs s Q → ∃ r t, Q r t := fun ⟨_, _, _, _, _, _, _, _, _, _, h⟩ =>
  let ⟨N, hN⟩ := s.fin
  ⟨_, _, h N false (hN N (Nat.le_refl _))⟩
theorem body_made_Picks_Ptrs (xs : List AV) (s : Store) (Q : AV → Store → Prop) (h : F_made_Picks_Ptrs xs s Q) : xs.length ≤ 18 ∧ avp K_made_Picks_Ptrs G_made_Picks_Ptrs (Ret K_made_Picks_Ptrs [.tmp 4] fun r s' => ∃ s'', Sub s'' s' ∧ Q r s'') (entry xs s) := by
  obtain ⟨g, l, n, k, rfl, hg, hl, hn, hk0, hk, hq⟩ := h
  refine ⟨by simp, ?_⟩
  unfold G_made_Picks_Ptrs
  simp only [vR.down, vr20.down, vr40.down, vr50.down, vr60.down, vr70.down, vr80.down, vr90.down, vr100.down, vS.down, vE.down, List.drop_succ_cons, List.drop_zero, List.take_succ_cons, List.take_zero, Nat.zero_add, Nat.reduceEqDiff, Nat.reduceAdd, Nat.reduceSub, Nat.reduceMul, Nat.reduceLeDiff, Nat.reduceLT, ne_eq, not_false_eq_true, not_true_eq_false, Int.reduceToNat, reduceIte, reduceCtorEq, true_and, and_true, implies_true, forall_const, List.map_cons, List.map_nil, Option.map_some, Option.map_none, Option.bind_some, Option.bind_some, List.append_nil, List.nil_append, List.length_cons, List.length_nil, List.getD_cons_zero, List.getD_cons_succ, Bool.false_eq_true, Nat.zero_lt_succ, vr30.down, Option.toList_some, Option.toList_none, List.cons_append, getD_byt, Int.toNat_natCast, decide_eq_true_eq, decide_eq_false_iff_not, Bool.not_eq_true', Bool.not_eq_false', Bool.and_eq_true, Bool.or_eq_true, Bool.or_eq_false_iff, Bool.and_eq_false_imp, Decidable.not_not, List.length_map, beq_true, beq_false, imp_self, and_self, Option.isSome_some, List.toList_toArray, decide_true, decide_false, Bool.and_true, Bool.true_and, Bool.and_false, Bool.false_and, Bool.or_true, Bool.true_or, Bool.or_false, Bool.false_or, Bool.not_true, Bool.not_false, Int.reduceEq, Int.reduceLT, Int.reduceLE, Int.cast_ofNat_Int, eq_self, Nat.reduceLeDiff, Nat.le_refl, Bool.not_not]
  refine loop_weak hm_made_Picks_Ptrs (fun m σ => ∃ (i : Nat) (v : AV) (S : Store), m = k - i ∧ i ≤ k ∧ LV S v (ptrsAt l n i).1 ∧ S.f g = some (pkE l (ptrsAt l n i).2) ∧ (∀ h e, s.f h = some e → h ≠ g → S.f h = some e) ∧ (∀ h, ¬ Not v h → s.f h = none) ∧
    σ = mkS [(0, .ptr g 0), (1, .t (.int .i64 (k : Nat))), (5, v), (6, .t (.int .i64 (i : Nat)))] S)
    ⟨0, .t .nilS, s, rfl, by omega, lv_nil, hg, fun _ _ h _ => h, fun h hh => absurd not_t hh, rfl⟩ (wk_to fewer_refl (by simp only [vR.down, vr20.down, vr40.down, vr50.down, vr60.down, vr70.down, vr80.down, vr90.down, vr100.down, vS.down, vE.down, List.drop_succ_cons, List.drop_zero, List.take_succ_cons, List.take_zero, Nat.zero_add, Nat.reduceEqDiff, Nat.reduceAdd, Nat.reduceSub, Nat.reduceMul, Nat.reduceLeDiff, Nat.reduceLT, ne_eq, not_false_eq_true, not_true_eq_false, Int.reduceToNat, reduceIte, reduceCtorEq, true_and, and_true, implies_true, forall_const, List.map_cons, List.map_nil, Option.map_some, Option.map_none, Option.bind_some, Option.bind_some, List.append_nil, List.nil_append, List.length_cons, List.length_nil, List.getD_cons_zero, List.getD_cons_succ, Bool.false_eq_true, Nat.zero_lt_succ, vr30.down, Option.toList_some, Option.toList_none, List.cons_append, getD_byt, Int.toNat_natCast, decide_eq_true_eq, decide_eq_false_iff_not, Bool.not_eq_true', Bool.not_eq_false', Bool.and_eq_true, Bool.or_eq_true, Bool.or_eq_false_iff, Bool.and_eq_false_imp, Decidable.not_not, List.length_map, beq_true, beq_false, imp_self, and_self, Option.isSome_some, List.toList_toArray, decide_true, decide_false, Bool.and_true, Bool.true_and, Bool.and_false, Bool.false_and, Bool.or_true, Bool.true_or, Bool.or_false, Bool.false_or, Bool.not_true, Bool.not_false, Int.reduceEq, Int.reduceLT, Int.reduceLE, Int.cast_ofNat_Int, eq_self, Nat.reduceLeDiff, Nat.le_refl, Bool.not_not, wkAll_cons, wkAll_nil, w2_refl, w2_nil, w2_emp, empty_none, Int.natCast_zero])) ?_
  rintro m _ ⟨i, v, S, rfl, hi, hv, hSg, hfr, hnew, rfl⟩
  by_cases hlt : i < k
  · have hlt' : (i : Int) < (k : Int) := by omega
    simp only [vR.down, vr20.down, vr40.down, vr50.down, vr60.down, vr70.down, vr80.down, vr90.down, vr100.down, vS.down, vE.down, List.drop_succ_cons, List.drop_zero, List.take_succ_cons, List.take_zero, Nat.zero_add, Nat.reduceEqDiff, Nat.reduceAdd, Nat.reduceSub, Nat.reduceMul, Nat.reduceLeDiff, Nat.reduceLT, ne_eq, not_false_eq_true, not_true_eq_false, Int.reduceToNat, reduceIte, reduceCtorEq, true_and, and_true, implies_true, forall_const, List.map_cons, List.map_nil, Option.map_some, Option.map_none, Option.bind_some, Option.bind_some, List.append_nil, List.nil_append, List.length_cons, List.length_nil, List.getD_cons_zero, List.getD_cons_succ, Bool.false_eq_true, Nat.zero_lt_succ, vr30.down, Option.toList_some, Option.toList_none, List.cons_append, getD_byt, Int.toNat_natCast, decide_eq_true_eq, decide_eq_false_iff_not, Bool.not_eq_true', Bool.not_eq_false', Bool.and_eq_true, Bool.or_eq_true, Bool.or_eq_false_iff, Bool.and_eq_false_imp, Decidable.not_not, List.length_map, beq_true, beq_false, imp_self, and_self, Option.isSome_some, List.toList_toArray, decide_true, decide_false, Bool.and_true, Bool.true_and, Bool.and_false, Bool.false_and, Bool.or_true, Bool.true_or, Bool.or_false, Bool.false_or, Bool.not_true, Bool.not_false, Int.reduceEq, Int.reduceLT, Int.reduceLE, Int.cast_ofNat_Int, eq_self, Nat.reduceLeDiff, Nat.le_refl, Bool.not_not, hlt', false_implies, k_made_Picks_Ptrs_made_Picks_Ptr.down, m_made_Picks_Ptr]
    obtain ⟨b1, b2, b3⟩ := ptrsAt_bd (l := l) hn i
    refine ⟨g, l, _, rfl, hSg, hl, b1, ?_⟩
    have hne : Not v g := hv.notbox hSg
    simp only [vR.down, vr20.down, vr40.down, vr50.down, vr60.down, vr70.down, vr80.down, vr90.down, vr100.down, vS.down, vE.down, List.drop_succ_cons, List.drop_zero, List.take_succ_cons, List.take_zero, Nat.zero_add, Nat.reduceEqDiff, Nat.reduceAdd, Nat.reduceSub, Nat.reduceMul, Nat.reduceLeDiff, Nat.reduceLT, ne_eq, not_false_eq_true, not_true_eq_false, Int.reduceToNat, reduceIte, reduceCtorEq, true_and, and_true, implies_true, forall_const, List.map_cons, List.map_nil, Option.map_some, Option.map_none, Option.bind_some, Option.bind_some, List.append_nil, List.nil_append, List.length_cons, List.length_nil, List.getD_cons_zero, List.getD_cons_succ, Bool.false_eq_true, Nat.zero_lt_succ, vr30.down, Option.toList_some, Option.toList_none, List.cons_append, getD_byt, Int.toNat_natCast, decide_eq_true_eq, decide_eq_false_iff_not, Bool.not_eq_true', Bool.not_eq_false', Bool.and_eq_true, Bool.or_eq_true, Bool.or_eq_false_iff, Bool.and_eq_false_imp, Decidable.not_not, List.length_map, beq_true, beq_false, imp_self, and_self, Option.isSome_some, List.toList_toArray, decide_true, decide_false, Bool.and_true, Bool.true_and, Bool.and_false, Bool.false_and, Bool.or_true, Bool.true_or, Bool.or_false, Bool.false_or, Bool.not_true, Bool.not_false, Int.reduceEq, Int.reduceLT, Int.reduceLE, Int.cast_ofNat_Int, eq_self, Nat.reduceLeDiff, Nat.le_refl, Bool.not_not, List.length_map, Cell.len]
    intro g3 hg3
    have hg3' : S.f g3 = none := Store.old_none hg3
    have hgg : g3 ≠ g := Store.ne_new hg3
    have hi1 : IntKind.i64.wrap ((i : Int) + 1) = ((i + 1 : Nat) : Int) := by rw [IntWalk.i64_in _ (by omega)]; rfl
    refine append_lv ty_Lapi_Ptr ty_api_Ptr rfl (by decide) ((hv.set hne).fresh hg3) (shows_one (x := (ptrAt l (ptrsAt l n i).2).1) rfl rfl rfl) (by simp; omega) (by simp; omega) fun v' S' hv' h1 h2 => ?_
    have hvo : ∀ h, s.f h ≠ none → Not v h := fun h hh => Classical.byContradiction fun hn => hh (hnew h hn)
    have hvo' : ∀ h, s.f h ≠ none → Not v' h := fun h hh => Classical.byContradiction fun hn => by
      have := h1 h hn
      have h3 := Store.old_none this
      by_cases hhg : h = g
      · subst hhg; rw [Store.set_same] at h3; cases h3
      · rw [Store.set_other _ _ hhg] at h3
        cases he : s.f h with
        | none => exact hh he
        | some e => rw [hfr h e he hhg] at h3; cases h3
    refine round_to (k - (i + 1)) [(0, .ptr g 0), (1, .t (.int .i64 (k : Nat))), (5, v'), (6, .t (.int .i64 (i + 1 : Nat)))] S' (by omega) fewer_refl (by simp only [vR.down, vr20.down, vr40.down, vr50.down, vr60.down, vr70.down, vr80.down, vr90.down, vr100.down, vS.down, vE.down, List.drop_succ_cons, List.drop_zero, List.take_succ_cons, List.take_zero, Nat.zero_add, Nat.reduceEqDiff, Nat.reduceAdd, Nat.reduceSub, Nat.reduceMul, Nat.reduceLeDiff, Nat.reduceLT, ne_eq, not_false_eq_true, not_true_eq_false, Int.reduceToNat, reduceIte, reduceCtorEq, true_and, and_true, implies_true, forall_const, List.map_cons, List.map_nil, Option.map_some, Option.map_none, Option.bind_some, Option.bind_some, List.append_nil, List.nil_append, List.length_cons, List.length_nil, List.getD_cons_zero, List.getD_cons_succ, Bool.false_eq_true, Nat.zero_lt_succ, vr30.down, Option.toList_some, Option.toList_none, List.cons_append, getD_byt, Int.toNat_natCast, decide_eq_true_eq, decide_eq_false_iff_not, Bool.not_eq_true', Bool.not_eq_false', Bool.and_eq_true, Bool.or_eq_true, Bool.or_eq_false_iff, Bool.and_eq_false_imp, Decidable.not_not, List.length_map, beq_true, beq_false, imp_self, and_self, Option.isSome_some, List.toList_toArray, decide_true, decide_false, Bool.and_true, Bool.true_and, Bool.and_false, Bool.false_and, Bool.or_true, Bool.true_or, Bool.or_false, Bool.false_or, Bool.not_true, Bool.not_false, Int.reduceEq, Int.reduceLT, Int.reduceLE, Int.cast_ofNat_Int, eq_self, Nat.reduceLeDiff, Nat.le_refl, Bool.not_not, wkAll_cons, wkAll_nil, w2_refl, w2_nil, w2_emp, empty_none, hi1]) ⟨i + 1, v', S', rfl, by omega, hv', ?_, ?_, ?_, rfl⟩
    · rw [h2 g (hvo' g (by rw [hg]; simp)) hne, Store.set_other _ _ (Ne.symm hgg), Store.set_same]
      rfl
    · intro h e he hhg
      have hh : s.f h ≠ none := by rw [he]; simp
      have hSh := hfr h e he hhg
      have hh3 : h ≠ g3 := fun e3 => by rw [e3, hg3'] at hSh; cases hSh
      rw [h2 h (hvo' h hh) (hvo h hh), Store.set_other _ _ hh3, Store.set_other _ _ hhg]
      exact hSh
    · exact fun h hh => Classical.byContradiction fun hn => hh (hvo' h hn)
  · obtain rfl : i = k := by omega
    have hge : ¬ (i : Int) < (i : Int) := by omega
    simp only [vR.down, vr20.down, vr40.down, vr50.down, vr60.down, vr70.down, vr80.down, vr90.down, vr100.down, vS.down, vE.down, List.drop_succ_cons, List.drop_zero, List.take_succ_cons, List.take_zero, Nat.zero_add, Nat.reduceEqDiff, Nat.reduceAdd, Nat.reduceSub, Nat.reduceMul, Nat.reduceLeDiff, Nat.reduceLT, ne_eq, not_false_eq_true, not_true_eq_false, Int.reduceToNat, reduceIte, reduceCtorEq, true_and, and_true, implies_true, forall_const, List.map_cons, List.map_nil, Option.map_some, Option.map_none, Option.bind_some, Option.bind_some, List.append_nil, List.nil_append, List.length_cons, List.length_nil, List.getD_cons_zero, List.getD_cons_succ, Bool.false_eq_true, Nat.zero_lt_succ, vr30.down, Option.toList_some, Option.toList_none, List.cons_append, getD_byt, Int.toNat_natCast, decide_eq_true_eq, decide_eq_false_iff_not, Bool.not_eq_true', Bool.not_eq_false', Bool.and_eq_true, Bool.or_eq_true, Bool.or_eq_false_iff, Bool.and_eq_false_imp, Decidable.not_not, List.length_map, beq_true, beq_false, imp_self, and_self, Option.isSome_some, List.toList_toArray, decide_true, decide_false, Bool.and_true, Bool.true_and, Bool.and_false, Bool.false_and, Bool.or_true, Bool.true_or, Bool.or_false, Bool.false_or, Bool.not_true, Bool.not_false, Int.reduceEq, Int.reduceLT, Int.reduceLE, Int.cast_ofNat_Int, eq_self, Nat.reduceLeDiff, Nat.le_refl, Bool.not_not, hge, false_implies]
    simp only [vR.down, vr20.down, vr40.down, vr50.down, vr60.down, vr70.down, vr80.down, vr90.down, vr100.down, vS.down, vE.down, List.drop_succ_cons, List.drop_zero, List.take_succ_cons, List.take_zero, Nat.zero_add, Nat.reduceEqDiff, Nat.reduceAdd, Nat.reduceSub, Nat.reduceMul, Nat.reduceLeDiff, Nat.reduceLT, ne_eq, not_false_eq_true, not_true_eq_false, Int.reduceToNat, reduceIte, reduceCtorEq, true_and, and_true, implies_true, forall_const, List.map_cons, List.map_nil, Option.map_some, Option.map_none, Option.bind_some, Option.bind_some, List.append_nil, List.nil_append, List.length_cons, List.length_nil, List.getD_cons_zero, List.getD_cons_succ, Bool.false_eq_true, Nat.zero_lt_succ, vr30.down, Option.toList_some, Option.toList_none, List.cons_append, getD_byt, Int.toNat_natCast, decide_eq_true_eq, decide_eq_false_iff_not, Bool.not_eq_true', Bool.not_eq_false', Bool.and_eq_true, Bool.or_eq_true, Bool.or_eq_false_iff, Bool.and_eq_false_imp, Decidable.not_not, List.length_map, beq_true, beq_false, imp_self, and_self, Option.isSome_some, List.toList_toArray, decide_true, decide_false, Bool.and_true, Bool.true_and, Bool.and_false, Bool.false_and, Bool.or_true, Bool.true_or, Bool.or_false, Bool.false_or, Bool.not_true, Bool.not_false, Int.reduceEq, Int.reduceLT, Int.reduceLE, Int.cast_ofNat_Int, eq_self, Nat.reduceLeDiff, Nat.le_refl, Bool.not_not, vT.down]
    obtain ⟨b1, b2, b3⟩ := ptrsAt_bd (l := l) hn i
    rcases hv with ⟨h0, _⟩ | ⟨g', rfl, ro, hv⟩
    · rw [h0] at b3; simp at b3; omega
    have hg' : s.f g' = none := hnew g' fun h => h _ _ _ rfl
    refine ⟨_, fun h e he => ?_, by rw [b3]; exact hq g' ro hg'⟩
    rw [set_f] at he
    by_cases hh : h = g'
    · subst hh
      rw [if_pos rfl] at he
      rw [hv]; exact he
    rw [if_neg hh, set_f] at he
    by_cases hhg : h = g
    · subst hhg
      rw [if_pos rfl] at he
      rw [hSg]; exact he
    rw [if_neg hhg] at he
    exact hfr h e he hhg
noncomputable def c_made_Picks_Ptrs : Con := .gen m_made_Picks_Ptrs F_made_Picks_Ptrs
theorem ok_made_Picks_Ptrs : COk Try.prog 9 c_made_Picks_Ptrs := fn_gok sys_made_Picks_Ptrs mixed Try.func9 (by kernel_rfl) geq_made_Picks_Ptrs Try.ntmps9 (by rw [Try.results9]) mono_made_Picks_Ptrs ex_made_Picks_Ptrs body_made_Picks_Ptrs
end Go.Proofs.Ytcohccaggepajaa


namespace Go.Proofs.Ytcohccaggepajaa
open Go Go.Eng
def abc : List UInt8 := [97, 98, 99, 100, 101, 102, 103, 104]
def mkN (k : Byt × Byt × Byt × Byt) : TNode := ⟨1 + ((k.1.v.toNat % 2 : Nat) : Int), ((k.2.1.v.toNat % 8 : Nat) : Int), abc.take (k.2.2.1.v.toNat % 9), [], 0⟩
def mkZ (k : Byt × Byt × Byt × Byt) : Int := ((k.2.2.2.v.toNat % 129 : Nat) : Int)
theorem w_u8 (x : UInt8) : IntKind.i64.wrap (x.toNat : Int) = (x.toNat : Int) := IntWalk.i64_in _ (by have := x.toNat_lt; omega)
theorem tmod_nat (a b : Nat) : (a : Int).tmod (b : Int) = ((a % b : Nat) : Int) := by rw [Int.tmod_eq_emod_of_nonneg (by omega)]; rfl
theorem tmod_2 (a : Nat) : (a : Int).tmod 2 = ((a % 2 : Nat) : Int) := tmod_nat a 2
theorem tmod_8 (a : Nat) : (a : Int).tmod 8 = ((a % 8 : Nat) : Int) := tmod_nat a 8
theorem tmod_9 (a : Nat) : (a : Int).tmod 9 = ((a % 9 : Nat) : Int) := tmod_nat a 9
theorem tmod_129 (a : Nat) : (a : Int).tmod 129 = ((a % 129 : Nat) : Int) := tmod_nat a 129
theorem w_mod2 (a : Nat) : IntKind.i64.wrap ((a % 2 : Nat) : Int) = ((a % 2 : Nat) : Int) := IntWalk.i64_in _ (by omega)
theorem w_mod8 (a : Nat) : IntKind.i64.wrap ((a % 8 : Nat) : Int) = ((a % 8 : Nat) : Int) := IntWalk.i64_in _ (by omega)
theorem w_kind (a : Nat) : IntKind.i64.wrap (1 + ((a % 2 : Nat) : Int)) = 1 + ((a % 2 : Nat) : Int) := IntWalk.i64_in _ (by omega)

theorem lv_at {α : Type} [Cell α] {s : Store} {g n : Nat} {l : List α} {ro : Bool} (hn : n = l.length) (h : s.f g = some (.row (Cell.width α) (l.map Cell.enc) ro)) : LV s (.tok g (Cell.width α) 0 n) l := hn ▸ lv_tok h
def G_law16_RecBack : GCode := .seq (.region [⟨(some 5), none, .box 24 (.tmp 0)⟩, ⟨(some 6), none, .box 24 (.tmp 1)⟩, ⟨(some 10), none, .assign (.const (.bool false))⟩]) (.seq (.seq (.seq .weak (.region [⟨(some 30), none, .call ⟨.value (.func 7), #[], #[]⟩⟩, ⟨(some 31), none, .unOp .not 4 (.tmp 30)⟩])) (.cond (.tmp 31) (.seq (.region [⟨(some 10), none, .assign (.const (.bool false))⟩]) (.ret)) (.skip))) (.seq (.seq (.region [⟨(some 32), none, .move (.tmp 2)⟩, ⟨(some 33), none, .call ⟨.builtin .len, #[.tmp 32], #[25]⟩⟩, ⟨(some 34), none, .binOp .gtr 3 (.tmp 33) (.const (.int .i64 20)) 3⟩, ⟨(some 35), none, .move (.tmp 34)⟩, ⟨(some 36), (some (35, false)), .move (.tmp 3)⟩, ⟨(some 37), (some (35, false)), .call ⟨.builtin .len, #[.tmp 36], #[25]⟩⟩, ⟨(some 38), (some (35, false)), .binOp .gtr 3 (.tmp 37) (.const (.int .i64 20)) 3⟩, ⟨(some 39), none, .pick (.tmp 35) (.const (.bool true)) (.tmp 38)⟩, ⟨(some 40), none, .move (.tmp 39)⟩, ⟨(some 41), (some (40, false)), .move (.tmp 4)⟩, ⟨(some 42), (some (40, false)), .call ⟨.builtin .len, #[.tmp 41], #[25]⟩⟩, ⟨(some 43), (some (40, false)), .binOp .gtr 3 (.tmp 42) (.const (.int .i64 30)) 3⟩, ⟨(some 44), none, .pick (.tmp 40) (.const (.bool true)) (.tmp 43)⟩]) (.cond (.tmp 44) (.seq (.region [⟨(some 10), none, .assign (.const (.bool true))⟩]) (.ret)) (.skip))) (.seq (.region [⟨(some 45), none, .indexAddr 24 (.tmp 5) (.const (.int .i64 0))⟩, ⟨(some 46), none, .load 5 (.tmp 45)⟩, ⟨(some 47), none, .binOp .rem 5 (.tmp 46) (.const (.int .u8 2)) 5⟩, ⟨(some 48), none, .convert 5 3 (.tmp 47)⟩, ⟨(some 49), none, .binOp .add 3 (.const (.int .i64 1)) (.tmp 48) 3⟩, ⟨(some 50), none, .indexAddr 24 (.tmp 5) (.const (.int .i64 1))⟩, ⟨(some 51), none, .load 5 (.tmp 50)⟩, ⟨(some 52), none, .binOp .rem 5 (.tmp 51) (.const (.int .u8 8)) 5⟩, ⟨(some 53), none, .convert 5 3 (.tmp 52)⟩, ⟨(some 54), none, .indexAddr 24 (.tmp 5) (.const (.int .i64 2))⟩, ⟨(some 55), none, .load 5 (.tmp 54)⟩, ⟨(some 56), none, .binOp .rem 5 (.tmp 55) (.const (.int .u8 9)) 5⟩, ⟨(some 57), none, .slice 9 (.const (.string ⟨#[97, 98, 99, 100, 101, 102, 103, 104]⟩)) none (some (.tmp 56)) none⟩, ⟨(some 58), none, .build 23 #[(0, .tmp 49), (1, .tmp 53), (2, .tmp 57)]⟩, ⟨(some 11), none, .alloc 23⟩, ⟨none, none, .store 23 (.tmp 11) (.tmp 58)⟩]) (.seq (.region [⟨(some 59), none, .indexAddr 24 (.tmp 6) (.const (.int .i64 0))⟩, ⟨(some 60), none, .load 5 (.tmp 59)⟩, ⟨(some 61), none, .binOp .rem 5 (.tmp 60) (.const (.int .u8 2)) 5⟩, ⟨(some 62), none, .convert 5 3 (.tmp 61)⟩, ⟨(some 63), none, .binOp .add 3 (.const (.int .i64 1)) (.tmp 62) 3⟩, ⟨(some 64), none, .indexAddr 24 (.tmp 6) (.const (.int .i64 1))⟩, ⟨(some 65), none, .load 5 (.tmp 64)⟩, ⟨(some 66), none, .binOp .rem 5 (.tmp 65) (.const (.int .u8 8)) 5⟩, ⟨(some 67), none, .convert 5 3 (.tmp 66)⟩, ⟨(some 68), none, .indexAddr 24 (.tmp 6) (.const (.int .i64 2))⟩, ⟨(some 69), none, .load 5 (.tmp 68)⟩, ⟨(some 70), none, .binOp .rem 5 (.tmp 69) (.const (.int .u8 9)) 5⟩, ⟨(some 71), none, .slice 9 (.const (.string ⟨#[97, 98, 99, 100, 101, 102, 103, 104]⟩)) none (some (.tmp 70)) none⟩, ⟨(some 72), none, .build 23 #[(0, .tmp 63), (1, .tmp 67), (2, .tmp 71)]⟩, ⟨(some 12), none, .alloc 23⟩, ⟨none, none, .store 23 (.tmp 12) (.tmp 72)⟩]) (.seq (.region [⟨(some 73), none, .indexAddr 24 (.tmp 5) (.const (.int .i64 3))⟩, ⟨(some 74), none, .load 5 (.tmp 73)⟩, ⟨(some 75), none, .convert 5 3 (.tmp 74)⟩, ⟨(some 76), none, .binOp .rem 3 (.tmp 75) (.const (.int .i64 129)) 3⟩, ⟨(some 77), none, .indexAddr 24 (.tmp 6) (.const (.int .i64 3))⟩, ⟨(some 78), none, .load 5 (.tmp 77)⟩, ⟨(some 79), none, .convert 5 3 (.tmp 78)⟩, ⟨(some 80), none, .binOp .rem 3 (.tmp 79) (.const (.int .i64 129)) 3⟩, ⟨(some 13), none, .assign (.tmp 76)⟩, ⟨(some 14), none, .assign (.tmp 80)⟩]) (.seq (.seq .weak (.region [⟨(some 81), none, .move (.tmp 2)⟩, ⟨(some 82), none, .call ⟨.value (.func 8), #[.tmp 81], #[25]⟩⟩, ⟨(some 83), none, .call ⟨.value (.func 9), #[.tmp 82, .const (.int .i64 4)], #[32, 3]⟩⟩, ⟨(some 84), none, .move (.tmp 3)⟩, ⟨(some 85), none, .call ⟨.value (.func 8), #[.tmp 84], #[25]⟩⟩, ⟨(some 86), none, .call ⟨.value (.func 9), #[.tmp 85, .const (.int .i64 4)], #[32, 3]⟩⟩, ⟨(some 87), none, .move (.tmp 4)⟩, ⟨(some 88), none, .call ⟨.value (.func 8), #[.tmp 87], #[25]⟩⟩, ⟨(some 89), none, .call ⟨.value (.func 9), #[.tmp 88, .const (.int .i64 8)], #[32, 3]⟩⟩, ⟨(some 15), none, .assign (.tmp 83)⟩, ⟨(some 16), none, .assign (.tmp 86)⟩, ⟨(some 17), none, .assign (.tmp 89)⟩])) (.seq (.seq .weak (.region [⟨(some 90), none, .load 23 (.tmp 11)⟩, ⟨(some 91), none, .move (.tmp 13)⟩, ⟨(some 92), none, .move (.tmp 15)⟩, ⟨(some 93), none, .call ⟨.value (.func 10), #[.tmp 90, .tmp 91, .tmp 92], #[23, 3, 34]⟩⟩, ⟨(some 94), none, .load 23 (.tmp 12)⟩, ⟨(some 95), none, .move (.tmp 14)⟩, ⟨(some 96), none, .move (.tmp 16)⟩, ⟨(some 97), none, .call ⟨.value (.func 10), #[.tmp 94, .tmp 95, .tmp 96], #[23, 3, 34]⟩⟩, ⟨(some 98), none, .move (.tmp 17)⟩, ⟨(some 99), none, .call ⟨.value (.func 12), #[.tmp 98], #[34]⟩⟩, ⟨(some 18), none, .assign (.tmp 93)⟩, ⟨(some 19), none, .assign (.tmp 97)⟩, ⟨(some 20), none, .assign (.tmp 99)⟩])) (.seq (.region [⟨(some 101), none, .move (.tmp 18)⟩, ⟨(some 102), none, .call ⟨.value (.func 14), #[.tmp 101], #[9]⟩⟩, ⟨(some 100), none, .move (.tmp 102)⟩, ⟨(some 103), none, .extract (.tmp 100) 0⟩, ⟨(some 104), none, .extract (.tmp 100) 1⟩, ⟨(some 105), none, .extract (.tmp 100) 2⟩, ⟨(some 106), none, .extract (.tmp 100) 3⟩, ⟨(some 21), none, .alloc 23⟩, ⟨none, none, .store 23 (.tmp 21) (.tmp 103)⟩, ⟨(some 22), none, .assign (.tmp 104)⟩, ⟨(some 23), none, .assign (.tmp 105)⟩, ⟨(some 24), none, .assign (.tmp 106)⟩]) (.seq (.region [⟨(some 108), none, .move (.tmp 20)⟩, ⟨(some 109), none, .call ⟨.value (.func 16), #[.tmp 108], #[9]⟩⟩, ⟨(some 107), none, .move (.tmp 109)⟩, ⟨(some 110), none, .extract (.tmp 107) 0⟩, ⟨(some 111), none, .extract (.tmp 107) 1⟩, ⟨(some 25), none, .assign (.tmp 110)⟩, ⟨(some 26), none, .assign (.tmp 111)⟩]) (.seq (.region [⟨(some 113), none, .move (.tmp 18)⟩, ⟨(some 114), none, .call ⟨.value (.func 16), #[.tmp 113], #[9]⟩⟩, ⟨(some 112), none, .move (.tmp 114)⟩, ⟨(some 115), none, .extract (.tmp 112) 0⟩, ⟨(some 116), none, .extract (.tmp 112) 1⟩, ⟨(some 27), none, .assign (.tmp 115)⟩, ⟨(some 28), none, .assign (.tmp 116)⟩]) (.seq (.region [⟨(some 117), none, .load 23 (.tmp 11)⟩, ⟨(some 118), none, .load 23 (.tmp 12)⟩, ⟨(some 119), none, .binOp .eql 23 (.tmp 117) (.tmp 118) 23⟩, ⟨(some 120), none, .move (.tmp 119)⟩, ⟨(some 121), (some (120, true)), .move (.tmp 13)⟩, ⟨(some 122), (some (120, true)), .move (.tmp 14)⟩, ⟨(some 123), (some (120, true)), .binOp .eql 3 (.tmp 121) (.tmp 122) 3⟩, ⟨(some 124), none, .pick (.tmp 120) (.tmp 123) (.const (.bool false))⟩, ⟨(some 125), none, .move (.tmp 124)⟩, ⟨(some 126), (some (125, true)), .move (.tmp 15)⟩, ⟨(some 127), (some (125, true)), .move (.tmp 16)⟩, ⟨(some 128), (some (125, true)), .call ⟨.value (.func 18), #[.tmp 126, .tmp 127], #[34, 34]⟩⟩, ⟨(some 129), none, .pick (.tmp 125) (.tmp 128) (.const (.bool false))⟩, ⟨(some 29), none, .assign (.tmp 129)⟩]) (.seq (.region [⟨(some 130), none, .move (.tmp 24)⟩, ⟨(some 131), none, .move (.tmp 130)⟩, ⟨(some 132), (some (131, true)), .load 23 (.tmp 21)⟩, ⟨(some 133), (some (131, true)), .load 23 (.tmp 11)⟩, ⟨(some 134), (some (131, true)), .binOp .eql 23 (.tmp 132) (.tmp 133) 23⟩, ⟨(some 135), none, .pick (.tmp 131) (.tmp 134) (.const (.bool false))⟩, ⟨(some 136), none, .move (.tmp 135)⟩, ⟨(some 137), (some (136, true)), .move (.tmp 22)⟩, ⟨(some 138), (some (136, true)), .move (.tmp 13)⟩, ⟨(some 139), (some (136, true)), .binOp .eql 3 (.tmp 137) (.tmp 138) 3⟩, ⟨(some 140), none, .pick (.tmp 136) (.tmp 139) (.const (.bool false))⟩, ⟨(some 141), none, .move (.tmp 140)⟩, ⟨(some 142), (some (141, true)), .move (.tmp 23)⟩, ⟨(some 143), (some (141, true)), .move (.tmp 15)⟩, ⟨(some 144), (some (141, true)), .call ⟨.value (.func 18), #[.tmp 142, .tmp 143], #[34, 34]⟩⟩, ⟨(some 145), none, .pick (.tmp 141) (.tmp 144) (.const (.bool false))⟩, ⟨(some 146), none, .move (.tmp 145)⟩, ⟨(some 147), (some (146, true)), .move (.tmp 26)⟩, ⟨(some 148), none, .pick (.tmp 146) (.tmp 147) (.const (.bool false))⟩, ⟨(some 149), none, .move (.tmp 148)⟩, ⟨(some 150), (some (149, true)), .move (.tmp 25)⟩, ⟨(some 151), (some (149, true)), .move (.tmp 17)⟩, ⟨(some 152), (some (149, true)), .call ⟨.value (.func 18), #[.tmp 150, .tmp 151], #[34, 34]⟩⟩, ⟨(some 153), none, .pick (.tmp 149) (.tmp 152) (.const (.bool false))⟩, ⟨(some 154), none, .move (.tmp 153)⟩, ⟨(some 155), (some (154, true)), .move (.tmp 28)⟩, ⟨(some 156), (some (154, true)), .unOp .not 4 (.tmp 155)⟩, ⟨(some 157), none, .pick (.tmp 154) (.tmp 156) (.const (.bool false))⟩, ⟨(some 158), none, .move (.tmp 157)⟩, ⟨(some 159), (some (158, true)), .move (.tmp 18)⟩, ⟨(some 160), (some (158, true)), .move (.tmp 19)⟩, ⟨(some 161), (some (158, true)), .binOp .eql 9 (.tmp 159) (.tmp 160) 9⟩, ⟨(some 162), (some (158, true)), .move (.tmp 29)⟩, ⟨(some 163), (some (158, true)), .binOp .eql 4 (.tmp 161) (.tmp 162) 4⟩, ⟨(some 164), none, .pick (.tmp 158) (.tmp 163) (.const (.bool false))⟩, ⟨(some 165), none, .move (.tmp 164)⟩, ⟨(some 166), (some (165, true)), .move (.tmp 18)⟩, ⟨(some 167), (some (165, true)), .call ⟨.builtin .len, #[.tmp 166], #[9]⟩⟩, ⟨(some 168), (some (165, true)), .binOp .leq 3 (.tmp 167) (.const (.int .i64 249)) 3⟩, ⟨(some 169), none, .pick (.tmp 165) (.tmp 168) (.const (.bool false))⟩, ⟨(some 170), none, .move (.tmp 169)⟩, ⟨(some 171), (some (170, true)), .move (.tmp 20)⟩, ⟨(some 172), (some (170, true)), .call ⟨.builtin .len, #[.tmp 171], #[9]⟩⟩, ⟨(some 173), (some (170, true)), .binOp .leq 3 (.tmp 172) (.const (.int .i64 249)) 3⟩, ⟨(some 174), none, .pick (.tmp 170) (.tmp 173) (.const (.bool false))⟩, ⟨(some 10), none, .assign (.tmp 174)⟩]) (.ret)))))))))))))
noncomputable def l_law16_RecBack : List (Nat × Con) := [(7, c_law16_begun), (8, c_made_Made), (9, c_made_Picks_Ptrs), (10, c_rec_Node), (12, c_rec_Set), (14, c_rec_TakeNode), (16, c_rec_TakeSet), (18, c_ref1_SamePtrs)]
noncomputable abbrev K_law16_RecBack : Ctx := ctx (cl l_law16_RecBack)
theorem geq_law16_RecBack : gof K_law16_RecBack Try.f4 = some G_law16_RecBack.strip := by kernel_rfl
theorem sys_law16_RecBack : Go.Eng.Sys Try.prog K_law16_RecBack := sys_of' ⟨ok_law16_begun, ok_made_Made, ok_made_Picks_Ptrs, ok_rec_Node, ok_rec_Set, ok_rec_TakeNode, ok_rec_TakeSet, ok_ref1_SamePtrs, trivial⟩
theorem hm_law16_RecBack : ConMono K_law16_RecBack := conMono_of sys_law16_RecBack.con
noncomputable def k_law16_RecBack_law16_begun := PLift.up (call_scal (C := K_law16_RecBack) (f := 7) (A := A_law16_begun) (p := p_law16_begun) (r := r_law16_begun) rfl)
noncomputable def k_law16_RecBack_made_Made := PLift.up (call_new (C := K_law16_RecBack) (f := 8) (c := q_made_Made) (e := e_made_Made) (mk := mk_made_Made) rfl)
noncomputable def k_law16_RecBack_made_Picks_Ptrs := PLift.up (call_gen (C := K_law16_RecBack) (f := 9) (modes := m_made_Picks_Ptrs) (F := F_made_Picks_Ptrs) rfl)
noncomputable def k_law16_RecBack_rec_Node := PLift.up (call_scal (C := K_law16_RecBack) (f := 10) (A := A_rec_Node) (p := p_rec_Node) (r := r_rec_Node) rfl)
noncomputable def k_law16_RecBack_rec_Set := PLift.up (call_scal (C := K_law16_RecBack) (f := 12) (A := A_rec_Set) (p := p_rec_Set) (r := r_rec_Set) rfl)
noncomputable def k_law16_RecBack_rec_TakeNode := PLift.up (call_fn (C := K_law16_RecBack) (f := 14) (A := A_rec_TakeNode) (p := p_rec_TakeNode) (r := r_rec_TakeNode) rfl)
noncomputable def k_law16_RecBack_rec_TakeSet := PLift.up (call_fn (C := K_law16_RecBack) (f := 16) (A := A_rec_TakeSet) (p := p_rec_TakeSet) (r := r_rec_TakeSet) rfl)
noncomputable def k_law16_RecBack_ref1_SamePtrs := PLift.up (call_scal (C := K_law16_RecBack) (f := 18) (A := A_ref1_SamePtrs) (p := p_ref1_SamePtrs) (r := r_ref1_SamePtrs) rfl)
noncomputable def A_law16_RecBack : Arms ((Byt × Byt × Byt × Byt) × (Byt × Byt × Byt × Byt) × (List Byt) × (List Byt) × (List Byt) × Unit) := Arms.cons (argA (Byt × Byt × Byt × Byt)) (Arms.cons (argA (Byt × Byt × Byt × Byt)) (Arms.cons (argT (List Byt)) (Arms.cons (argT (List Byt)) (Arms.cons (argT (List Byt)) (Arms.nil)))))
def p_law16_RecBack (x : (Byt × Byt × Byt × Byt) × (Byt × Byt × Byt × Byt) × (List Byt) × (List Byt) × (List Byt) × Unit) : Prop := ((goodAny x.1.1 ∧ (goodAny x.1.2.1 ∧ (goodAny x.1.2.2.1 ∧ (goodAny x.1.2.2.2))))) ∧ ((goodAny x.2.1.1 ∧ (goodAny x.2.1.2.1 ∧ (goodAny x.2.1.2.2.1 ∧ (goodAny x.2.1.2.2.2))))) ∧ (goodList (fun x : Byt => goodAny x) x.2.2.1) ∧ (goodList (fun x : Byt => goodAny x) x.2.2.2.1) ∧ (goodList (fun x : Byt => goodAny x) x.2.2.2.2.1) ∧ goodAny (x.2.2.2.2.2)
abbrev r_law16_RecBack (x : (Byt × Byt × Byt × Byt) × (Byt × Byt × Byt × Byt) × (List Byt) × (List Byt) × (List Byt) × Unit) : AV := rTrue x
theorem rd_law16_RecBack : ReadsA Try.prog [24, 24, 25, 25, 25] A_law16_RecBack p_law16_RecBack := (readsA_A (reads_arr Try.underlying24 (by kernel_rfl) (readsL_cons (reads_u8 Try.underlying5) (by kernel_rfl) (readsL_cons (reads_u8 Try.underlying5) (by kernel_rfl) (readsL_cons (reads_u8 Try.underlying5) (by kernel_rfl) (readsL_one (reads_u8 Try.underlying5) (by kernel_rfl)))))) (by kernel_rfl) (readsA_A (reads_arr Try.underlying24 (by kernel_rfl) (readsL_cons (reads_u8 Try.underlying5) (by kernel_rfl) (readsL_cons (reads_u8 Try.underlying5) (by kernel_rfl) (readsL_cons (reads_u8 Try.underlying5) (by kernel_rfl) (readsL_one (reads_u8 Try.underlying5) (by kernel_rfl)))))) (by kernel_rfl) (readsA_T (reads_list Try.underlying25 (reads_u8 Try.underlying5) (by kernel_rfl) (by decide)) (by kernel_rfl) (readsA_T (reads_list Try.underlying25 (reads_u8 Try.underlying5) (by kernel_rfl) (by decide)) (by kernel_rfl) (readsA_T (reads_list Try.underlying25 (reads_u8 Try.underlying5) (by kernel_rfl) (by decide)) (by kernel_rfl) readsA_nil)))))
set_option maxRecDepth 100000 in
set_option maxHeartbeats 4000000 in
theorem body_law16_RecBack (x : (Byt × Byt × Byt × Byt) × (Byt × Byt × Byt × Byt) × List Byt × List Byt × List Byt × Unit) (hp : p_law16_RecBack x) : avp K_law16_RecBack G_law16_RecBack (Ret K_law16_RecBack [.tmp 10] fun v _ => v = r_law16_RecBack x) (entry (A_law16_RecBack.enc x) .empty) := by
  obtain ⟨⟨k0, k1, k2, k3⟩, ⟨l0, l1, l2, l3⟩, a, b, c, ⟨⟩⟩ := x
  change avp _ _ (Ret _ _ fun v _ => v = .t (.bool true)) (entry [.agg [.t (.int .u8 (k0.v.toNat : Int)), .t (.int .u8 (k1.v.toNat : Int)), .t (.int .u8 (k2.v.toNat : Int)), .t (.int .u8 (k3.v.toNat : Int))], .agg [.t (.int .u8 (l0.v.toNat : Int)), .t (.int .u8 (l1.v.toNat : Int)), .t (.int .u8 (l2.v.toNat : Int)), .t (.int .u8 (l3.v.toNat : Int))], .t (sl a), .t (sl b), .t (sl c)] .empty)
  unfold G_law16_RecBack
  simp only [vR.down, vr20.down, vr40.down, vr50.down, vr60.down, vr70.down, vr80.down, vr90.down, vr100.down, vS.down, vE.down, List.drop_succ_cons, List.drop_zero, List.take_succ_cons, List.take_zero, Nat.zero_add, Nat.reduceEqDiff, Nat.reduceAdd, Nat.reduceSub, Nat.reduceMul, Nat.reduceLeDiff, Nat.reduceLT, ne_eq, not_false_eq_true, not_true_eq_false, Int.reduceToNat, reduceIte, reduceCtorEq, true_and, and_true, implies_true, forall_const, List.map_cons, List.map_nil, Option.map_some, Option.map_none, Option.bind_some, Option.bind_some, List.append_nil, List.nil_append, List.length_cons, List.length_nil, List.getD_cons_zero, List.getD_cons_succ, Bool.false_eq_true, Nat.zero_lt_succ, vr30.down, Option.toList_some, Option.toList_none, List.cons_append, getD_byt, Int.toNat_natCast, decide_eq_true_eq, decide_eq_false_iff_not, Bool.not_eq_true', Bool.not_eq_false', Bool.and_eq_true, Bool.or_eq_true, Bool.or_eq_false_iff, Bool.and_eq_false_imp, Decidable.not_not, List.length_map, beq_true, beq_false, imp_self, and_self, Option.isSome_some, List.toList_toArray, decide_true, decide_false, Bool.and_true, Bool.true_and, Bool.and_false, Bool.false_and, Bool.or_true, Bool.true_or, Bool.or_false, Bool.false_or, Bool.not_true, Bool.not_false, Int.reduceEq, Int.reduceLT, Int.reduceLE, Int.cast_ofNat_Int, eq_self, Nat.reduceLeDiff, Nat.le_refl, Bool.not_not]
  intro g hg g2 hg2
  have hne := Store.ne_new hg2
  have hb2 := Store.set_same (Store.empty.set g (some (.box (([.int .u8 (k0.v.toNat : Int), .int .u8 (k1.v.toNat : Int), .int .u8 (k2.v.toNat : Int), .int .u8 (k3.v.toNat : Int)] : List TV).map .t) false))) g2 (some (.box (([.int .u8 (l0.v.toNat : Int), .int .u8 (l1.v.toNat : Int), .int .u8 (l2.v.toNat : Int), .int .u8 (l3.v.toNat : Int)] : List TV).map .t) false))
  have hb1 : ((Store.empty.set g (some (.box (([.int .u8 (k0.v.toNat : Int), .int .u8 (k1.v.toNat : Int), .int .u8 (k2.v.toNat : Int), .int .u8 (k3.v.toNat : Int)] : List TV).map .t) false))).set g2 (some (.box (([.int .u8 (l0.v.toNat : Int), .int .u8 (l1.v.toNat : Int), .int .u8 (l2.v.toNat : Int), .int .u8 (l3.v.toNat : Int)] : List TV).map .t) false))).f g = some (.box (([.int .u8 (k0.v.toNat : Int), .int .u8 (k1.v.toNat : Int), .int .u8 (k2.v.toNat : Int), .int .u8 (k3.v.toNat : Int)] : List TV).map .t) false) := by rw [Store.set_other _ _ hne.symm, Store.set_same]
  refine weak_at [(2, .t (sl a)), (3, .t (sl b)), (4, .t (sl c)), (5, .imm [.int .u8 (k0.v.toNat : Int), .int .u8 (k1.v.toNat : Int), .int .u8 (k2.v.toNat : Int), .int .u8 (k3.v.toNat : Int)]), (6, .imm [.int .u8 (l0.v.toNat : Int), .int .u8 (l1.v.toNat : Int), .int .u8 (l2.v.toNat : Int), .int .u8 (l3.v.toNat : Int)])] .empty fewer_empty (by simp only [vR.down, vr20.down, vr40.down, vr50.down, vr60.down, vr70.down, vr80.down, vr90.down, vr100.down, vS.down, vE.down, List.drop_succ_cons, List.drop_zero, List.take_succ_cons, List.take_zero, Nat.zero_add, Nat.reduceEqDiff, Nat.reduceAdd, Nat.reduceSub, Nat.reduceMul, Nat.reduceLeDiff, Nat.reduceLT, ne_eq, not_false_eq_true, not_true_eq_false, Int.reduceToNat, reduceIte, reduceCtorEq, true_and, and_true, implies_true, forall_const, List.map_cons, List.map_nil, Option.map_some, Option.map_none, Option.bind_some, Option.bind_some, List.append_nil, List.nil_append, List.length_cons, List.length_nil, List.getD_cons_zero, List.getD_cons_succ, Bool.false_eq_true, Nat.zero_lt_succ, vr30.down, Option.toList_some, Option.toList_none, List.cons_append, getD_byt, Int.toNat_natCast, decide_eq_true_eq, decide_eq_false_iff_not, Bool.not_eq_true', Bool.not_eq_false', Bool.and_eq_true, Bool.or_eq_true, Bool.or_eq_false_iff, Bool.and_eq_false_imp, Decidable.not_not, List.length_map, beq_true, beq_false, imp_self, and_self, Option.isSome_some, List.toList_toArray, decide_true, decide_false, Bool.and_true, Bool.true_and, Bool.and_false, Bool.false_and, Bool.or_true, Bool.true_or, Bool.or_false, Bool.false_or, Bool.not_true, Bool.not_false, Int.reduceEq, Int.reduceLT, Int.reduceLE, Int.cast_ofNat_Int, eq_self, Nat.reduceLeDiff, Nat.le_refl, Bool.not_not, wkAll_cons, wkAll_nil, w2_refl, w2_nil, w2_emp, empty_none]; exact ⟨w2_imm hb1 rfl, w2_imm hb2 rfl⟩) ?_
  have e0 : ∀ (n m : Nat) , (n : Int) ≤ (m : Int) ↔ n ≤ m := fun n m => by omega
  by_cases c1 : 20 < (a.length : Int)
  · simp only [vR.down, vr20.down, vr40.down, vr50.down, vr60.down, vr70.down, vr80.down, vr90.down, vr100.down, vS.down, vE.down, List.drop_succ_cons, List.drop_zero, List.take_succ_cons, List.take_zero, Nat.zero_add, Nat.reduceEqDiff, Nat.reduceAdd, Nat.reduceSub, Nat.reduceMul, Nat.reduceLeDiff, Nat.reduceLT, ne_eq, not_false_eq_true, not_true_eq_false, Int.reduceToNat, reduceIte, reduceCtorEq, true_and, and_true, implies_true, forall_const, List.map_cons, List.map_nil, Option.map_some, Option.map_none, Option.bind_some, Option.bind_some, List.append_nil, List.nil_append, List.length_cons, List.length_nil, List.getD_cons_zero, List.getD_cons_succ, Bool.false_eq_true, Nat.zero_lt_succ, vr30.down, Option.toList_some, Option.toList_none, List.cons_append, getD_byt, Int.toNat_natCast, decide_eq_true_eq, decide_eq_false_iff_not, Bool.not_eq_true', Bool.not_eq_false', Bool.and_eq_true, Bool.or_eq_true, Bool.or_eq_false_iff, Bool.and_eq_false_imp, Decidable.not_not, List.length_map, beq_true, beq_false, imp_self, and_self, Option.isSome_some, List.toList_toArray, decide_true, decide_false, Bool.and_true, Bool.true_and, Bool.and_false, Bool.false_and, Bool.or_true, Bool.true_or, Bool.or_false, Bool.false_or, Bool.not_true, Bool.not_false, Int.reduceEq, Int.reduceLT, Int.reduceLE, Int.cast_ofNat_Int, eq_self, Nat.reduceLeDiff, Nat.le_refl, Bool.not_not, c1, k_law16_RecBack_law16_begun.down, A_law16_begun, p_law16_begun, r_law16_begun, false_implies]
    simp only [vR.down, vr20.down, vr40.down, vr50.down, vr60.down, vr70.down, vr80.down, vr90.down, vr100.down, vS.down, vE.down, List.drop_succ_cons, List.drop_zero, List.take_succ_cons, List.take_zero, Nat.zero_add, Nat.reduceEqDiff, Nat.reduceAdd, Nat.reduceSub, Nat.reduceMul, Nat.reduceLeDiff, Nat.reduceLT, ne_eq, not_false_eq_true, not_true_eq_false, Int.reduceToNat, reduceIte, reduceCtorEq, true_and, and_true, implies_true, forall_const, List.map_cons, List.map_nil, Option.map_some, Option.map_none, Option.bind_some, Option.bind_some, List.append_nil, List.nil_append, List.length_cons, List.length_nil, List.getD_cons_zero, List.getD_cons_succ, Bool.false_eq_true, Nat.zero_lt_succ, vr30.down, Option.toList_some, Option.toList_none, List.cons_append, getD_byt, Int.toNat_natCast, decide_eq_true_eq, decide_eq_false_iff_not, Bool.not_eq_true', Bool.not_eq_false', Bool.and_eq_true, Bool.or_eq_true, Bool.or_eq_false_iff, Bool.and_eq_false_imp, Decidable.not_not, List.length_map, beq_true, beq_false, imp_self, and_self, Option.isSome_some, List.toList_toArray, decide_true, decide_false, Bool.and_true, Bool.true_and, Bool.and_false, Bool.false_and, Bool.or_true, Bool.true_or, Bool.or_false, Bool.false_or, Bool.not_true, Bool.not_false, Int.reduceEq, Int.reduceLT, Int.reduceLE, Int.cast_ofNat_Int, eq_self, Nat.reduceLeDiff, Nat.le_refl, Bool.not_not, vT.down]
  by_cases c2 : 20 < (b.length : Int)
  · simp only [vR.down, vr20.down, vr40.down, vr50.down, vr60.down, vr70.down, vr80.down, vr90.down, vr100.down, vS.down, vE.down, List.drop_succ_cons, List.drop_zero, List.take_succ_cons, List.take_zero, Nat.zero_add, Nat.reduceEqDiff, Nat.reduceAdd, Nat.reduceSub, Nat.reduceMul, Nat.reduceLeDiff, Nat.reduceLT, ne_eq, not_false_eq_true, not_true_eq_false, Int.reduceToNat, reduceIte, reduceCtorEq, true_and, and_true, implies_true, forall_const, List.map_cons, List.map_nil, Option.map_some, Option.map_none, Option.bind_some, Option.bind_some, List.append_nil, List.nil_append, List.length_cons, List.length_nil, List.getD_cons_zero, List.getD_cons_succ, Bool.false_eq_true, Nat.zero_lt_succ, vr30.down, Option.toList_some, Option.toList_none, List.cons_append, getD_byt, Int.toNat_natCast, decide_eq_true_eq, decide_eq_false_iff_not, Bool.not_eq_true', Bool.not_eq_false', Bool.and_eq_true, Bool.or_eq_true, Bool.or_eq_false_iff, Bool.and_eq_false_imp, Decidable.not_not, List.length_map, beq_true, beq_false, imp_self, and_self, Option.isSome_some, List.toList_toArray, decide_true, decide_false, Bool.and_true, Bool.true_and, Bool.and_false, Bool.false_and, Bool.or_true, Bool.true_or, Bool.or_false, Bool.false_or, Bool.not_true, Bool.not_false, Int.reduceEq, Int.reduceLT, Int.reduceLE, Int.cast_ofNat_Int, eq_self, Nat.reduceLeDiff, Nat.le_refl, Bool.not_not, c1, c2, k_law16_RecBack_law16_begun.down, A_law16_begun, p_law16_begun, r_law16_begun, false_implies]
    simp only [vR.down, vr20.down, vr40.down, vr50.down, vr60.down, vr70.down, vr80.down, vr90.down, vr100.down, vS.down, vE.down, List.drop_succ_cons, List.drop_zero, List.take_succ_cons, List.take_zero, Nat.zero_add, Nat.reduceEqDiff, Nat.reduceAdd, Nat.reduceSub, Nat.reduceMul, Nat.reduceLeDiff, Nat.reduceLT, ne_eq, not_false_eq_true, not_true_eq_false, Int.reduceToNat, reduceIte, reduceCtorEq, true_and, and_true, implies_true, forall_const, List.map_cons, List.map_nil, Option.map_some, Option.map_none, Option.bind_some, Option.bind_some, List.append_nil, List.nil_append, List.length_cons, List.length_nil, List.getD_cons_zero, List.getD_cons_succ, Bool.false_eq_true, Nat.zero_lt_succ, vr30.down, Option.toList_some, Option.toList_none, List.cons_append, getD_byt, Int.toNat_natCast, decide_eq_true_eq, decide_eq_false_iff_not, Bool.not_eq_true', Bool.not_eq_false', Bool.and_eq_true, Bool.or_eq_true, Bool.or_eq_false_iff, Bool.and_eq_false_imp, Decidable.not_not, List.length_map, beq_true, beq_false, imp_self, and_self, Option.isSome_some, List.toList_toArray, decide_true, decide_false, Bool.and_true, Bool.true_and, Bool.and_false, Bool.false_and, Bool.or_true, Bool.true_or, Bool.or_false, Bool.false_or, Bool.not_true, Bool.not_false, Int.reduceEq, Int.reduceLT, Int.reduceLE, Int.cast_ofNat_Int, eq_self, Nat.reduceLeDiff, Nat.le_refl, Bool.not_not, vT.down]
  by_cases c3 : 30 < (c.length : Int)
  · simp only [vR.down, vr20.down, vr40.down, vr50.down, vr60.down, vr70.down, vr80.down, vr90.down, vr100.down, vS.down, vE.down, List.drop_succ_cons, List.drop_zero, List.take_succ_cons, List.take_zero, Nat.zero_add, Nat.reduceEqDiff, Nat.reduceAdd, Nat.reduceSub, Nat.reduceMul, Nat.reduceLeDiff, Nat.reduceLT, ne_eq, not_false_eq_true, not_true_eq_false, Int.reduceToNat, reduceIte, reduceCtorEq, true_and, and_true, implies_true, forall_const, List.map_cons, List.map_nil, Option.map_some, Option.map_none, Option.bind_some, Option.bind_some, List.append_nil, List.nil_append, List.length_cons, List.length_nil, List.getD_cons_zero, List.getD_cons_succ, Bool.false_eq_true, Nat.zero_lt_succ, vr30.down, Option.toList_some, Option.toList_none, List.cons_append, getD_byt, Int.toNat_natCast, decide_eq_true_eq, decide_eq_false_iff_not, Bool.not_eq_true', Bool.not_eq_false', Bool.and_eq_true, Bool.or_eq_true, Bool.or_eq_false_iff, Bool.and_eq_false_imp, Decidable.not_not, List.length_map, beq_true, beq_false, imp_self, and_self, Option.isSome_some, List.toList_toArray, decide_true, decide_false, Bool.and_true, Bool.true_and, Bool.and_false, Bool.false_and, Bool.or_true, Bool.true_or, Bool.or_false, Bool.false_or, Bool.not_true, Bool.not_false, Int.reduceEq, Int.reduceLT, Int.reduceLE, Int.cast_ofNat_Int, eq_self, Nat.reduceLeDiff, Nat.le_refl, Bool.not_not, c1, c2, c3, k_law16_RecBack_law16_begun.down, A_law16_begun, p_law16_begun, r_law16_begun, false_implies]
    simp only [vR.down, vr20.down, vr40.down, vr50.down, vr60.down, vr70.down, vr80.down, vr90.down, vr100.down, vS.down, vE.down, List.drop_succ_cons, List.drop_zero, List.take_succ_cons, List.take_zero, Nat.zero_add, Nat.reduceEqDiff, Nat.reduceAdd, Nat.reduceSub, Nat.reduceMul, Nat.reduceLeDiff, Nat.reduceLT, ne_eq, not_false_eq_true, not_true_eq_false, Int.reduceToNat, reduceIte, reduceCtorEq, true_and, and_true, implies_true, forall_const, List.map_cons, List.map_nil, Option.map_some, Option.map_none, Option.bind_some, Option.bind_some, List.append_nil, List.nil_append, List.length_cons, List.length_nil, List.getD_cons_zero, List.getD_cons_succ, Bool.false_eq_true, Nat.zero_lt_succ, vr30.down, Option.toList_some, Option.toList_none, List.cons_append, getD_byt, Int.toNat_natCast, decide_eq_true_eq, decide_eq_false_iff_not, Bool.not_eq_true', Bool.not_eq_false', Bool.and_eq_true, Bool.or_eq_true, Bool.or_eq_false_iff, Bool.and_eq_false_imp, Decidable.not_not, List.length_map, beq_true, beq_false, imp_self, and_self, Option.isSome_some, List.toList_toArray, decide_true, decide_false, Bool.and_true, Bool.true_and, Bool.and_false, Bool.false_and, Bool.or_true, Bool.true_or, Bool.or_false, Bool.false_or, Bool.not_true, Bool.not_false, Int.reduceEq, Int.reduceLT, Int.reduceLE, Int.cast_ofNat_Int, eq_self, Nat.reduceLeDiff, Nat.le_refl, Bool.not_not, vT.down]
  simp only [vR.down, vr20.down, vr40.down, vr50.down, vr60.down, vr70.down, vr80.down, vr90.down, vr100.down, vS.down, vE.down, List.drop_succ_cons, List.drop_zero, List.take_succ_cons, List.take_zero, Nat.zero_add, Nat.reduceEqDiff, Nat.reduceAdd, Nat.reduceSub, Nat.reduceMul, Nat.reduceLeDiff, Nat.reduceLT, ne_eq, not_false_eq_true, not_true_eq_false, Int.reduceToNat, reduceIte, reduceCtorEq, true_and, and_true, implies_true, forall_const, List.map_cons, List.map_nil, Option.map_some, Option.map_none, Option.bind_some, Option.bind_some, List.append_nil, List.nil_append, List.length_cons, List.length_nil, List.getD_cons_zero, List.getD_cons_succ, Bool.false_eq_true, Nat.zero_lt_succ, vr30.down, Option.toList_some, Option.toList_none, List.cons_append, getD_byt, Int.toNat_natCast, decide_eq_true_eq, decide_eq_false_iff_not, Bool.not_eq_true', Bool.not_eq_false', Bool.and_eq_true, Bool.or_eq_true, Bool.or_eq_false_iff, Bool.and_eq_false_imp, Decidable.not_not, List.length_map, beq_true, beq_false, imp_self, and_self, Option.isSome_some, List.toList_toArray, decide_true, decide_false, Bool.and_true, Bool.true_and, Bool.and_false, Bool.false_and, Bool.or_true, Bool.true_or, Bool.or_false, Bool.false_or, Bool.not_true, Bool.not_false, Int.reduceEq, Int.reduceLT, Int.reduceLE, Int.cast_ofNat_Int, eq_self, Nat.reduceLeDiff, Nat.le_refl, Bool.not_not, c1, c2, c3, k_law16_RecBack_law16_begun.down, A_law16_begun, p_law16_begun, r_law16_begun, false_implies, w_u8, tmod_2, tmod_8, tmod_9, tmod_129, w_mod2, w_mod8, w_kind]
  ((repeat' with_reducible refine And.intro ?_ ?_) <;> try (first | omega | (simp only [List.length_take, List.length_drop, List.length_append, List.length_map, List.length_replicate] <;> omega)))
  intro h1 gh1
  ((repeat' with_reducible refine And.intro ?_ ?_) <;> try (first | omega | (simp only [List.length_take, List.length_drop, List.length_append, List.length_map, List.length_replicate] <;> omega)))
  intro h2 gh2
  have hne2 := Store.ne_new gh2
  have hx2 := Store.set_same (Store.empty.set h1 (some (.box (([.int .i64 (1 + ((k0.v.toNat % 2 : Nat) : Int)), .int .i64 ((k1.v.toNat % 8 : Nat) : Int), .str (abc.take (k2.v.toNat % 9)), .str [], .int .i64 0] : List TV).map .t) false))) h2 (some (.box (([.int .i64 (1 + ((l0.v.toNat % 2 : Nat) : Int)), .int .i64 ((l1.v.toNat % 8 : Nat) : Int), .str (abc.take (l2.v.toNat % 9)), .str [], .int .i64 0] : List TV).map .t) false))
  have hx1 : ((Store.empty.set h1 (some (.box (([.int .i64 (1 + ((k0.v.toNat % 2 : Nat) : Int)), .int .i64 ((k1.v.toNat % 8 : Nat) : Int), .str (abc.take (k2.v.toNat % 9)), .str [], .int .i64 0] : List TV).map .t) false))).set h2 (some (.box (([.int .i64 (1 + ((l0.v.toNat % 2 : Nat) : Int)), .int .i64 ((l1.v.toNat % 8 : Nat) : Int), .str (abc.take (l2.v.toNat % 9)), .str [], .int .i64 0] : List TV).map .t) false))).f h1 = some (.box (([.int .i64 (1 + ((k0.v.toNat % 2 : Nat) : Int)), .int .i64 ((k1.v.toNat % 8 : Nat) : Int), .str (abc.take (k2.v.toNat % 9)), .str [], .int .i64 0] : List TV).map .t) false) := by rw [Store.set_other _ _ hne2.symm, Store.set_same]
  refine weak_at [(2, .t (sl a)), (3, .t (sl b)), (4, .t (sl c)), (11, .imm [.int .i64 (1 + ((k0.v.toNat % 2 : Nat) : Int)), .int .i64 ((k1.v.toNat % 8 : Nat) : Int), .str (abc.take (k2.v.toNat % 9)), .str [], .int .i64 0]), (12, .imm [.int .i64 (1 + ((l0.v.toNat % 2 : Nat) : Int)), .int .i64 ((l1.v.toNat % 8 : Nat) : Int), .str (abc.take (l2.v.toNat % 9)), .str [], .int .i64 0]), (13, .t (.int .i64 ((k3.v.toNat % 129 : Nat) : Int))), (14, .t (.int .i64 ((l3.v.toNat % 129 : Nat) : Int)))] .empty fewer_empty (by simp only [vR.down, vr20.down, vr40.down, vr50.down, vr60.down, vr70.down, vr80.down, vr90.down, vr100.down, vS.down, vE.down, List.drop_succ_cons, List.drop_zero, List.take_succ_cons, List.take_zero, Nat.zero_add, Nat.reduceEqDiff, Nat.reduceAdd, Nat.reduceSub, Nat.reduceMul, Nat.reduceLeDiff, Nat.reduceLT, ne_eq, not_false_eq_true, not_true_eq_false, Int.reduceToNat, reduceIte, reduceCtorEq, true_and, and_true, implies_true, forall_const, List.map_cons, List.map_nil, Option.map_some, Option.map_none, Option.bind_some, Option.bind_some, List.append_nil, List.nil_append, List.length_cons, List.length_nil, List.getD_cons_zero, List.getD_cons_succ, Bool.false_eq_true, Nat.zero_lt_succ, vr30.down, Option.toList_some, Option.toList_none, List.cons_append, getD_byt, Int.toNat_natCast, decide_eq_true_eq, decide_eq_false_iff_not, Bool.not_eq_true', Bool.not_eq_false', Bool.and_eq_true, Bool.or_eq_true, Bool.or_eq_false_iff, Bool.and_eq_false_imp, Decidable.not_not, List.length_map, beq_true, beq_false, imp_self, and_self, Option.isSome_some, List.toList_toArray, decide_true, decide_false, Bool.and_true, Bool.true_and, Bool.and_false, Bool.false_and, Bool.or_true, Bool.true_or, Bool.or_false, Bool.false_or, Bool.not_true, Bool.not_false, Int.reduceEq, Int.reduceLT, Int.reduceLE, Int.cast_ofNat_Int, eq_self, Nat.reduceLeDiff, Nat.le_refl, Bool.not_not, wkAll_cons, wkAll_nil, w2_refl, w2_nil, w2_emp, empty_none]; exact ⟨w2_imm hx1 rfl, w2_imm hx2 rfl⟩) ?_
  simp only [vR.down, vr20.down, vr40.down, vr50.down, vr60.down, vr70.down, vr80.down, vr90.down, vr100.down, vS.down, vE.down, List.drop_succ_cons, List.drop_zero, List.take_succ_cons, List.take_zero, Nat.zero_add, Nat.reduceEqDiff, Nat.reduceAdd, Nat.reduceSub, Nat.reduceMul, Nat.reduceLeDiff, Nat.reduceLT, ne_eq, not_false_eq_true, not_true_eq_false, Int.reduceToNat, reduceIte, reduceCtorEq, true_and, and_true, implies_true, forall_const, List.map_cons, List.map_nil, Option.map_some, Option.map_none, Option.bind_some, Option.bind_some, List.append_nil, List.nil_append, List.length_cons, List.length_nil, List.getD_cons_zero, List.getD_cons_succ, Bool.false_eq_true, Nat.zero_lt_succ, vr30.down, Option.toList_some, Option.toList_none, List.cons_append, getD_byt, Int.toNat_natCast, decide_eq_true_eq, decide_eq_false_iff_not, Bool.not_eq_true', Bool.not_eq_false', Bool.and_eq_true, Bool.or_eq_true, Bool.or_eq_false_iff, Bool.and_eq_false_imp, Decidable.not_not, List.length_map, beq_true, beq_false, imp_self, and_self, Option.isSome_some, List.toList_toArray, decide_true, decide_false, Bool.and_true, Bool.true_and, Bool.and_false, Bool.false_and, Bool.or_true, Bool.true_or, Bool.or_false, Bool.false_or, Bool.not_true, Bool.not_false, Int.reduceEq, Int.reduceLT, Int.reduceLE, Int.cast_ofNat_Int, eq_self, Nat.reduceLeDiff, Nat.le_refl, Bool.not_not, k_law16_RecBack_made_Made.down, k_law16_RecBack_made_Picks_Ptrs.down, m_made_Picks_Ptrs]
  refine ⟨⟨a, rfl⟩, fun p1 hp1 => ⟨p1, a, 0, 4, rfl, Store.set_same _ _ _, by omega, Nat.zero_le _, by omega, by omega, fun t1 r1 ht1 => ?_⟩⟩
  simp only [vR.down, vr20.down, vr40.down, vr50.down, vr60.down, vr70.down, vr80.down, vr90.down, vr100.down, vS.down, vE.down, List.drop_succ_cons, List.drop_zero, List.take_succ_cons, List.take_zero, Nat.zero_add, Nat.reduceEqDiff, Nat.reduceAdd, Nat.reduceSub, Nat.reduceMul, Nat.reduceLeDiff, Nat.reduceLT, ne_eq, not_false_eq_true, not_true_eq_false, Int.reduceToNat, reduceIte, reduceCtorEq, true_and, and_true, implies_true, forall_const, List.map_cons, List.map_nil, Option.map_some, Option.map_none, Option.bind_some, Option.bind_some, List.append_nil, List.nil_append, List.length_cons, List.length_nil, List.getD_cons_zero, List.getD_cons_succ, Bool.false_eq_true, Nat.zero_lt_succ, vr30.down, Option.toList_some, Option.toList_none, List.cons_append, getD_byt, Int.toNat_natCast, decide_eq_true_eq, decide_eq_false_iff_not, Bool.not_eq_true', Bool.not_eq_false', Bool.and_eq_true, Bool.or_eq_true, Bool.or_eq_false_iff, Bool.and_eq_false_imp, Decidable.not_not, List.length_map, beq_true, beq_false, imp_self, and_self, Option.isSome_some, List.toList_toArray, decide_true, decide_false, Bool.and_true, Bool.true_and, Bool.and_false, Bool.false_and, Bool.or_true, Bool.true_or, Bool.or_false, Bool.false_or, Bool.not_true, Bool.not_false, Int.reduceEq, Int.reduceLT, Int.reduceLE, Int.cast_ofNat_Int, eq_self, Nat.reduceLeDiff, Nat.le_refl, Bool.not_not, k_law16_RecBack_made_Made.down, k_law16_RecBack_made_Picks_Ptrs.down, m_made_Picks_Ptrs]
  refine ⟨⟨b, rfl⟩, fun p2 hp2 => ⟨p2, b, 0, 4, rfl, Store.set_same _ _ _, by omega, Nat.zero_le _, by omega, by omega, fun t2 r2 ht2 => ?_⟩⟩
  simp only [vR.down, vr20.down, vr40.down, vr50.down, vr60.down, vr70.down, vr80.down, vr90.down, vr100.down, vS.down, vE.down, List.drop_succ_cons, List.drop_zero, List.take_succ_cons, List.take_zero, Nat.zero_add, Nat.reduceEqDiff, Nat.reduceAdd, Nat.reduceSub, Nat.reduceMul, Nat.reduceLeDiff, Nat.reduceLT, ne_eq, not_false_eq_true, not_true_eq_false, Int.reduceToNat, reduceIte, reduceCtorEq, true_and, and_true, implies_true, forall_const, List.map_cons, List.map_nil, Option.map_some, Option.map_none, Option.bind_some, Option.bind_some, List.append_nil, List.nil_append, List.length_cons, List.length_nil, List.getD_cons_zero, List.getD_cons_succ, Bool.false_eq_true, Nat.zero_lt_succ, vr30.down, Option.toList_some, Option.toList_none, List.cons_append, getD_byt, Int.toNat_natCast, decide_eq_true_eq, decide_eq_false_iff_not, Bool.not_eq_true', Bool.not_eq_false', Bool.and_eq_true, Bool.or_eq_true, Bool.or_eq_false_iff, Bool.and_eq_false_imp, Decidable.not_not, List.length_map, beq_true, beq_false, imp_self, and_self, Option.isSome_some, List.toList_toArray, decide_true, decide_false, Bool.and_true, Bool.true_and, Bool.and_false, Bool.false_and, Bool.or_true, Bool.true_or, Bool.or_false, Bool.false_or, Bool.not_true, Bool.not_false, Int.reduceEq, Int.reduceLT, Int.reduceLE, Int.cast_ofNat_Int, eq_self, Nat.reduceLeDiff, Nat.le_refl, Bool.not_not, k_law16_RecBack_made_Made.down, k_law16_RecBack_made_Picks_Ptrs.down, m_made_Picks_Ptrs]
  refine ⟨⟨c, rfl⟩, fun p3 hp3 => ⟨p3, c, 0, 8, rfl, Store.set_same _ _ _, by omega, Nat.zero_le _, by omega, by omega, fun t3 r3 ht3 => ?_⟩⟩
  simp only [vR.down, vr20.down, vr40.down, vr50.down, vr60.down, vr70.down, vr80.down, vr90.down, vr100.down, vS.down, vE.down, List.drop_succ_cons, List.drop_zero, List.take_succ_cons, List.take_zero, Nat.zero_add, Nat.reduceEqDiff, Nat.reduceAdd, Nat.reduceSub, Nat.reduceMul, Nat.reduceLeDiff, Nat.reduceLT, ne_eq, not_false_eq_true, not_true_eq_false, Int.reduceToNat, reduceIte, reduceCtorEq, true_and, and_true, implies_true, forall_const, List.map_cons, List.map_nil, Option.map_some, Option.map_none, Option.bind_some, Option.bind_some, List.append_nil, List.nil_append, List.length_cons, List.length_nil, List.getD_cons_zero, List.getD_cons_succ, Bool.false_eq_true, Nat.zero_lt_succ, vr30.down, Option.toList_some, Option.toList_none, List.cons_append, getD_byt, Int.toNat_natCast, decide_eq_true_eq, decide_eq_false_iff_not, Bool.not_eq_true', Bool.not_eq_false', Bool.and_eq_true, Bool.or_eq_true, Bool.or_eq_false_iff, Bool.and_eq_false_imp, Decidable.not_not, List.length_map, beq_true, beq_false, imp_self, and_self, Option.isSome_some, List.toList_toArray, decide_true, decide_false, Bool.and_true, Bool.true_and, Bool.and_false, Bool.false_and, Bool.or_true, Bool.true_or, Bool.or_false, Bool.false_or, Bool.not_true, Bool.not_false, Int.reduceEq, Int.reduceLT, Int.reduceLE, Int.cast_ofNat_Int, eq_self, Nat.reduceLeDiff, Nat.le_refl, Bool.not_not]
  have q1 := Store.ne_new hp2
  have q2 := Store.ne_new (Store.old_none ht2)
  have q3 := Store.ne_new hp3
  have q4 := Store.ne_new (Store.old_none (Store.old_none hp3))
  have q5 := Store.ne_new (Store.old_none ht3)
  have q6 := Store.ne_new (Store.old_none (Store.old_none (Store.old_none ht3)))
  obtain ⟨_, m1, n1⟩ := ptrsAt_bd (l := a) (n := 0) (Nat.zero_le _) 4
  obtain ⟨_, m2, n2⟩ := ptrsAt_bd (l := b) (n := 0) (Nat.zero_le _) 4
  obtain ⟨_, m3, n3⟩ := ptrsAt_bd (l := c) (n := 0) (Nat.zero_le _) 8
  generalize (ptrsAt a 0 4).1 = p at m1 n1 ht2 hp2 ht3 hp3 ⊢
  generalize (ptrsAt b 0 4).1 = q at m2 n2 ht3 hp3 ⊢
  generalize (ptrsAt c 0 8).1 = r at m3 n3 ⊢
  refine weak_at [(11, .imm [.int .i64 (1 + ((k0.v.toNat % 2 : Nat) : Int)), .int .i64 ((k1.v.toNat % 8 : Nat) : Int), .str (abc.take (k2.v.toNat % 9)), .str [], .int .i64 0]), (12, .imm [.int .i64 (1 + ((l0.v.toNat % 2 : Nat) : Int)), .int .i64 ((l1.v.toNat % 8 : Nat) : Int), .str (abc.take (l2.v.toNat % 9)), .str [], .int .i64 0]), (13, .t (.int .i64 ((k3.v.toNat % 129 : Nat) : Int))), (14, .t (.int .i64 ((l3.v.toNat % 129 : Nat) : Int))), (15, .t (sl p)), (16, .t (sl q)), (17, .t (sl r))] .empty fewer_empty (by
    simp only [vR.down, vr20.down, vr40.down, vr50.down, vr60.down, vr70.down, vr80.down, vr90.down, vr100.down, vS.down, vE.down, List.drop_succ_cons, List.drop_zero, List.take_succ_cons, List.take_zero, Nat.zero_add, Nat.reduceEqDiff, Nat.reduceAdd, Nat.reduceSub, Nat.reduceMul, Nat.reduceLeDiff, Nat.reduceLT, ne_eq, not_false_eq_true, not_true_eq_false, Int.reduceToNat, reduceIte, reduceCtorEq, true_and, and_true, implies_true, forall_const, List.map_cons, List.map_nil, Option.map_some, Option.map_none, Option.bind_some, Option.bind_some, List.append_nil, List.nil_append, List.length_cons, List.length_nil, List.getD_cons_zero, List.getD_cons_succ, Bool.false_eq_true, Nat.zero_lt_succ, vr30.down, Option.toList_some, Option.toList_none, List.cons_append, getD_byt, Int.toNat_natCast, decide_eq_true_eq, decide_eq_false_iff_not, Bool.not_eq_true', Bool.not_eq_false', Bool.and_eq_true, Bool.or_eq_true, Bool.or_eq_false_iff, Bool.and_eq_false_imp, Decidable.not_not, List.length_map, beq_true, beq_false, imp_self, and_self, Option.isSome_some, List.toList_toArray, decide_true, decide_false, Bool.and_true, Bool.true_and, Bool.and_false, Bool.false_and, Bool.or_true, Bool.true_or, Bool.or_false, Bool.false_or, Bool.not_true, Bool.not_false, Int.reduceEq, Int.reduceLT, Int.reduceLE, Int.cast_ofNat_Int, eq_self, Nat.reduceLeDiff, Nat.le_refl, Bool.not_not, wkAll_cons, wkAll_nil, w2_refl, w2_nil, w2_emp, empty_none]
    refine ⟨LV.w2 (lv_at n1.symm (ro := r1) ?_) (fun _ _ => rfl), LV.w2 (lv_at n2.symm (ro := r2) ?_) (fun _ _ => rfl), LV.w2 (lv_at n3.symm (ro := r3) (Store.set_same _ _ _)) (fun _ _ => rfl)⟩
    · simp only [set_f, q1.symm, q2.symm, q4.symm, q6.symm, if_false, if_true]; rfl
    · simp only [set_f, q3.symm, q5.symm, if_false, if_true]; rfl) ?_
  have al : ∀ n : Nat, (abc.take (n % 9)).length ≤ 8 := fun n => by rw [List.length_take]; show min _ 8 ≤ 8; omega
  have okx : okNode ⟨1 + ((k0.v.toNat % 2 : Nat) : Int), ((k1.v.toNat % 8 : Nat) : Int), abc.take (k2.v.toNat % 9), [], 0⟩ ((k3.v.toNat % 129 : Nat) : Int) p :=
    ⟨by dsimp only; omega, by dsimp only; omega, by dsimp only; omega, al _, by omega, by omega, n1, m1⟩
  have oky : okNode ⟨1 + ((l0.v.toNat % 2 : Nat) : Int), ((l1.v.toNat % 8 : Nat) : Int), abc.take (l2.v.toNat % 9), [], 0⟩ ((l3.v.toNat % 129 : Nat) : Int) q :=
    ⟨by dsimp only; omega, by dsimp only; omega, by dsimp only; omega, al _, by omega, by omega, n2, m2⟩
  have alx := al k2.v.toNat
  have aly := al l2.v.toNat
  generalize ek0 : 1 + ((k0.v.toNat % 2 : Nat) : Int) = xk at okx ⊢
  generalize ek1 : ((k1.v.toNat % 8 : Nat) : Int) = xu at okx ⊢
  generalize ek2 : abc.take (k2.v.toNat % 9) = xn at okx alx ⊢
  generalize ek3 : ((k3.v.toNat % 129 : Nat) : Int) = xz at okx ⊢
  generalize el0 : 1 + ((l0.v.toNat % 2 : Nat) : Int) = yk at oky ⊢
  generalize el1 : ((l1.v.toNat % 8 : Nat) : Int) = yu at oky ⊢
  generalize el2 : abc.take (l2.v.toNat % 9) = yn at oky aly ⊢
  generalize el3 : ((l3.v.toNat % 129 : Nat) : Int) = yz at oky ⊢
  have bS := node_back okx
  have bT := node_back oky
  have lS := node_len okx
  have lT := node_len oky
  have bW := set_back n3 m3
  have sW := (setTR_len (s := setF r) (by rw [bW])).1
  have hS0 : (setTR (nodeF ⟨xk, xu, xn, [], 0⟩ xz p)).2 = false := by
    cases h : (setTR (nodeF ⟨xk, xu, xn, [], 0⟩ xz p)).2 with
    | false => rfl
    | true => have := (setTR_len h).1; dsimp only at lS; omega
  have same : decide (nodeF ⟨xk, xu, xn, [], 0⟩ xz p = nodeF ⟨yk, yu, yn, [], 0⟩ yz q) = (decide ((⟨xk, xu, xn, [], 0⟩ : TNode) = ⟨yk, yu, yn, [], 0⟩) && decide (xz = yz) && decide (p = q)) := by
    rw [Bool.eq_iff_iff]
    simp only [Bool.and_eq_true, decide_eq_true_eq]
    refine ⟨fun h => ?_, fun ⟨⟨h1, h2⟩, h3⟩ => by rw [h1, h2, h3]⟩
    rw [h, bT] at bS
    cases bS
    exact ⟨⟨rfl, rfl⟩, rfl⟩
  generalize hS : nodeF ⟨xk, xu, xn, [], 0⟩ xz p = s at *
  generalize hT : nodeF ⟨yk, yu, yn, [], 0⟩ yz q = t at *
  generalize hW : setF r = w at *
  have rS : nodeR (nodeT s) = .tup [.agg [.t (.int .i64 xk), .t (.int .i64 xu), .t (.str xn), .t (.str []), .t (.int .i64 0)], .t (.int .i64 xz), .t (sl p), .t (.bool true)] := by rw [bS]; rfl
  simp only [vR.down, vr20.down, vr40.down, vr50.down, vr60.down, vr70.down, vr80.down, vr90.down, vr100.down, vS.down, vE.down, List.drop_succ_cons, List.drop_zero, List.take_succ_cons, List.take_zero, Nat.zero_add, Nat.reduceEqDiff, Nat.reduceAdd, Nat.reduceSub, Nat.reduceMul, Nat.reduceLeDiff, Nat.reduceLT, ne_eq, not_false_eq_true, not_true_eq_false, Int.reduceToNat, reduceIte, reduceCtorEq, true_and, and_true, implies_true, forall_const, List.map_cons, List.map_nil, Option.map_some, Option.map_none, Option.bind_some, Option.bind_some, List.append_nil, List.nil_append, List.length_cons, List.length_nil, List.getD_cons_zero, List.getD_cons_succ, Bool.false_eq_true, Nat.zero_lt_succ, vr30.down, Option.toList_some, Option.toList_none, List.cons_append, getD_byt, Int.toNat_natCast, decide_eq_true_eq, decide_eq_false_iff_not, Bool.not_eq_true', Bool.not_eq_false', Bool.and_eq_true, Bool.or_eq_true, Bool.or_eq_false_iff, Bool.and_eq_false_imp, Decidable.not_not, List.length_map, beq_true, beq_false, imp_self, and_self, Option.isSome_some, List.toList_toArray, decide_true, decide_false, Bool.and_true, Bool.true_and, Bool.and_false, Bool.false_and, Bool.or_true, Bool.true_or, Bool.or_false, Bool.false_or, Bool.not_true, Bool.not_false, Int.reduceEq, Int.reduceLT, Int.reduceLE, Int.cast_ofNat_Int, eq_self, Nat.reduceLeDiff, Nat.le_refl, Bool.not_not, k_law16_RecBack_rec_Node.down, A_rec_Node, p_rec_Node, r_rec_Node, k_law16_RecBack_rec_Set.down, A_rec_Set, p_rec_Set, r_rec_Set, k_law16_RecBack_rec_TakeNode.down, A_rec_TakeNode, p_rec_TakeNode, r_rec_TakeNode, k_law16_RecBack_rec_TakeSet.down, A_rec_TakeSet, p_rec_TakeSet, r_rec_TakeSet, k_law16_RecBack_ref1_SamePtrs.down, A_ref1_SamePtrs, p_ref1_SamePtrs, r_ref1_SamePtrs, hS, hT, hW, rS, bW, hS0]
  dsimp only at lS
  refine ⟨by omega, by omega, by omega, by omega, fun g hg => ⟨by omega, by omega, fun h => ⟨h, by omega⟩, by omega, by omega, ?_⟩⟩
  simp only [vR.down, vr20.down, vr40.down, vr50.down, vr60.down, vr70.down, vr80.down, vr90.down, vr100.down, vS.down, vE.down, List.drop_succ_cons, List.drop_zero, List.take_succ_cons, List.take_zero, Nat.zero_add, Nat.reduceEqDiff, Nat.reduceAdd, Nat.reduceSub, Nat.reduceMul, Nat.reduceLeDiff, Nat.reduceLT, ne_eq, not_false_eq_true, not_true_eq_false, Int.reduceToNat, reduceIte, reduceCtorEq, true_and, and_true, implies_true, forall_const, List.map_cons, List.map_nil, Option.map_some, Option.map_none, Option.bind_some, Option.bind_some, List.append_nil, List.nil_append, List.length_cons, List.length_nil, List.getD_cons_zero, List.getD_cons_succ, Bool.false_eq_true, Nat.zero_lt_succ, vr30.down, Option.toList_some, Option.toList_none, List.cons_append, getD_byt, Int.toNat_natCast, decide_eq_true_eq, decide_eq_false_iff_not, Bool.not_eq_true', Bool.not_eq_false', Bool.and_eq_true, Bool.or_eq_true, Bool.or_eq_false_iff, Bool.and_eq_false_imp, Decidable.not_not, List.length_map, beq_true, beq_false, imp_self, and_self, Option.isSome_some, List.toList_toArray, decide_true, decide_false, Bool.and_true, Bool.true_and, Bool.and_false, Bool.false_and, Bool.or_true, Bool.true_or, Bool.or_false, Bool.false_or, Bool.not_true, Bool.not_false, Int.reduceEq, Int.reduceLT, Int.reduceLE, Int.cast_ofNat_Int, eq_self, Nat.reduceLeDiff, Nat.le_refl, Bool.not_not, vT.down]
  have e1 : decide ((s.length : Int) ≤ 249) = true := decide_eq_true (by omega)
  have e2 : decide ((w.length : Int) ≤ 249) = true := decide_eq_true (by omega)
  have en : decide ((⟨xk, xu, xn, [], 0⟩ : TNode) = ⟨yk, yu, yn, [], 0⟩) = (decide (xk = yk) && (decide (xu = yu) && decide (xn = yn))) := by
    simp only [TNode.mk.injEq, and_true, Bool.decide_and]
  rw [same, en, e1, e2]
  simp only [beq_self_eq_true, Bool.and_self]
noncomputable def c_law16_RecBack : Con := fnScal A_law16_RecBack p_law16_RecBack r_law16_RecBack
theorem ok_law16_RecBack : COk Try.prog 4 c_law16_RecBack := fn_sok sys_law16_RecBack mixed Try.func4 (by kernel_rfl) geq_law16_RecBack Try.ntmps4 (by rw [Try.results4]) (fun x => by simp [rTrue, AV.scal]) fun x hx => ⟨Nat.le_of_ble_eq_true rfl, body_law16_RecBack x hx⟩
theorem says_law16_RecBack : SaysTrue Rows.recBackSpec 5 := ⟨rfl, fun H ds h => by
  match ds, h with
  | [d0, d1, d2, d3, d4], _ => exact ⟨rfl, rfl, rfl⟩⟩
set_option maxRecDepth 100000 in
theorem lifted_law16_RecBack (os : Os) (started : os.Started) (H : Type) (enc : TypeId × Value → H) :
    ReturnsInHanded {} Try.checked os 4 .any (Rows.recBackSpec.pre6 enc Try.prog Try.f4 Rows.recBackRow.domain false) (Rows.recBackSpec.post enc Try.prog Try.f4 false true false false) := by
  refine returnsInHanded_of_change (C := Try.checked) own started (by kernel_rfl) Try.func4
    (ChangeSpec.witness6 (enc := enc) (C := Try.checked) false ⟨#[], #[.agg #[.int .u8 0, .int .u8 0, .int .u8 0, .int .u8 0], .agg #[.int .u8 0, .int .u8 0, .int .u8 0, .int .u8 0], .slice none 0 0, .slice none 0 0, .slice none 0 0], []⟩ 8 (by kernel_rfl) (by kernel_rfl) (by kernel_rfl) (by kernel_rfl)) ?_
  intro W base args ds gs before hval hW _ _
  exact law_contract (ts := [24, 24, 25, 25, 25]) (tb := 4) ok_law16_RecBack (by rw [Try.params4]) (by kernel_rfl) Try.underlying4 laid (by kernel_rfl) rd_law16_RecBack (fun _ h => h) says_law16_RecBack H enc W base args ds gs before hval hW
theorem over_law16_RecBack : Rows.recBackRow.holds Try.pinned (OpenSpec.ofChange Rows.recBackSpec) :=
  OpenClaim.holds_of_wide 4 Try.f4 rfl rfl rfl rfl rfl rfl rfl ⟨rfl, rfl, rfl, rfl, rfl⟩ rfl rfl rfl rfl rfl (by kernel_rfl) Try.func4 (by kernel_rfl)
    (of_decide_eq_true (by kernel_rfl)) (by unfold Func.isWrapper; first | (rw [if_pos (by decide +kernel)]; kernel_rfl) | (rw [if_neg (by decide +kernel)]; exact ⟨rfl, rfl⟩))
    (fun os started H enc _ => lifted_law16_RecBack os started H enc)
theorem recBack_holds : Rows.RecBackSaid := over_law16_RecBack
end Go.Proofs.Ytcohccaggepajaa

