/-
  A field of a step taken.
-/
import Derived.Test.YthhgaeeeppipnaaFnsA
set_option linter.unusedSimpArgs false
set_option linter.unusedVariables false
namespace Go.Proofs.Ythhgaeeeppipnaa
open Go Go.Eng
def StepS (S : Store) (g : Nat) (v : AV) (x : TStep) : Prop := S.f g = some (stE x v) ∧ LV S v x.Keep ∧ Not v g
theorem takeF_keep7 {m : Bool} {s : TStep} {f : Int} {b : List UInt8} (h : f ≠ 7) : (takeF m s f b).1.Keep = s.Keep := by
  have h1 : ∀ t, (setX s f t).Keep = s.Keep := fun t => by unfold setX; split; rfl; split <;> rfl
  have h2 : ∀ n, (setN s f n).Keep = s.Keep := fun n => by unfold setN; split; rfl; split; rfl; split <;> rfl
  have h3 : ∀ c : Bool, (if c = true then setX s f [] else s).Keep = s.Keep := fun c => by split; exact h1 _; rfl
  unfold takeF
  split
  · exact h3 _
  split
  · exact h2 _
  split
  · exact h3 _
  try rw [if_neg h]
  exact h1 _
theorem setN_keep {x : TStep} {f n : Int} : (setN x f n).Keep = x.Keep := by unfold setN; split; rfl; split; rfl; split <;> rfl
theorem setX_keep {x : TStep} {f : Int} {n : List UInt8} : (setX x f n).Keep = x.Keep := by unfold setX; split; rfl; split <;> rfl
theorem pick_of {x : AV} {w : Bool} : pickB (.opt true (.t (.bool false))) x (.t (.bool w)) = .val True (.t (.bool w)) := by simp [pickB, AV.asB]
theorem pick_ot {x : AV} {w : Bool} : pickB (.opt true (.t (.bool true))) (.t (.bool w)) x = .val True (.t (.bool w)) := by simp [pickB, AV.asB]
theorem neqP_nil {C : Ctx} {T e : TypeId} {n m : Nat} {z : List TV} (h : C.ty T = some ⟨.ptr e, n, m, z⟩) : binB C T .neq (.t .nilP) (.t .nilP) = .val True (.t (.bool false)) := by
  unfold binB; simp [h, AV.isNil, nilSh]
theorem neqP_ptr {C : Ctx} {T e : TypeId} {n m g o : Nat} {z : List TV} (h : C.ty T = some ⟨.ptr e, n, m, z⟩) : binB C T .neq (.ptr g o) (.t .nilP) = .val True (.t (.bool true)) := by
  unfold binB; simp [h, AV.isNil, nilSh]
theorem neqP_imm {C : Ctx} {T e : TypeId} {n m : Nat} {c : List TV} {z : List TV} (h : C.ty T = some ⟨.ptr e, n, m, z⟩) : binB C T .neq (.imm c) (.t .nilP) = .val True (.t (.bool true)) := by
  unfold binB; simp [h, AV.isNil, nilSh]
theorem and3 (c : UInt8) : IntKind.i64.wrap (((BitVec.ofInt IntKind.i64.bits (IntKind.i64.wrap (c.toNat : Int)) &&& BitVec.ofInt IntKind.i64.bits 3).toNat : Nat) : Int) = low2 c := by
  have h : ∀ n, n < 256 → IntKind.i64.wrap (((BitVec.ofInt IntKind.i64.bits (IntKind.i64.wrap ((UInt8.ofNat n).toNat : Int)) &&& BitVec.ofInt IntKind.i64.bits 3).toNat : Nat) : Int) = low2 (UInt8.ofNat n) := by decide +kernel
  have := h c.toNat c.toNat_lt
  rwa [UInt8.ofNat_toNat] at this
def G_ops_step_take : GCode := .seq (.region [⟨(some 6), none, .assign (.const (.string ⟨#[]⟩))⟩, ⟨(some 7), none, .assign (.const (.bool false))⟩]) (.seq (.region [⟨(some 14), none, .move (.tmp 0)⟩, ⟨(some 15), none, .move (.tmp 1)⟩, ⟨(some 16), none, .call ⟨.value (.func 30), #[.tmp 14, .tmp 15], #[62, 48]⟩⟩, ⟨(some 13), none, .move (.tmp 16)⟩, ⟨(some 17), none, .extract (.tmp 13) 0⟩, ⟨(some 18), none, .extract (.tmp 13) 1⟩, ⟨(some 8), none, .assign (.tmp 17)⟩, ⟨(some 9), none, .assign (.tmp 18)⟩]) (.seq (.region [⟨(some 20), none, .move (.tmp 9)⟩, ⟨(some 21), none, .move (.tmp 2)⟩, ⟨(some 22), none, .call ⟨.value (.func 32), #[.tmp 20, .tmp 21], #[9, 9]⟩⟩, ⟨(some 19), none, .move (.tmp 22)⟩, ⟨(some 23), none, .extract (.tmp 19) 0⟩, ⟨(some 24), none, .extract (.tmp 19) 1⟩, ⟨(some 25), none, .extract (.tmp 19) 2⟩, ⟨(some 10), none, .assign (.tmp 23)⟩, ⟨(some 6), none, .assign (.tmp 24)⟩, ⟨(some 7), none, .assign (.tmp 25)⟩]) (.seq (.block 0 (.seq (.region [⟨(some 27), none, .move (.tmp 7)⟩, ⟨(some 28), none, .unOp .not 4 (.tmp 27)⟩, ⟨(some 26), none, .assign (.tmp 28)⟩]) (.cond (.tmp 26) (.seq (.region [⟨(some 6), none, .assign (.const (.string ⟨#[]⟩))⟩, ⟨(some 7), none, .assign (.const (.bool false))⟩]) (.ret)) (.seq (.region [⟨(some 30), none, .move (.tmp 8)⟩, ⟨(some 31), none, .binOp .neq 63 (.tmp 30) (.const (.pointer none)) 63⟩, ⟨(some 29), none, .assign (.tmp 31)⟩]) (.cond (.tmp 29) (.seq (.region [⟨(some 32), none, .move (.tmp 8)⟩, ⟨(some 33), none, .move (.tmp 10)⟩, ⟨(some 34), none, .indexAddr 22 (.tmp 33) (.const (.int .i64 0))⟩, ⟨(some 35), none, .load 3 (.tmp 34)⟩, ⟨(some 36), none, .nilCheck (.tmp 32)⟩, ⟨none, none, .store 3 (.tmp 36) (.tmp 35)⟩]) (.seq (.region [⟨(some 37), none, .move (.tmp 6)⟩, ⟨(some 6), none, .assign (.tmp 37)⟩, ⟨(some 7), none, .assign (.const (.bool true))⟩]) (.ret))) (.seq (.region [⟨(some 39), none, .move (.tmp 6)⟩, ⟨(some 40), none, .call ⟨.builtin .len, #[.tmp 39], #[9]⟩⟩, ⟨(some 41), none, .move (.tmp 10)⟩, ⟨(some 42), none, .indexAddr 22 (.tmp 41) (.const (.int .i64 0))⟩, ⟨(some 43), none, .load 3 (.tmp 42)⟩, ⟨(some 44), none, .binOp .lss 3 (.tmp 40) (.tmp 43) 3⟩, ⟨(some 45), none, .move (.tmp 44)⟩, ⟨(some 46), (some (45, false)), .move (.tmp 1)⟩, ⟨(some 47), (some (45, false)), .binOp .eql 48 (.tmp 46) (.const (.int .i64 7)) 48⟩, ⟨(some 48), (some (45, false)), .move (.tmp 47)⟩, ⟨(some 49), (some (48, true)), .move (.tmp 10)⟩, ⟨(some 50), (some (48, true)), .indexAddr 22 (.tmp 49) (.const (.int .i64 0))⟩, ⟨(some 51), (some (48, true)), .load 3 (.tmp 50)⟩, ⟨(some 52), (some (48, true)), .binOp .gtr 3 (.tmp 51) (.const (.int .i64 60)) 3⟩, ⟨(some 53), (some (45, false)), .pick (.tmp 48) (.tmp 52) (.const (.bool false))⟩, ⟨(some 54), none, .pick (.tmp 45) (.const (.bool true)) (.tmp 53)⟩, ⟨(some 38), none, .assign (.tmp 54)⟩]) (.cond (.tmp 38) (.seq (.region [⟨(some 6), none, .assign (.const (.string ⟨#[]⟩))⟩, ⟨(some 7), none, .assign (.const (.bool false))⟩]) (.ret)) (.seq (.region [⟨(some 56), none, .move (.tmp 1)⟩, ⟨(some 57), none, .binOp .neq 48 (.tmp 56) (.const (.int .i64 7)) 48⟩, ⟨(some 55), none, .assign (.tmp 57)⟩]) (.cond (.tmp 55) (.seq (.orders (.one ⟨(some 58), none, .move (.tmp 0)⟩ (.one ⟨(some 59), none, .move (.tmp 1)⟩ (.one ⟨(some 61), none, .move (.tmp 6)⟩ (.one ⟨(some 62), none, .move (.tmp 10)⟩ (.one ⟨(some 63), none, .indexAddr 22 (.tmp 62) (.const (.int .i64 0))⟩ (.both (.one ⟨(some 60), none, .call ⟨.value (.func 31), #[.tmp 58, .tmp 59], #[62, 48]⟩⟩ (.one ⟨(some 64), none, .load 3 (.tmp 63)⟩ (.one ⟨(some 65), none, .slice 9 (.tmp 61) none (some (.tmp 64)) none⟩ (.one ⟨(some 66), none, .nilCheck (.tmp 60)⟩ (.one ⟨none, none, .store 9 (.tmp 66) (.tmp 65)⟩ (.done)))))) (.one ⟨(some 64), none, .load 3 (.tmp 63)⟩ (.one ⟨(some 60), none, .call ⟨.value (.func 31), #[.tmp 58, .tmp 59], #[62, 48]⟩⟩ (.one ⟨(some 65), none, .slice 9 (.tmp 61) none (some (.tmp 64)) none⟩ (.one ⟨(some 66), none, .nilCheck (.tmp 60)⟩ (.one ⟨none, none, .store 9 (.tmp 66) (.tmp 65)⟩ (.done))))))))))))) (.seq (.region [⟨(some 67), none, .move (.tmp 6)⟩, ⟨(some 68), none, .move (.tmp 10)⟩, ⟨(some 69), none, .indexAddr 22 (.tmp 68) (.const (.int .i64 0))⟩, ⟨(some 70), none, .load 3 (.tmp 69)⟩, ⟨(some 71), none, .slice 9 (.tmp 67) (some (.tmp 70)) none none⟩, ⟨(some 6), none, .assign (.tmp 71)⟩, ⟨(some 7), none, .assign (.const (.bool true))⟩]) (.ret))) (.skip)))))))))) (.seq (.seq (.region [⟨(some 72), none, .move (.tmp 6)⟩, ⟨(some 73), none, .move (.tmp 10)⟩, ⟨(some 74), none, .indexAddr 22 (.tmp 73) (.const (.int .i64 0))⟩, ⟨(some 75), none, .load 3 (.tmp 74)⟩, ⟨(some 76), none, .slice 9 (.tmp 72) none (some (.tmp 75)) none⟩, ⟨(some 77), none, .convert 9 25 (.tmp 76)⟩, ⟨(some 78), none, .call ⟨.builtin .len, #[.tmp 77], #[25]⟩⟩, ⟨(some 79), none, .move (.const (.int .i64 0))⟩]) (.block 1 (.loop (.seq .weak (.seq (.region [⟨(some 80), none, .binOp .lss 3 (.tmp 79) (.tmp 78) 3⟩]) (.seq (.cond (.tmp 80) (.skip) (.exit 1)) (.seq (.block 2 (.seq (.region [⟨(some 81), none, .indexAddr 25 (.tmp 77) (.tmp 79)⟩, ⟨(some 82), none, .load 5 (.tmp 81)⟩, ⟨(some 12), none, .assign (.tmp 82)⟩]) (.region [⟨(some 83), none, .move (.tmp 0)⟩, ⟨(some 84), none, .move (.tmp 0)⟩, ⟨(some 85), none, .nilCheck (.tmp 84)⟩, ⟨(some 86), none, .fieldAddr 44 (.tmp 85) 0⟩, ⟨(some 87), none, .fieldAddr 24 (.tmp 86) 8⟩, ⟨(some 88), none, .load 22 (.tmp 87)⟩, ⟨(some 89), none, .move (.tmp 12)⟩, ⟨(some 90), none, .convert 5 3 (.tmp 89)⟩, ⟨(some 91), none, .binOp .and 3 (.tmp 90) (.const (.int .i64 3)) 3⟩, ⟨(some 92), none, .buildSlice 22 1 #[(0, .tmp 91)]⟩, ⟨(some 93), none, .call ⟨.builtin .append, #[.tmp 88, .tmp 92], #[22, 22]⟩⟩, ⟨(some 94), none, .nilCheck (.tmp 83)⟩, ⟨(some 95), none, .fieldAddr 44 (.tmp 94) 0⟩, ⟨(some 96), none, .fieldAddr 24 (.tmp 95) 8⟩, ⟨none, none, .store 22 (.tmp 96) (.tmp 93)⟩]))) (.region [⟨(some 97), none, .binOp .add 3 (.tmp 79) (.const (.int .i64 1)) 3⟩, ⟨(some 79), none, .move (.tmp 97)⟩])))))))) (.seq (.region [⟨(some 98), none, .move (.tmp 6)⟩, ⟨(some 99), none, .move (.tmp 10)⟩, ⟨(some 100), none, .indexAddr 22 (.tmp 99) (.const (.int .i64 0))⟩, ⟨(some 101), none, .load 3 (.tmp 100)⟩, ⟨(some 102), none, .slice 9 (.tmp 98) (some (.tmp 101)) none none⟩, ⟨(some 6), none, .assign (.tmp 102)⟩, ⟨(some 7), none, .assign (.const (.bool true))⟩]) (.ret))))))
noncomputable def l_ops_step_take : List (Nat × Con) := [(30, c_ops_step_num), (32, c_pack_Take), (31, c_ops_step_text)]
noncomputable abbrev K_ops_step_take : Ctx := ctx (cl l_ops_step_take)
theorem geq_ops_step_take : gof K_ops_step_take Try.f33 = some G_ops_step_take.strip := by kernel_rfl
theorem sys_ops_step_take : Go.Eng.Sys Try.prog K_ops_step_take := sys_of' ⟨ok_ops_step_num, ok_pack_Take, ok_ops_step_text, trivial⟩
theorem hm_ops_step_take : ConMono K_ops_step_take := conMono_of sys_ops_step_take.con
noncomputable def k_ops_step_take_ops_step_num := PLift.up (call_gen (C := K_ops_step_take) (f := 30) (modes := m_ops_step_num) (F := F_ops_step_num) rfl)
noncomputable def k_ops_step_take_pack_Take := PLift.up (call_fn (C := K_ops_step_take) (f := 32) (A := A_pack_Take) (p := p_pack_Take) (r := r_pack_Take) rfl)
noncomputable def k_ops_step_take_ops_step_text := PLift.up (call_gen (C := K_ops_step_take) (f := 31) (modes := m_ops_step_text) (F := F_ops_step_text) rfl)
def m_ops_step_take : List Bool := [true, false, false]
def F_ops_step_take (xs : List AV) (s : Store) (Q : AV → Store → Prop) : Prop :=
  ∃ (g : Nat) (x : TStep) (f : Int) (b : List UInt8), xs = [.ptr g 0, .t (.int .i64 f), .t (.str b)] ∧ s.f g = some (stE x (.t .nilS)) ∧ x.Keep = [] ∧ 0 ≤ f ∧ f ≤ 7 ∧ b.length ≤ 1099511627776 ∧
    ∀ s' v', StepS s' g v' (takeF false x f b).1 → (f ≠ 7 → v' = .t .nilS) → (∀ k e, k ≠ g → s.f k = some e → s'.f k = some e ∧ Not v' k) → Q (.tup [.t (.str (takeF false x f b).2.1), .t (.bool (takeF false x f b).2.2)]) s'
theorem mono_ops_step_take (xs : List AV) (s : Store) (Q Q' : AV → Store → Prop) (hq : ∀ r t, Q r t → Q' r t) : F_ops_step_take xs s Q → F_ops_step_take xs s Q' :=
  fun ⟨g, x, f, b, h1, h2, h3, h4, h5, h6, h7⟩ => ⟨g, x, f, b, h1, h2, h3, h4, h5, h6, fun s' v' a b c => hq _ _ (h7 s' v' a b c)⟩
theorem ex_ops_step_take (xs : List AV) (s : Store) (Q : AV → Store → Prop) : F_ops_step_take xs s Q → ∃ r t, Q r t := fun ⟨g, x, f, b, h1, h2, h3, h4, h5, h6, h7⟩ => by
  by_cases hk : (takeF false x f b).1.Keep = []
  · refine ⟨_, _, h7 (s.set g (some (stE (takeF false x f b).1 (.t .nilS)))) (.t .nilS) ⟨Store.set_same _ _ _, by rw [hk]; exact lv_nil, not_t⟩ (fun _ => rfl) fun k e hne he => ⟨by rw [Store.set_other _ _ hne]; exact he, not_t⟩⟩
  · obtain ⟨N, hN⟩ := s.fin
    have hg2 : s.f N = none := hN N (Nat.le_refl _)
    have hne : g ≠ N := fun e => by rw [e, hg2] at h2; cases h2
    refine ⟨_, _, h7 ((s.set N (some (.row 1 ((takeF false x f b).1.Keep.map Cell.enc) false))).set g (some (stE (takeF false x f b).1 (.tok N 1 0 (takeF false x f b).1.Keep.length)))) (.tok N 1 0 (takeF false x f b).1.Keep.length) ⟨Store.set_same _ _ _, lv_at rfl (ro := false) ((Store.set_other _ _ hne.symm).trans (Store.set_same _ _ _)), not_tok hne.symm⟩ (fun h => absurd ((takeF_keep7 h).trans h3) hk) fun k e hk' he => ?_⟩
    have hkN : k ≠ N := fun e' => by rw [e', hg2] at he; cases he
    exact ⟨by rw [Store.set_other _ _ hk', Store.set_other _ _ hkN]; exact he, not_tok hkN.symm⟩
set_option maxRecDepth 10000 in
set_option maxHeartbeats 4000000 in
theorem body_ops_step_take (xs : List AV) (s : Store) (Q : AV → Store → Prop) (h : F_ops_step_take xs s Q) : xs.length ≤ 103 ∧ avp K_ops_step_take G_ops_step_take (Ret K_ops_step_take [.tmp 6, .tmp 7] fun r s' => ∃ s'', Sub s'' s' ∧ Q r s'') (entry xs s) := by
  obtain ⟨g, x, f, b, rfl, hg, hx, h0, h7, hb, hq⟩ := h
  refine ⟨by simp, ?_⟩
  have lf : (fm f).length ≤ 1099511627776 := by unfold fm; split <;> simp
  have same : ∀ x', (takeF false x f b).1 = x' → x'.Keep = [] → s.f g = some (stE x' (.t .nilS)) → StepS s g (.t .nilS) (takeF false x f b).1 := fun x' e e2 e3 => ⟨by rw [e]; exact e3, by rw [e, e2]; exact lv_nil, not_t⟩
  have keep : ∀ (k : Nat) (e : Entry), k ≠ g → s.f k = some e → s.f k = some e ∧ Not (.t .nilS) k := fun k e _ h => ⟨h, not_t⟩
  have keep' : ∀ (z : Entry) (k : Nat) (e : Entry), k ≠ g → s.f k = some e → (s.set g (some z)).f k = some e ∧ Not (.t .nilS) k := fun z k e hk h => ⟨by rw [Store.set_other _ _ hk]; exact h, not_t⟩
  by_cases ho : takeOk (fm f) b = false
  · have e : takeF false x f b = (x, [], false) := if_pos ho
    have hq' := hq s (.t .nilS) (same x (by rw [e]) hx hg) (fun _ => rfl) keep
    rw [e] at hq'
    unfold G_ops_step_take
    simp only [vP.down, vS.down, vE.down, Nat.reduceEqDiff, Nat.reduceAdd, Nat.reduceSub, Nat.reduceMul, Nat.reduceLeDiff, Nat.reduceLT, Int.reduceToNat, reduceIte, reduceCtorEq, Int.reduceEq, Int.reduceLT, Int.reduceLE, ↓avp_condG, ↓tf_arrow, ↓ft_arrow, k_ops_step_take_ops_step_num.down, m_ops_step_num]
    refine ⟨f, h0, .inl ⟨g, rfl, ?_⟩⟩
    unfold numR
    simp only [vP.down, vS.down, vE.down, Nat.reduceEqDiff, Nat.reduceAdd, Nat.reduceSub, Nat.reduceMul, Nat.reduceLeDiff, Nat.reduceLT, Int.reduceToNat, reduceIte, reduceCtorEq, Int.reduceEq, Int.reduceLT, Int.reduceLE, ↓avp_condG, ↓tf_arrow, ↓ft_arrow, k_ops_step_take_pack_Take.down, A_pack_Take, p_pack_Take, r_pack_Take, ho, false_implies]
    ((repeat' with_reducible refine And.intro ?_ ?_) <;> try (first | omega | (simp only [List.length_take, List.length_drop, List.length_append, List.length_map, List.length_replicate] <;> omega)))
    simp only [vP.down, vS.down, vE.down, Nat.reduceEqDiff, Nat.reduceAdd, Nat.reduceSub, Nat.reduceMul, Nat.reduceLeDiff, Nat.reduceLT, Int.reduceToNat, reduceIte, reduceCtorEq, Int.reduceEq, Int.reduceLT, Int.reduceLE, ↓avp_condG, ↓tf_arrow, ↓ft_arrow, vT.down]
    exact ⟨s, fun _ _ h => h, hq'⟩
  have ho' : takeOk (fm f) b = true := by simpa using ho
  have tk : ∀ f', f = f' → takeOk (fm f') b = true := fun f' e => e ▸ ho'
  have hlb : wd f ≤ b.length := by rw [okF] at ho'; simpa using ho'
  have hL : ∃ n, takeL (fm f) b = [n] := by
    have : (takeL (fm f) b).length = (digs (fm f)).length := by rw [takeL, if_pos ho', takeN_len]
    have h2 : (digs (fm f)).length = 1 := by rw [digs_len]; unfold fm; split <;> rfl
    rw [h2] at this
    match takeL (fm f) b, this with
    | [n], _ => exact ⟨n, rfl⟩
  obtain ⟨n, hL⟩ := hL
  have hr : (takeR (fm f) b).length ≤ b.length := by rw [(numF hlb).2, List.length_drop]; omega
  have hn0 : 0 ≤ n ∧ n < 65536 := by
    have := (numF hlb).1
    rw [hL] at this
    have h2 := num_bd (wd f) (b.take (wd f)) (by rw [List.length_take]; omega)
    change n = _ at this
    rw [this]
    rcases fm_of f with ⟨_, e⟩ | ⟨_, e⟩ <;> rw [e] at h2 ⊢ <;> omega
  obtain ⟨r, hR⟩ : ∃ r, takeR (fm f) b = r := ⟨_, rfl⟩
  rw [hR] at hr
  by_cases h3 : f ≤ 3
  · have e : takeF false x f b = (setN x f n, r, true) := by
      unfold takeF; rw [if_neg ho, if_pos h3, hL, hR]; rfl
    have hq' := hq (s.set g (some (stE (setN x f n) (.t .nilS)))) (.t .nilS) ⟨by rw [e]; exact Store.set_same _ _ _, by rw [e, setN_keep, hx]; exact lv_nil, not_t⟩ (fun _ => rfl) (keep' _)
    rw [e] at hq'
    have : f = 0 ∨ f = 1 ∨ f = 2 ∨ f = 3 := by omega
    unfold setN at hq'
    rcases this with rfl | rfl | rfl | rfl
    all_goals
      unfold G_ops_step_take
      simp only [vP.down, vS.down, vE.down, Nat.reduceEqDiff, Nat.reduceAdd, Nat.reduceSub, Nat.reduceMul, Nat.reduceLeDiff, Nat.reduceLT, Int.reduceToNat, reduceIte, reduceCtorEq, Int.reduceEq, Int.reduceLT, Int.reduceLE, ↓avp_condG, ↓tf_arrow, ↓ft_arrow, k_ops_step_take_ops_step_num.down, m_ops_step_num]
      refine ⟨_, h0, .inl ⟨g, rfl, ?_⟩⟩
      unfold numR offN
      simp only [vP.down, vS.down, vE.down, Nat.reduceEqDiff, Nat.reduceAdd, Nat.reduceSub, Nat.reduceMul, Nat.reduceLeDiff, Nat.reduceLT, Int.reduceToNat, reduceIte, reduceCtorEq, Int.reduceEq, Int.reduceLT, Int.reduceLE, ↓avp_condG, ↓tf_arrow, ↓ft_arrow, neqP_ptr ty_Pint, k_ops_step_take_pack_Take.down, A_pack_Take, p_pack_Take, r_pack_Take, ho', hL, hR, hg, false_implies]
      ((repeat' with_reducible refine And.intro ?_ ?_) <;> try (first | omega | (simp only [List.length_take, List.length_drop, List.length_append, List.length_map, List.length_replicate] <;> omega)))
      simp only [vP.down, vS.down, vE.down, Nat.reduceEqDiff, Nat.reduceAdd, Nat.reduceSub, Nat.reduceMul, Nat.reduceLeDiff, Nat.reduceLT, Int.reduceToNat, reduceIte, reduceCtorEq, Int.reduceEq, Int.reduceLT, Int.reduceLE, ↓avp_condG, ↓tf_arrow, ↓ft_arrow, vT.down]
      exact ⟨_, fun _ _ h => h, hq'⟩
  have hix : idxB K_ops_step_take 22 (.t (sl [n])) (.t (.int .i64 0)) = .val True (.imm [.int .i64 n]) := idx_at (l := [n]) (i := 0) ty_Lint ty_int rfl (by simp) .i64
  by_cases hbad : f = 7 ∧ 60 < n ∨ (r.length : Int) < n
  · have e : takeF false x f b = (x, [], false) := by
      unfold takeF; rw [if_neg ho, if_neg h3, hL, hR]; exact if_pos hbad
    have hq' := hq s (.t .nilS) (same x (by rw [e]) hx hg) (fun _ => rfl) keep
    rw [e] at hq'
    by_cases c1 : (r.length : Int) < n
    · unfold G_ops_step_take
      simp only [vP.down, vS.down, vE.down, Nat.reduceEqDiff, Nat.reduceAdd, Nat.reduceSub, Nat.reduceMul, Nat.reduceLeDiff, Nat.reduceLT, Int.reduceToNat, reduceIte, reduceCtorEq, Int.reduceEq, Int.reduceLT, Int.reduceLE, ↓avp_condG, ↓tf_arrow, ↓ft_arrow, k_ops_step_take_ops_step_num.down, m_ops_step_num]
      refine ⟨f, h0, .inl ⟨g, rfl, ?_⟩⟩
      unfold numR
      simp only [vP.down, vS.down, vE.down, Nat.reduceEqDiff, Nat.reduceAdd, Nat.reduceSub, Nat.reduceMul, Nat.reduceLeDiff, Nat.reduceLT, Int.reduceToNat, reduceIte, reduceCtorEq, Int.reduceEq, Int.reduceLT, Int.reduceLE, ↓avp_condG, ↓tf_arrow, ↓ft_arrow, neqP_nil ty_Pint, k_ops_step_take_pack_Take.down, A_pack_Take, p_pack_Take, r_pack_Take, ho', hL, hR, h3, c1, hix, pick_of, pick_ot, false_implies]
      ((repeat' with_reducible refine And.intro ?_ ?_) <;> try (first | omega | (simp only [List.length_take, List.length_drop, List.length_append, List.length_map, List.length_replicate] <;> omega)))
      simp only [vP.down, vS.down, vE.down, Nat.reduceEqDiff, Nat.reduceAdd, Nat.reduceSub, Nat.reduceMul, Nat.reduceLeDiff, Nat.reduceLT, Int.reduceToNat, reduceIte, reduceCtorEq, Int.reduceEq, Int.reduceLT, Int.reduceLE, ↓avp_condG, ↓tf_arrow, ↓ft_arrow, vT.down]
      exact ⟨s, fun _ _ h => h, hq'⟩
    · have c2 : f = 7 := by omega
      subst c2
      have c3 : 60 < n := by omega
      unfold G_ops_step_take
      simp only [vP.down, vS.down, vE.down, Nat.reduceEqDiff, Nat.reduceAdd, Nat.reduceSub, Nat.reduceMul, Nat.reduceLeDiff, Nat.reduceLT, Int.reduceToNat, reduceIte, reduceCtorEq, Int.reduceEq, Int.reduceLT, Int.reduceLE, ↓avp_condG, ↓tf_arrow, ↓ft_arrow, k_ops_step_take_ops_step_num.down, m_ops_step_num]
      refine ⟨_, h0, .inl ⟨g, rfl, ?_⟩⟩
      unfold numR
      simp only [vP.down, vS.down, vE.down, Nat.reduceEqDiff, Nat.reduceAdd, Nat.reduceSub, Nat.reduceMul, Nat.reduceLeDiff, Nat.reduceLT, Int.reduceToNat, reduceIte, reduceCtorEq, Int.reduceEq, Int.reduceLT, Int.reduceLE, ↓avp_condG, ↓tf_arrow, ↓ft_arrow, neqP_nil ty_Pint, k_ops_step_take_pack_Take.down, A_pack_Take, p_pack_Take, r_pack_Take, ho', hL, hR, c1, c3, hix, pick_of, pick_ot, false_implies]
      ((repeat' with_reducible refine And.intro ?_ ?_) <;> try (first | omega | (simp only [List.length_take, List.length_drop, List.length_append, List.length_map, List.length_replicate] <;> omega)))
      simp only [vP.down, vS.down, vE.down, Nat.reduceEqDiff, Nat.reduceAdd, Nat.reduceSub, Nat.reduceMul, Nat.reduceLeDiff, Nat.reduceLT, Int.reduceToNat, reduceIte, reduceCtorEq, Int.reduceEq, Int.reduceLT, Int.reduceLE, ↓avp_condG, ↓tf_arrow, ↓ft_arrow, vT.down]
      exact ⟨s, fun _ _ h => h, hq'⟩
  have hix : idxB K_ops_step_take 22 (.t (sl [n])) (.t (.int .i64 0)) = .val True (.imm [.int .i64 n]) := idx_at (l := [n]) (i := 0) ty_Lint ty_int rfl (by simp) .i64
  have c1 : ¬ (r.length : Int) < n := fun h => hbad (.inr h)
  have hle : n.toNat ≤ r.length := by omega
  by_cases hf7 : f = 7
  · subst hf7
    have e : takeF false x 7 b = ({ x with Keep := x.Keep ++ (r.take n.toNat).map low2 }, r.drop n.toNat, true) := by
      unfold takeF; rw [if_neg ho, if_neg (by omega), hL, hR]; exact (if_neg hbad).trans (if_pos rfl)
    rw [e] at hq
    obtain ⟨t, ht⟩ : ∃ t, t = r.take n.toNat := ⟨_, rfl⟩
    have htl : t.length = n.toNat := by rw [ht, List.length_take]; omega
    have c3 : ¬ (60 : Int) < n := by omega
    unfold G_ops_step_take
    simp only [vP.down, vS.down, vE.down, Nat.reduceEqDiff, Nat.reduceAdd, Nat.reduceSub, Nat.reduceMul, Nat.reduceLeDiff, Nat.reduceLT, Int.reduceToNat, reduceIte, reduceCtorEq, Int.reduceEq, Int.reduceLT, Int.reduceLE, ↓avp_condG, ↓tf_arrow, ↓ft_arrow, k_ops_step_take_ops_step_num.down, m_ops_step_num]
    refine ⟨_, h0, .inl ⟨g, rfl, ?_⟩⟩
    unfold numR
    simp only [vP.down, vS.down, vE.down, Nat.reduceEqDiff, Nat.reduceAdd, Nat.reduceSub, Nat.reduceMul, Nat.reduceLeDiff, Nat.reduceLT, Int.reduceToNat, reduceIte, reduceCtorEq, Int.reduceEq, Int.reduceLT, Int.reduceLE, ↓avp_condG, ↓tf_arrow, ↓ft_arrow, neqP_nil ty_Pint, k_ops_step_take_pack_Take.down, A_pack_Take, p_pack_Take, r_pack_Take, ho', hL, hR, hg, c1, c3, hix, pick_of, pick_ot, false_implies]
    ((repeat' with_reducible refine And.intro ?_ ?_) <;> try (first | omega | (simp only [List.length_take, List.length_drop, List.length_append, List.length_map, List.length_replicate] <;> omega)))
    intro gb hgb
    refine loop_weak hm_ops_step_take (fun m σ => ∃ (i : Nat) (v : AV) (S : Store), m = t.length - i ∧ i ≤ t.length ∧ StepS S g v { x with Keep := (t.take i).map low2 } ∧ (∀ k e, k ≠ g → s.f k = some e → S.f k = some e ∧ Not v k) ∧
      σ = mkS [(0, .ptr g 0), (6, .t (.str r)), (10, .t (sl [n])), (77, .t (sl (t.map Byt.mk))), (78, .t (.int .i64 (t.length : Nat))), (79, .t (.int .i64 (i : Nat)))] S)
      ⟨0, .t .nilS, s, rfl, by omega, ⟨hg, by rw [List.take_zero]; exact lv_nil, not_t⟩, keep, rfl⟩ (wk_to (fewer_fresh hgb) (by simp only [vP.down, vS.down, vE.down, Nat.reduceEqDiff, Nat.reduceAdd, Nat.reduceSub, Nat.reduceMul, Nat.reduceLeDiff, Nat.reduceLT, Int.reduceToNat, reduceIte, reduceCtorEq, Int.reduceEq, Int.reduceLT, Int.reduceLE, ↓avp_condG, ↓tf_arrow, ↓ft_arrow, wP.down, ← ht, w2_bytes' hgb htl, htl, Int.natCast_zero])) ?_
    rintro m _ ⟨i, v, S, rfl, hi, D, hk, rfl⟩
    by_cases hlt : i < t.length
    case neg =>
      obtain rfl : i = t.length := by omega
      have hge : ¬ ((t.length : Int) < (t.length : Int)) := by omega
      rw [List.take_length] at D
      have hq' := hq S v (by rw [hx]; exact ht ▸ D) (fun h => absurd rfl h) hk
      simp only [vP.down, vS.down, vE.down, Nat.reduceEqDiff, Nat.reduceAdd, Nat.reduceSub, Nat.reduceMul, Nat.reduceLeDiff, Nat.reduceLT, Int.reduceToNat, reduceIte, reduceCtorEq, Int.reduceEq, Int.reduceLT, Int.reduceLE, ↓avp_condG, ↓tf_arrow, ↓ft_arrow, hge, false_implies]
      ((repeat' with_reducible refine And.intro ?_ ?_) <;> try (first | omega | (simp only [List.length_take, List.length_drop, List.length_append, List.length_map, List.length_replicate] <;> omega)))
      simp only [vP.down, vS.down, vE.down, Nat.reduceEqDiff, Nat.reduceAdd, Nat.reduceSub, Nat.reduceMul, Nat.reduceLeDiff, Nat.reduceLT, Int.reduceToNat, reduceIte, reduceCtorEq, Int.reduceEq, Int.reduceLT, Int.reduceLE, ↓avp_condG, ↓tf_arrow, ↓ft_arrow, vT.down]
      exact ⟨_, fun _ _ h => h, hq'⟩
    have hlt' : (i : Int) < (t.length : Int) := by omega
    have hi1 : IntKind.i64.wrap ((i : Int) + 1) = ((i + 1 : Nat) : Int) := by rw [IntWalk.i64_in _ (by omega)]; rfl
    have hgt : (t.map Byt.mk).getD i default = ⟨t.getD i 0⟩ := by
      simp [List.getD_eq_getElem?_getD, hlt]
    simp only [vP.down, vS.down, vE.down, Nat.reduceEqDiff, Nat.reduceAdd, Nat.reduceSub, Nat.reduceMul, Nat.reduceLeDiff, Nat.reduceLT, Int.reduceToNat, reduceIte, reduceCtorEq, Int.reduceEq, Int.reduceLT, Int.reduceLE, ↓avp_condG, ↓tf_arrow, ↓ft_arrow, hlt', D.1, hgt, and3, false_implies]
    ((repeat' with_reducible refine And.intro ?_ ?_) <;> try (first | omega | (simp only [List.length_take, List.length_drop, List.length_append, List.length_map, List.length_replicate] <;> omega)))
    intro g9 hg9
    refine append_new ty_Lint ty_int rfl (by decide) D.2.1 hg9 (shows_one (x := low2 (t.getD i 0)) rfl rfl rfl) (by simp; omega) (by simp; omega) fun v' S' hv' kp => ?_
    obtain ⟨k1, k2⟩ := kp _ _ D.1 D.2.2
    simp only [vP.down, vS.down, vE.down, Nat.reduceEqDiff, Nat.reduceAdd, Nat.reduceSub, Nat.reduceMul, Nat.reduceLeDiff, Nat.reduceLT, Int.reduceToNat, reduceIte, reduceCtorEq, Int.reduceEq, Int.reduceLT, Int.reduceLE, ↓avp_condG, ↓tf_arrow, ↓ft_arrow, k1, hv'.cells, hv'.one]
    refine round_to (t.length - (i + 1)) [(0, .ptr g 0), (6, .t (.str r)), (10, .t (sl [n])), (77, .t (sl (t.map Byt.mk))), (78, .t (.int .i64 (t.length : Nat))), (79, .t (.int .i64 (i + 1 : Nat)))] (S'.set g (some (stE { x with Keep := (t.take (i + 1)).map low2 } v'))) (by omega) fewer_refl (by simp only [vP.down, vS.down, vE.down, Nat.reduceEqDiff, Nat.reduceAdd, Nat.reduceSub, Nat.reduceMul, Nat.reduceLeDiff, Nat.reduceLT, Int.reduceToNat, reduceIte, reduceCtorEq, Int.reduceEq, Int.reduceLT, Int.reduceLE, ↓avp_condG, ↓tf_arrow, ↓ft_arrow, wP.down, hi1])
      ⟨i + 1, v', _, rfl, hlt, ⟨Store.set_same _ _ _, ?_, k2⟩, fun k e hkg hs => ?_, rfl⟩
    · have : (t.take (i + 1)).map low2 = (t.take i).map low2 ++ [low2 (t.getD i 0)] := by
        rw [take_step hlt, List.map_append]; rfl
      dsimp only
      rw [this]
      exact hv'.set k2
    · obtain ⟨a1, a2⟩ := hk k e hkg hs
      obtain ⟨a3, a4⟩ := kp _ _ a1 a2
      exact ⟨(Store.set_other _ _ hkg).trans a3, a4⟩
  have e : takeF false x f b = (setX x f (r.take n.toNat), r.drop n.toNat, true) := by
    unfold takeF; rw [if_neg ho, if_neg h3, hL, hR]; exact (if_neg hbad).trans (if_neg hf7)
  have hq' := hq (s.set g (some (stE (setX x f (r.take n.toNat)) (.t .nilS)))) (.t .nilS) ⟨by rw [e]; exact Store.set_same _ _ _, by rw [e, show (setX x f (r.take n.toNat)).Keep = x.Keep from setX_keep, hx]; exact lv_nil, not_t⟩ (fun _ => rfl) (keep' _)
  rw [e] at hq'
  have : f = 4 ∨ f = 5 ∨ f = 6 := by omega
  unfold setX at hq'
  rcases this with rfl | rfl | rfl
  all_goals
    unfold G_ops_step_take
    simp only [vP.down, vS.down, vE.down, Nat.reduceEqDiff, Nat.reduceAdd, Nat.reduceSub, Nat.reduceMul, Nat.reduceLeDiff, Nat.reduceLT, Int.reduceToNat, reduceIte, reduceCtorEq, Int.reduceEq, Int.reduceLT, Int.reduceLE, ↓avp_condG, ↓tf_arrow, ↓ft_arrow, k_ops_step_take_ops_step_num.down, m_ops_step_num]
    refine ⟨_, h0, .inl ⟨g, rfl, ?_⟩⟩
    unfold numR
    simp only [vP.down, vS.down, vE.down, Nat.reduceEqDiff, Nat.reduceAdd, Nat.reduceSub, Nat.reduceMul, Nat.reduceLeDiff, Nat.reduceLT, Int.reduceToNat, reduceIte, reduceCtorEq, Int.reduceEq, Int.reduceLT, Int.reduceLE, ↓avp_condG, ↓tf_arrow, ↓ft_arrow, neqP_nil ty_Pint, k_ops_step_take_pack_Take.down, A_pack_Take, p_pack_Take, r_pack_Take, ho', hL, hR, hg, c1, hix, pick_of, pick_ot, false_implies, k_ops_step_take_ops_step_text.down, m_ops_step_text]
    ((repeat' with_reducible refine And.intro ?_ ?_) <;> try (first | omega | (simp only [List.length_take, List.length_drop, List.length_append, List.length_map, List.length_replicate] <;> omega)))
    all_goals
      refine ⟨_, by omega, by omega, .inl ⟨g, rfl, ?_⟩⟩
      unfold offX
      simp only [vP.down, vS.down, vE.down, Nat.reduceEqDiff, Nat.reduceAdd, Nat.reduceSub, Nat.reduceMul, Nat.reduceLeDiff, Nat.reduceLT, Int.reduceToNat, reduceIte, reduceCtorEq, Int.reduceEq, Int.reduceLT, Int.reduceLE, ↓avp_condG, ↓tf_arrow, ↓ft_arrow, hg]
      ((repeat' with_reducible refine And.intro ?_ ?_) <;> try (first | omega | (simp only [List.length_take, List.length_drop, List.length_append, List.length_map, List.length_replicate] <;> omega)))
      simp only [vP.down, vS.down, vE.down, Nat.reduceEqDiff, Nat.reduceAdd, Nat.reduceSub, Nat.reduceMul, Nat.reduceLeDiff, Nat.reduceLT, Int.reduceToNat, reduceIte, reduceCtorEq, Int.reduceEq, Int.reduceLT, Int.reduceLE, ↓avp_condG, ↓tf_arrow, ↓ft_arrow, vT.down]
      exact ⟨_, fun _ _ h => h, hq'⟩
noncomputable def c_ops_step_take : Con := .gen m_ops_step_take F_ops_step_take
theorem ok_ops_step_take : COk Try.prog 33 c_ops_step_take := fn_gok sys_ops_step_take mixed Try.func33 (by kernel_rfl) geq_ops_step_take Try.ntmps33 (by rw [Try.results33]) mono_ops_step_take ex_ops_step_take body_ops_step_take
end Go.Proofs.Ythhgaeeeppipnaa


namespace Go.Proofs.Ythhgaeeeppipnaa
open Go Go.Eng
def smallS (x : TStep) : Prop := x.Path.length ≤ 1073741824 ∧ x.To.length ≤ 1073741824 ∧ x.Text.length ≤ 1073741824 ∧ x.Keep.length ≤ 1073741824
theorem getX_small {x : TStep} (h : smallS x) (f : Int) : (getX x f).length ≤ 1073741824 := by
  obtain ⟨a, b, c, _⟩ := h
  unfold getX; repeat' split
  all_goals assumption
def G_ops_step_put : GCode := .seq (.region [⟨(some 4), none, .assign (.const (.string ⟨#[]⟩))⟩]) (.seq (.region [⟨(some 12), none, .move (.tmp 0)⟩, ⟨(some 13), none, .move (.tmp 1)⟩, ⟨(some 14), none, .call ⟨.value (.func 30), #[.tmp 12, .tmp 13], #[62, 48]⟩⟩, ⟨(some 11), none, .move (.tmp 14)⟩, ⟨(some 15), none, .extract (.tmp 11) 0⟩, ⟨(some 16), none, .extract (.tmp 11) 1⟩, ⟨(some 5), none, .assign (.tmp 15)⟩, ⟨(some 6), none, .assign (.tmp 16)⟩]) (.seq (.block 0 (.seq (.region [⟨(some 18), none, .move (.tmp 5)⟩, ⟨(some 19), none, .binOp .neq 63 (.tmp 18) (.const (.pointer none)) 63⟩, ⟨(some 17), none, .assign (.tmp 19)⟩]) (.cond (.tmp 17) (.seq (.region [⟨(some 20), none, .move (.tmp 6)⟩, ⟨(some 21), none, .move (.tmp 5)⟩, ⟨(some 22), none, .nilCheck (.tmp 21)⟩, ⟨(some 23), none, .load 3 (.tmp 22)⟩, ⟨(some 24), none, .buildSlice 22 1 #[(0, .tmp 23)]⟩, ⟨(some 25), none, .call ⟨.value (.func 19), #[.tmp 20, .tmp 24], #[9, 22]⟩⟩, ⟨(some 4), none, .assign (.tmp 25)⟩]) (.ret)) (.seq (.region [⟨(some 27), none, .move (.tmp 1)⟩, ⟨(some 28), none, .binOp .neq 48 (.tmp 27) (.const (.int .i64 7)) 48⟩, ⟨(some 26), none, .assign (.tmp 28)⟩]) (.cond (.tmp 26) (.seq (.region [⟨(some 29), none, .move (.tmp 0)⟩, ⟨(some 30), none, .move (.tmp 1)⟩, ⟨(some 31), none, .call ⟨.value (.func 31), #[.tmp 29, .tmp 30], #[62, 48]⟩⟩, ⟨(some 32), none, .nilCheck (.tmp 31)⟩, ⟨(some 33), none, .load 9 (.tmp 32)⟩, ⟨(some 7), none, .assign (.tmp 33)⟩]) (.seq (.region [⟨(some 34), none, .move (.tmp 6)⟩, ⟨(some 35), none, .move (.tmp 7)⟩, ⟨(some 36), none, .call ⟨.builtin .len, #[.tmp 35], #[9]⟩⟩, ⟨(some 37), none, .buildSlice 22 1 #[(0, .tmp 36)]⟩, ⟨(some 38), none, .call ⟨.value (.func 19), #[.tmp 34, .tmp 37], #[9, 22]⟩⟩, ⟨(some 39), none, .move (.tmp 7)⟩, ⟨(some 40), none, .binOp .add 9 (.tmp 38) (.tmp 39) 9⟩, ⟨(some 4), none, .assign (.tmp 40)⟩]) (.ret))) (.skip)))))) (.seq (.region [⟨(some 41), none, .move (.tmp 6)⟩, ⟨(some 42), none, .move (.tmp 0)⟩, ⟨(some 43), none, .nilCheck (.tmp 42)⟩, ⟨(some 44), none, .fieldAddr 44 (.tmp 43) 0⟩, ⟨(some 45), none, .fieldAddr 24 (.tmp 44) 8⟩, ⟨(some 46), none, .load 22 (.tmp 45)⟩, ⟨(some 47), none, .call ⟨.builtin .len, #[.tmp 46], #[22]⟩⟩, ⟨(some 48), none, .buildSlice 22 1 #[(0, .tmp 47)]⟩, ⟨(some 49), none, .call ⟨.value (.func 19), #[.tmp 41, .tmp 48], #[9, 22]⟩⟩, ⟨(some 8), none, .assign (.tmp 49)⟩]) (.seq (.seq (.region [⟨(some 50), none, .move (.tmp 0)⟩, ⟨(some 51), none, .nilCheck (.tmp 50)⟩, ⟨(some 52), none, .fieldAddr 44 (.tmp 51) 0⟩, ⟨(some 53), none, .fieldAddr 24 (.tmp 52) 8⟩, ⟨(some 54), none, .load 22 (.tmp 53)⟩, ⟨(some 55), none, .call ⟨.builtin .len, #[.tmp 54], #[22]⟩⟩, ⟨(some 56), none, .move (.const (.int .i64 0))⟩]) (.block 1 (.loop (.seq .weak (.seq (.region [⟨(some 57), none, .binOp .lss 3 (.tmp 56) (.tmp 55) 3⟩]) (.seq (.cond (.tmp 57) (.skip) (.exit 1)) (.seq (.block 2 (.seq (.region [⟨(some 58), none, .indexAddr 22 (.tmp 54) (.tmp 56)⟩, ⟨(some 59), none, .load 3 (.tmp 58)⟩, ⟨(some 10), none, .assign (.tmp 59)⟩]) (.region [⟨(some 60), none, .move (.tmp 8)⟩, ⟨(some 61), none, .move (.tmp 6)⟩, ⟨(some 62), none, .move (.tmp 10)⟩, ⟨(some 63), none, .buildSlice 22 1 #[(0, .tmp 62)]⟩, ⟨(some 64), none, .call ⟨.value (.func 19), #[.tmp 61, .tmp 63], #[9, 22]⟩⟩, ⟨(some 65), none, .binOp .add 9 (.tmp 60) (.tmp 64) 9⟩, ⟨(some 8), none, .assign (.tmp 65)⟩]))) (.region [⟨(some 66), none, .binOp .add 3 (.tmp 56) (.const (.int .i64 1)) 3⟩, ⟨(some 56), none, .move (.tmp 66)⟩])))))))) (.seq (.region [⟨(some 67), none, .move (.tmp 8)⟩, ⟨(some 4), none, .assign (.tmp 67)⟩]) (.ret))))))
noncomputable def l_ops_step_put : List (Nat × Con) := [(30, c_ops_step_num), (19, c_pack_Put), (31, c_ops_step_text)]
noncomputable abbrev K_ops_step_put : Ctx := ctx (cl l_ops_step_put)
theorem geq_ops_step_put : gof K_ops_step_put Try.f21 = some G_ops_step_put.strip := by kernel_rfl
theorem sys_ops_step_put : Go.Eng.Sys Try.prog K_ops_step_put := sys_of' ⟨ok_ops_step_num, ok_pack_Put, ok_ops_step_text, trivial⟩
theorem hm_ops_step_put : ConMono K_ops_step_put := conMono_of sys_ops_step_put.con
noncomputable def k_ops_step_put_ops_step_num := PLift.up (call_gen (C := K_ops_step_put) (f := 30) (modes := m_ops_step_num) (F := F_ops_step_num) rfl)
noncomputable def k_ops_step_put_pack_Put := PLift.up (call_scal (C := K_ops_step_put) (f := 19) (A := A_pack_Put) (p := p_pack_Put) (r := r_pack_Put) rfl)
noncomputable def k_ops_step_put_ops_step_text := PLift.up (call_gen (C := K_ops_step_put) (f := 31) (modes := m_ops_step_text) (F := F_ops_step_text) rfl)
def A_ops_step_put := Arms.cons (argI TStep) (Arms.cons (argT Int) Arms.nil)
def p_ops_step_put (x : TStep × Int × Unit) : Prop := smallS x.1 ∧ 0 ≤ x.2.1 ∧ x.2.1 ≤ 7
def r_ops_step_put (x : TStep × Int × Unit) : AV := .t (.str (putFld x.1 x.2.1))
set_option maxRecDepth 10000 in
set_option maxHeartbeats 4000000 in
theorem body_ops_step_put (x : TStep × Int × Unit) (hp : p_ops_step_put x) : avp K_ops_step_put G_ops_step_put (Ret K_ops_step_put [.tmp 4] fun v _ => v = r_ops_step_put x) (entry (A_ops_step_put.enc x) .empty) := by
  obtain ⟨x, f, ⟨⟩⟩ := x
  obtain ⟨hs, h0, h7⟩ := hp
  dsimp only at hs h0 h7
  have hgx := getX_small hs f
  obtain ⟨p1, p2, p3, p4⟩ := hs
  change avp _ _ (Ret _ _ fun v _ => v = .t (.str (putFld x f))) (entry [.imm (stT x), .t (.int .i64 f)] .empty)
  have lf : (fm f).length ≤ 1099511627776 := by unfold fm; split <;> simp
  by_cases h3 : f ≤ 3
  · have hr : putFld x f = putF (fm f) [getN x f] := if_pos h3
    rw [hr]
    unfold getN
    have : f = 0 ∨ f = 1 ∨ f = 2 ∨ f = 3 := by omega
    rcases this with rfl | rfl | rfl | rfl
    all_goals
      unfold G_ops_step_put
      simp only [vP.down, vS.down, vE.down, Nat.reduceEqDiff, Nat.reduceAdd, Nat.reduceSub, Nat.reduceMul, Nat.reduceLeDiff, Nat.reduceLT, Int.reduceToNat, reduceIte, reduceCtorEq, Int.reduceEq, Int.reduceLT, Int.reduceLE, ↓avp_condG, ↓tf_arrow, ↓ft_arrow, k_ops_step_put_ops_step_num.down, m_ops_step_num]
      refine ⟨_, h0, .inr ⟨x, rfl, ?_⟩⟩
      unfold numR offN stT
      simp only [vP.down, vS.down, vE.down, Nat.reduceEqDiff, Nat.reduceAdd, Nat.reduceSub, Nat.reduceMul, Nat.reduceLeDiff, Nat.reduceLT, Int.reduceToNat, reduceIte, reduceCtorEq, Int.reduceEq, Int.reduceLT, Int.reduceLE, ↓avp_condG, ↓tf_arrow, ↓ft_arrow, neqP_imm ty_Pint, k_ops_step_put_pack_Put.down, A_pack_Put, p_pack_Put, r_pack_Put, false_implies]
      intro g hg
      refine ⟨lf, ?_⟩
      simp only [vP.down, vS.down, vE.down, Nat.reduceEqDiff, Nat.reduceAdd, Nat.reduceSub, Nat.reduceMul, Nat.reduceLeDiff, Nat.reduceLT, Int.reduceToNat, reduceIte, reduceCtorEq, Int.reduceEq, Int.reduceLT, Int.reduceLE, ↓avp_condG, ↓tf_arrow, ↓ft_arrow, vT.down]
  by_cases hf7 : f = 7
  · subst hf7
    have hr : putFld x 7 = putF (fm 7) [(x.Keep.length : Int)] ++ (x.Keep.map fun k => putF (fm 7) [k]).flatten := rfl
    rw [hr]
    have hl1 : ∀ k, (putF (fm 7) [k]).length = wd 7 := fun k => by rw [putF_f, be_len]
    have hlk : ∀ l : List Int, ((l.map fun k => putF (fm 7) [k]).flatten).length = l.length := keepB_len
    unfold G_ops_step_put
    simp only [vP.down, vS.down, vE.down, Nat.reduceEqDiff, Nat.reduceAdd, Nat.reduceSub, Nat.reduceMul, Nat.reduceLeDiff, Nat.reduceLT, Int.reduceToNat, reduceIte, reduceCtorEq, Int.reduceEq, Int.reduceLT, Int.reduceLE, ↓avp_condG, ↓tf_arrow, ↓ft_arrow, k_ops_step_put_ops_step_num.down, m_ops_step_num]
    refine ⟨_, h0, .inr ⟨x, rfl, ?_⟩⟩
    unfold numR offN stT
    simp only [vP.down, vS.down, vE.down, Nat.reduceEqDiff, Nat.reduceAdd, Nat.reduceSub, Nat.reduceMul, Nat.reduceLeDiff, Nat.reduceLT, Int.reduceToNat, reduceIte, reduceCtorEq, Int.reduceEq, Int.reduceLT, Int.reduceLE, ↓avp_condG, ↓tf_arrow, ↓ft_arrow, neqP_nil ty_Pint, k_ops_step_put_pack_Put.down, A_pack_Put, p_pack_Put, r_pack_Put, false_implies]
    intro g hg
    refine ⟨lf, ?_⟩
    refine loop_weak hm_ops_step_put (fun m σ => ∃ i : Nat, m = x.Keep.length - i ∧ i ≤ x.Keep.length ∧ σ = mkS [(6, .t (.str (fm 7))), (8, .t (.str (putF (fm 7) [(x.Keep.length : Int)] ++ ((x.Keep.take i).map fun k => putF (fm 7) [k]).flatten))), (54, .t (sl x.Keep)), (55, .t (.int .i64 (x.Keep.length : Nat))), (56, .t (.int .i64 (i : Nat)))] .empty)
      ⟨0, rfl, by omega, rfl⟩ (wk_to fewer_empty (by simp only [vP.down, vS.down, vE.down, Nat.reduceEqDiff, Nat.reduceAdd, Nat.reduceSub, Nat.reduceMul, Nat.reduceLeDiff, Nat.reduceLT, Int.reduceToNat, reduceIte, reduceCtorEq, Int.reduceEq, Int.reduceLT, Int.reduceLE, ↓avp_condG, ↓tf_arrow, ↓ft_arrow, wP.down, List.take_zero, List.flatten_nil, Int.natCast_zero])) ?_
    rintro m _ ⟨i, rfl, hi, rfl⟩
    by_cases hlt : i < x.Keep.length
    case neg =>
      obtain rfl : i = x.Keep.length := by omega
      have hge : ¬ ((x.Keep.length : Int) < (x.Keep.length : Int)) := by omega
      simp only [vP.down, vS.down, vE.down, Nat.reduceEqDiff, Nat.reduceAdd, Nat.reduceSub, Nat.reduceMul, Nat.reduceLeDiff, Nat.reduceLT, Int.reduceToNat, reduceIte, reduceCtorEq, Int.reduceEq, Int.reduceLT, Int.reduceLE, ↓avp_condG, ↓tf_arrow, ↓ft_arrow, hge, false_implies, List.take_length]
      simp only [vP.down, vS.down, vE.down, Nat.reduceEqDiff, Nat.reduceAdd, Nat.reduceSub, Nat.reduceMul, Nat.reduceLeDiff, Nat.reduceLT, Int.reduceToNat, reduceIte, reduceCtorEq, Int.reduceEq, Int.reduceLT, Int.reduceLE, ↓avp_condG, ↓tf_arrow, ↓ft_arrow, vT.down]
    have hlt' : (i : Int) < (x.Keep.length : Int) := by omega
    have hi1 : IntKind.i64.wrap ((i : Int) + 1) = ((i + 1 : Nat) : Int) := by rw [IntWalk.i64_in _ (by omega)]; rfl
    have e1 : x.Keep.take (i + 1) = x.Keep.take i ++ [x.Keep.getD i default] := by
      rw [List.take_add_one, List.getD_eq_getElem?_getD, List.getElem?_eq_getElem hlt]; rfl
    have hl2 := hlk (x.Keep.take i)
    have hl3 := hl1 (x.Keep.length : Int)
    have hl4 := hl1 (x.Keep.getD i default)
    simp only [vP.down, vS.down, vE.down, Nat.reduceEqDiff, Nat.reduceAdd, Nat.reduceSub, Nat.reduceMul, Nat.reduceLeDiff, Nat.reduceLT, Int.reduceToNat, reduceIte, reduceCtorEq, Int.reduceEq, Int.reduceLT, Int.reduceLE, ↓avp_condG, ↓tf_arrow, ↓ft_arrow, hlt', k_ops_step_put_pack_Put.down, A_pack_Put, p_pack_Put, r_pack_Put, false_implies]
    ((repeat' with_reducible refine And.intro ?_ ?_) <;> try (first | omega | (simp only [List.length_take, List.length_drop, List.length_append, List.length_map, List.length_replicate] <;> omega)))
    intro g2 hg2
    refine ⟨lf, by simp only [List.length_append, hl2, hl3, hl4, List.length_take, wd_one (show (3 : Int) ≤ 7 by omega)]; omega, ?_⟩
    exact round_to (x.Keep.length - (i + 1)) [(6, .t (.str (fm 7))), (8, .t (.str (putF (fm 7) [(x.Keep.length : Int)] ++ ((x.Keep.take (i + 1)).map fun k => putF (fm 7) [k]).flatten))), (54, .t (sl x.Keep)), (55, .t (.int .i64 (x.Keep.length : Nat))), (56, .t (.int .i64 (i + 1 : Nat)))] .empty (by omega) fewer_empty
      (by simp only [vP.down, vS.down, vE.down, Nat.reduceEqDiff, Nat.reduceAdd, Nat.reduceSub, Nat.reduceMul, Nat.reduceLeDiff, Nat.reduceLT, Int.reduceToNat, reduceIte, reduceCtorEq, Int.reduceEq, Int.reduceLT, Int.reduceLE, ↓avp_condG, ↓tf_arrow, ↓ft_arrow, wP.down, hi1, e1, List.map_append, List.flatten_append, List.flatten_cons, List.flatten_nil, List.append_assoc]) ⟨i + 1, rfl, hlt, rfl⟩
  have hr : putFld x f = putF (fm f) [((getX x f).length : Int)] ++ getX x f := (if_neg h3).trans (if_neg hf7)
  rw [hr]
  have hl1 : ∀ k, (putF (fm f) [k]).length = wd f := fun k => by rw [putF_f, be_len]
  have hwd := wd_one (f := f) (by omega)
  unfold getX at hgx ⊢
  have : f = 4 ∨ f = 5 ∨ f = 6 := by omega
  rcases this with rfl | rfl | rfl
  all_goals
    unfold G_ops_step_put
    simp only [vP.down, vS.down, vE.down, Nat.reduceEqDiff, Nat.reduceAdd, Nat.reduceSub, Nat.reduceMul, Nat.reduceLeDiff, Nat.reduceLT, Int.reduceToNat, reduceIte, reduceCtorEq, Int.reduceEq, Int.reduceLT, Int.reduceLE, ↓avp_condG, ↓tf_arrow, ↓ft_arrow, k_ops_step_put_ops_step_num.down, m_ops_step_num]
    refine ⟨_, h0, .inr ⟨x, rfl, ?_⟩⟩
    unfold numR offN stT
    simp only [vP.down, vS.down, vE.down, Nat.reduceEqDiff, Nat.reduceAdd, Nat.reduceSub, Nat.reduceMul, Nat.reduceLeDiff, Nat.reduceLT, Int.reduceToNat, reduceIte, reduceCtorEq, Int.reduceEq, Int.reduceLT, Int.reduceLE, ↓avp_condG, ↓tf_arrow, ↓ft_arrow, neqP_nil ty_Pint, k_ops_step_put_ops_step_text.down, m_ops_step_text, k_ops_step_put_pack_Put.down, A_pack_Put, p_pack_Put, r_pack_Put, false_implies]
    refine ⟨_, by omega, by omega, .inr ⟨x, rfl, ?_⟩⟩
    unfold offX stT
    simp only [vP.down, vS.down, vE.down, Nat.reduceEqDiff, Nat.reduceAdd, Nat.reduceSub, Nat.reduceMul, Nat.reduceLeDiff, Nat.reduceLT, Int.reduceToNat, reduceIte, reduceCtorEq, Int.reduceEq, Int.reduceLT, Int.reduceLE, ↓avp_condG, ↓tf_arrow, ↓ft_arrow, k_ops_step_put_pack_Put.down, A_pack_Put, p_pack_Put, r_pack_Put]
    intro g hg
    refine ⟨lf, by rw [hl1, hwd]; simp only [reduceIte, Int.reduceEq] at hgx; omega, ?_⟩
    simp only [vP.down, vS.down, vE.down, Nat.reduceEqDiff, Nat.reduceAdd, Nat.reduceSub, Nat.reduceMul, Nat.reduceLeDiff, Nat.reduceLT, Int.reduceToNat, reduceIte, reduceCtorEq, Int.reduceEq, Int.reduceLT, Int.reduceLE, ↓avp_condG, ↓tf_arrow, ↓ft_arrow, vT.down]
noncomputable def c_ops_step_put : Con := fnScal A_ops_step_put p_ops_step_put r_ops_step_put
theorem ok_ops_step_put : COk Try.prog 21 c_ops_step_put := fn_sok sys_ops_step_put mixed Try.func21 (by kernel_rfl) geq_ops_step_put Try.ntmps21 (by rw [Try.results21]) (fun x => by unfold r_ops_step_put; simp [AV.scal]) fun x hx => ⟨Nat.le_of_ble_eq_true rfl, body_ops_step_put x hx⟩

def G_ops_step_same : GCode := .seq (.region [⟨(some 3), none, .box 44 (.tmp 1)⟩, ⟨(some 4), none, .assign (.const (.bool false))⟩]) (.seq (.seq (.seq .weak (.region [⟨(some 7), none, .move (.tmp 0)⟩, ⟨(some 8), none, .nilCheck (.tmp 7)⟩, ⟨(some 9), none, .fieldAddr 44 (.tmp 8) 0⟩, ⟨(some 10), none, .fieldAddr 24 (.tmp 9) 8⟩, ⟨(some 11), none, .load 22 (.tmp 10)⟩, ⟨(some 12), none, .call ⟨.builtin .len, #[.tmp 11], #[22]⟩⟩, ⟨(some 13), none, .fieldAddr 44 (.tmp 3) 0⟩, ⟨(some 14), none, .fieldAddr 24 (.tmp 13) 8⟩, ⟨(some 15), none, .load 22 (.tmp 14)⟩, ⟨(some 16), none, .call ⟨.builtin .len, #[.tmp 15], #[22]⟩⟩, ⟨(some 17), none, .binOp .neq 3 (.tmp 12) (.tmp 16) 3⟩])) (.cond (.tmp 17) (.seq (.region [⟨(some 4), none, .assign (.const (.bool false))⟩]) (.ret)) (.skip))) (.seq (.seq (.region [⟨(some 18), none, .move (.tmp 0)⟩, ⟨(some 19), none, .nilCheck (.tmp 18)⟩, ⟨(some 20), none, .fieldAddr 44 (.tmp 19) 0⟩, ⟨(some 21), none, .fieldAddr 24 (.tmp 20) 8⟩, ⟨(some 22), none, .load 22 (.tmp 21)⟩, ⟨(some 23), none, .call ⟨.builtin .len, #[.tmp 22], #[22]⟩⟩, ⟨(some 24), none, .move (.const (.int .i64 0))⟩]) (.block 0 (.loop (.seq .weak (.seq (.region [⟨(some 25), none, .binOp .lss 3 (.tmp 24) (.tmp 23) 3⟩]) (.seq (.cond (.tmp 25) (.skip) (.exit 0)) (.seq (.block 1 (.seq (.region [⟨(some 26), none, .move (.tmp 24)⟩, ⟨(some 27), none, .indexAddr 22 (.tmp 22) (.tmp 24)⟩, ⟨(some 28), none, .load 3 (.tmp 27)⟩, ⟨(some 5), none, .assign (.tmp 26)⟩, ⟨(some 6), none, .assign (.tmp 28)⟩]) (.seq (.region [⟨(some 29), none, .move (.tmp 6)⟩, ⟨(some 30), none, .fieldAddr 44 (.tmp 3) 0⟩, ⟨(some 31), none, .fieldAddr 24 (.tmp 30) 8⟩, ⟨(some 32), none, .load 22 (.tmp 31)⟩, ⟨(some 33), none, .move (.tmp 5)⟩, ⟨(some 34), none, .indexAddr 22 (.tmp 32) (.tmp 33)⟩, ⟨(some 35), none, .load 3 (.tmp 34)⟩, ⟨(some 36), none, .binOp .neq 3 (.tmp 29) (.tmp 35) 3⟩]) (.cond (.tmp 36) (.seq (.region [⟨(some 4), none, .assign (.const (.bool false))⟩]) (.ret)) (.skip))))) (.region [⟨(some 37), none, .binOp .add 3 (.tmp 24) (.const (.int .i64 1)) 3⟩, ⟨(some 24), none, .move (.tmp 37)⟩])))))))) (.seq (.region [⟨(some 38), none, .move (.tmp 0)⟩, ⟨(some 39), none, .nilCheck (.tmp 38)⟩, ⟨(some 40), none, .fieldAddr 44 (.tmp 39) 0⟩, ⟨(some 41), none, .fieldAddr 24 (.tmp 40) 0⟩, ⟨(some 42), none, .load 3 (.tmp 41)⟩, ⟨(some 43), none, .fieldAddr 44 (.tmp 3) 0⟩, ⟨(some 44), none, .fieldAddr 24 (.tmp 43) 0⟩, ⟨(some 45), none, .load 3 (.tmp 44)⟩, ⟨(some 46), none, .binOp .eql 3 (.tmp 42) (.tmp 45) 3⟩, ⟨(some 47), none, .move (.tmp 46)⟩, ⟨(some 48), (some (47, true)), .move (.tmp 0)⟩, ⟨(some 49), (some (47, true)), .nilCheck (.tmp 48)⟩, ⟨(some 50), (some (47, true)), .fieldAddr 44 (.tmp 49) 0⟩, ⟨(some 51), (some (47, true)), .fieldAddr 24 (.tmp 50) 1⟩, ⟨(some 52), (some (47, true)), .load 3 (.tmp 51)⟩, ⟨(some 53), (some (47, true)), .fieldAddr 44 (.tmp 3) 0⟩, ⟨(some 54), (some (47, true)), .fieldAddr 24 (.tmp 53) 1⟩, ⟨(some 55), (some (47, true)), .load 3 (.tmp 54)⟩, ⟨(some 56), (some (47, true)), .binOp .eql 3 (.tmp 52) (.tmp 55) 3⟩, ⟨(some 57), none, .pick (.tmp 47) (.tmp 56) (.const (.bool false))⟩, ⟨(some 58), none, .move (.tmp 57)⟩, ⟨(some 59), (some (58, true)), .move (.tmp 0)⟩, ⟨(some 60), (some (58, true)), .nilCheck (.tmp 59)⟩, ⟨(some 61), (some (58, true)), .fieldAddr 44 (.tmp 60) 0⟩, ⟨(some 62), (some (58, true)), .fieldAddr 24 (.tmp 61) 2⟩, ⟨(some 63), (some (58, true)), .load 3 (.tmp 62)⟩, ⟨(some 64), (some (58, true)), .fieldAddr 44 (.tmp 3) 0⟩, ⟨(some 65), (some (58, true)), .fieldAddr 24 (.tmp 64) 2⟩, ⟨(some 66), (some (58, true)), .load 3 (.tmp 65)⟩, ⟨(some 67), (some (58, true)), .binOp .eql 3 (.tmp 63) (.tmp 66) 3⟩, ⟨(some 68), none, .pick (.tmp 58) (.tmp 67) (.const (.bool false))⟩, ⟨(some 69), none, .move (.tmp 68)⟩, ⟨(some 70), (some (69, true)), .move (.tmp 0)⟩, ⟨(some 71), (some (69, true)), .nilCheck (.tmp 70)⟩, ⟨(some 72), (some (69, true)), .fieldAddr 44 (.tmp 71) 0⟩, ⟨(some 73), (some (69, true)), .fieldAddr 24 (.tmp 72) 3⟩, ⟨(some 74), (some (69, true)), .load 3 (.tmp 73)⟩, ⟨(some 75), (some (69, true)), .fieldAddr 44 (.tmp 3) 0⟩, ⟨(some 76), (some (69, true)), .fieldAddr 24 (.tmp 75) 3⟩, ⟨(some 77), (some (69, true)), .load 3 (.tmp 76)⟩, ⟨(some 78), (some (69, true)), .binOp .eql 3 (.tmp 74) (.tmp 77) 3⟩, ⟨(some 79), none, .pick (.tmp 69) (.tmp 78) (.const (.bool false))⟩, ⟨(some 80), none, .move (.tmp 79)⟩, ⟨(some 81), (some (80, true)), .move (.tmp 0)⟩, ⟨(some 82), (some (80, true)), .nilCheck (.tmp 81)⟩, ⟨(some 83), (some (80, true)), .fieldAddr 44 (.tmp 82) 0⟩, ⟨(some 84), (some (80, true)), .fieldAddr 24 (.tmp 83) 4⟩, ⟨(some 85), (some (80, true)), .load 3 (.tmp 84)⟩, ⟨(some 86), (some (80, true)), .fieldAddr 44 (.tmp 3) 0⟩, ⟨(some 87), (some (80, true)), .fieldAddr 24 (.tmp 86) 4⟩, ⟨(some 88), (some (80, true)), .load 3 (.tmp 87)⟩, ⟨(some 89), (some (80, true)), .binOp .eql 3 (.tmp 85) (.tmp 88) 3⟩, ⟨(some 90), none, .pick (.tmp 80) (.tmp 89) (.const (.bool false))⟩, ⟨(some 91), none, .move (.tmp 90)⟩, ⟨(some 92), (some (91, true)), .move (.tmp 0)⟩, ⟨(some 93), (some (91, true)), .nilCheck (.tmp 92)⟩, ⟨(some 94), (some (91, true)), .fieldAddr 44 (.tmp 93) 0⟩, ⟨(some 95), (some (91, true)), .fieldAddr 24 (.tmp 94) 5⟩, ⟨(some 96), (some (91, true)), .load 9 (.tmp 95)⟩, ⟨(some 97), (some (91, true)), .fieldAddr 44 (.tmp 3) 0⟩, ⟨(some 98), (some (91, true)), .fieldAddr 24 (.tmp 97) 5⟩, ⟨(some 99), (some (91, true)), .load 9 (.tmp 98)⟩, ⟨(some 100), (some (91, true)), .binOp .eql 9 (.tmp 96) (.tmp 99) 9⟩, ⟨(some 101), none, .pick (.tmp 91) (.tmp 100) (.const (.bool false))⟩, ⟨(some 102), none, .move (.tmp 101)⟩, ⟨(some 103), (some (102, true)), .move (.tmp 0)⟩, ⟨(some 104), (some (102, true)), .nilCheck (.tmp 103)⟩, ⟨(some 105), (some (102, true)), .fieldAddr 44 (.tmp 104) 0⟩, ⟨(some 106), (some (102, true)), .fieldAddr 24 (.tmp 105) 6⟩, ⟨(some 107), (some (102, true)), .load 9 (.tmp 106)⟩, ⟨(some 108), (some (102, true)), .fieldAddr 44 (.tmp 3) 0⟩, ⟨(some 109), (some (102, true)), .fieldAddr 24 (.tmp 108) 6⟩, ⟨(some 110), (some (102, true)), .load 9 (.tmp 109)⟩, ⟨(some 111), (some (102, true)), .binOp .eql 9 (.tmp 107) (.tmp 110) 9⟩, ⟨(some 112), none, .pick (.tmp 102) (.tmp 111) (.const (.bool false))⟩, ⟨(some 113), none, .move (.tmp 112)⟩, ⟨(some 114), (some (113, true)), .move (.tmp 0)⟩, ⟨(some 115), (some (113, true)), .nilCheck (.tmp 114)⟩, ⟨(some 116), (some (113, true)), .fieldAddr 44 (.tmp 115) 0⟩, ⟨(some 117), (some (113, true)), .fieldAddr 24 (.tmp 116) 7⟩, ⟨(some 118), (some (113, true)), .load 9 (.tmp 117)⟩, ⟨(some 119), (some (113, true)), .fieldAddr 44 (.tmp 3) 0⟩, ⟨(some 120), (some (113, true)), .fieldAddr 24 (.tmp 119) 7⟩, ⟨(some 121), (some (113, true)), .load 9 (.tmp 120)⟩, ⟨(some 122), (some (113, true)), .binOp .eql 9 (.tmp 118) (.tmp 121) 9⟩, ⟨(some 123), none, .pick (.tmp 113) (.tmp 122) (.const (.bool false))⟩, ⟨(some 4), none, .assign (.tmp 123)⟩]) (.ret))))
noncomputable def l_ops_step_same : List (Nat × Con) := []
noncomputable abbrev K_ops_step_same : Ctx := ctx (cl l_ops_step_same)
theorem geq_ops_step_same : gof K_ops_step_same Try.f23 = some G_ops_step_same.strip := by kernel_rfl
theorem sys_ops_step_same : Go.Eng.Sys Try.prog K_ops_step_same := sys_of' (l := []) trivial
theorem hm_ops_step_same : ConMono K_ops_step_same := conMono_of sys_ops_step_same.con
def A_ops_step_same := Arms.cons (argI TStep) (Arms.cons (argA TStep) Arms.nil)
def p_ops_step_same (x : TStep × TStep × Unit) : Prop := x.1.Keep.length ≤ 1099511627776
def r_ops_step_same (x : TStep × TStep × Unit) : AV := .t (.bool (decide (x.1 = x.2.1)))
set_option maxRecDepth 10000 in
set_option maxHeartbeats 4000000 in
theorem body_ops_step_same (x : TStep × TStep × Unit) (hp : p_ops_step_same x) : avp K_ops_step_same G_ops_step_same (Ret K_ops_step_same [.tmp 4] fun v _ => v = r_ops_step_same x) (entry (A_ops_step_same.enc x) .empty) := by
  obtain ⟨x, y, ⟨⟩⟩ := x
  change x.Keep.length ≤ _ at hp
  change avp _ _ (Ret _ _ fun v _ => v = .t (.bool (decide (x = y)))) (entry [.imm (stT x), .agg ((stT y).map .t)] .empty)
  unfold G_ops_step_same stT
  simp only [vP.down, vS.down, vE.down, Nat.reduceEqDiff, Nat.reduceAdd, Nat.reduceSub, Nat.reduceMul, Nat.reduceLeDiff, Nat.reduceLT, Int.reduceToNat, reduceIte, reduceCtorEq, Int.reduceEq, Int.reduceLT, Int.reduceLE, ↓avp_condG, ↓tf_arrow, ↓ft_arrow]
  intro g hg
  refine weak_at [(0, .imm (stT x)), (3, .imm (stT y)), (4, .t (.bool false))] .empty fewer_empty (by unfold stT; simp only [vP.down, vS.down, vE.down, Nat.reduceEqDiff, Nat.reduceAdd, Nat.reduceSub, Nat.reduceMul, Nat.reduceLeDiff, Nat.reduceLT, Int.reduceToNat, reduceIte, reduceCtorEq, Int.reduceEq, Int.reduceLT, Int.reduceLE, ↓avp_condG, ↓tf_arrow, ↓ft_arrow, wP.down]; exact w2_imm (ro := false) (Store.set_same _ _ _) rfl) ?_
  unfold stT
  by_cases hl : x.Keep.length = y.Keep.length
  case neg =>
    have hl' : ¬ (x.Keep.length : Int) = (y.Keep.length : Int) := by omega
    simp only [vP.down, vS.down, vE.down, Nat.reduceEqDiff, Nat.reduceAdd, Nat.reduceSub, Nat.reduceMul, Nat.reduceLeDiff, Nat.reduceLT, Int.reduceToNat, reduceIte, reduceCtorEq, Int.reduceEq, Int.reduceLT, Int.reduceLE, ↓avp_condG, ↓tf_arrow, ↓ft_arrow, hl', false_implies]
    simp only [vP.down, vS.down, vE.down, Nat.reduceEqDiff, Nat.reduceAdd, Nat.reduceSub, Nat.reduceMul, Nat.reduceLeDiff, Nat.reduceLT, Int.reduceToNat, reduceIte, reduceCtorEq, Int.reduceEq, Int.reduceLT, Int.reduceLE, ↓avp_condG, ↓tf_arrow, ↓ft_arrow, vT.down]
    have : x ≠ y := fun e => hl (by rw [e])
    simp only [this, decide_false]
  have hl' : (x.Keep.length : Int) = (y.Keep.length : Int) := by omega
  simp only [vP.down, vS.down, vE.down, Nat.reduceEqDiff, Nat.reduceAdd, Nat.reduceSub, Nat.reduceMul, Nat.reduceLeDiff, Nat.reduceLT, Int.reduceToNat, reduceIte, reduceCtorEq, Int.reduceEq, Int.reduceLT, Int.reduceLE, ↓avp_condG, ↓tf_arrow, ↓ft_arrow, hl', false_implies]
  refine loop_weak hm_ops_step_same (fun k σ => ∃ i : Nat, k = x.Keep.length - i ∧ i ≤ x.Keep.length ∧ x.Keep.take i = y.Keep.take i ∧ σ = mkS [(0, .imm (stT x)), (3, .imm (stT y)), (4, .t (.bool false)), (22, .t (sl x.Keep)), (23, .t (.int .i64 (x.Keep.length : Nat))), (24, .t (.int .i64 (i : Nat)))] .empty) ⟨0, rfl, by omega, rfl, rfl⟩ (wk_to fewer_refl (by unfold stT; simp only [vP.down, vS.down, vE.down, Nat.reduceEqDiff, Nat.reduceAdd, Nat.reduceSub, Nat.reduceMul, Nat.reduceLeDiff, Nat.reduceLT, Int.reduceToNat, reduceIte, reduceCtorEq, Int.reduceEq, Int.reduceLT, Int.reduceLE, ↓avp_condG, ↓tf_arrow, ↓ft_arrow, wP.down, Int.natCast_zero, hl'])) ?_
  rintro k _ ⟨i, rfl, hi, ht, rfl⟩
  unfold stT
  have hi1 : IntKind.i64.wrap ((i : Int) + 1) = ((i + 1 : Nat) : Int) := by rw [IntWalk.i64_in _ (by omega)]; rfl
  by_cases hlt : i < x.Keep.length
  case neg =>
    obtain rfl : i = x.Keep.length := by omega
    have hge : ¬ ((x.Keep.length : Int) < (x.Keep.length : Int)) := by omega
    have hkk : x.Keep = y.Keep := by
      have h2 := ht
      rw [List.take_length, hl, List.take_length] at h2
      exact h2
    simp only [vP.down, vS.down, vE.down, Nat.reduceEqDiff, Nat.reduceAdd, Nat.reduceSub, Nat.reduceMul, Nat.reduceLeDiff, Nat.reduceLT, Int.reduceToNat, reduceIte, reduceCtorEq, Int.reduceEq, Int.reduceLT, Int.reduceLE, ↓avp_condG, ↓tf_arrow, ↓ft_arrow, hge, false_implies]
    simp only [vP.down, vS.down, vE.down, Nat.reduceEqDiff, Nat.reduceAdd, Nat.reduceSub, Nat.reduceMul, Nat.reduceLeDiff, Nat.reduceLT, Int.reduceToNat, reduceIte, reduceCtorEq, Int.reduceEq, Int.reduceLT, Int.reduceLE, ↓avp_condG, ↓tf_arrow, ↓ft_arrow, vT.down]
    have hd : ∀ x y : TStep, x.Keep = y.Keep → decide (x = y) = (decide (x.Kind = y.Kind) && decide (x.ID = y.ID) && decide (x.N = y.N) && decide (x.M = y.M) && decide (x.By = y.By) && decide (x.Path = y.Path) && decide (x.To = y.To) && decide (x.Text = y.Text)) := by
      intro x y h
      obtain ⟨a1, a2, a3, a4, a5, a6, a7, a8, a9⟩ := x
      obtain ⟨b1, b2, b3, b4, b5, b6, b7, b8, b9⟩ := y
      obtain rfl : a9 = b9 := h
      rw [Bool.eq_iff_iff]
      simp [and_assoc]
    rw [hd x y hkk]
    trace_state
  have hlt' : (i : Int) < (x.Keep.length : Int) := by omega
  have hlt2 : (i : Int) < (y.Keep.length : Int) := by omega
  by_cases he : x.Keep.getD i default = y.Keep.getD i default
  case neg =>
    simp only [vP.down, vS.down, vE.down, Nat.reduceEqDiff, Nat.reduceAdd, Nat.reduceSub, Nat.reduceMul, Nat.reduceLeDiff, Nat.reduceLT, Int.reduceToNat, reduceIte, reduceCtorEq, Int.reduceEq, Int.reduceLT, Int.reduceLE, ↓avp_condG, ↓tf_arrow, ↓ft_arrow, hlt', hlt2, he, false_implies]
    ((repeat' with_reducible refine And.intro ?_ ?_) <;> try (first | omega | (simp only [List.length_take, List.length_drop, List.length_append, List.length_map, List.length_replicate] <;> omega)))
    simp only [vP.down, vS.down, vE.down, Nat.reduceEqDiff, Nat.reduceAdd, Nat.reduceSub, Nat.reduceMul, Nat.reduceLeDiff, Nat.reduceLT, Int.reduceToNat, reduceIte, reduceCtorEq, Int.reduceEq, Int.reduceLT, Int.reduceLE, ↓avp_condG, ↓tf_arrow, ↓ft_arrow, vT.down]
    have : x ≠ y := fun e => he (by rw [e])
    simp only [this, decide_false]
  simp only [vP.down, vS.down, vE.down, Nat.reduceEqDiff, Nat.reduceAdd, Nat.reduceSub, Nat.reduceMul, Nat.reduceLeDiff, Nat.reduceLT, Int.reduceToNat, reduceIte, reduceCtorEq, Int.reduceEq, Int.reduceLT, Int.reduceLE, ↓avp_condG, ↓tf_arrow, ↓ft_arrow, hlt', hlt2, he, false_implies]
  ((repeat' with_reducible refine And.intro ?_ ?_) <;> try (first | omega | (simp only [List.length_take, List.length_drop, List.length_append, List.length_map, List.length_replicate] <;> omega)))
  exact round_to (x.Keep.length - (i + 1)) [(0, .imm (stT x)), (3, .imm (stT y)), (4, .t (.bool false)), (22, .t (sl x.Keep)), (23, .t (.int .i64 (x.Keep.length : Nat))), (24, .t (.int .i64 (i + 1 : Nat)))] .empty (by omega) fewer_refl (by unfold stT; simp only [vP.down, vS.down, vE.down, Nat.reduceEqDiff, Nat.reduceAdd, Nat.reduceSub, Nat.reduceMul, Nat.reduceLeDiff, Nat.reduceLT, Int.reduceToNat, reduceIte, reduceCtorEq, Int.reduceEq, Int.reduceLT, Int.reduceLE, ↓avp_condG, ↓tf_arrow, ↓ft_arrow, wP.down, hi1]) ⟨i + 1, rfl, by omega, take_next hlt (by omega) ht he, rfl⟩
noncomputable def c_ops_step_same : Con := fnScal A_ops_step_same p_ops_step_same r_ops_step_same
theorem ok_ops_step_same : COk Try.prog 23 c_ops_step_same := fn_sok sys_ops_step_same mixed Try.func23 (by kernel_rfl) geq_ops_step_same Try.ntmps23 (by rw [Try.results23]) (fun x => by unfold r_ops_step_same; simp [AV.scal]) fun x hx => ⟨Nat.le_of_ble_eq_true rfl, body_ops_step_same x hx⟩
end Go.Proofs.Ythhgaeeeppipnaa


namespace Go.Proofs.Ythhgaeeeppipnaa
open Go Go.Eng
theorem takeF_nil {m : Bool} {s : TStep} {f : Int} {b : List UInt8} (h : (takeF m s f b).2.2 = false) (hm : m = false) : (takeF m s f b).2.1 = [] := by
  subst hm
  unfold takeF at h ⊢
  repeat' split
  all_goals first | rfl | (repeat' (split at h)) <;> simp_all
theorem fldL_7 {k : Int} {i : Nat} (hi : i < (fldL k).length) (h : (fldL k).getD i default = 7) : i + 1 = (fldL k).length := by
  have : ∀ l : List Int, fldP l → ∀ i, i < l.length → l.getD i default = 7 → i + 1 = l.length := by
    intro l hl i hi h
    rcases hl with rfl | rfl | rfl | rfl | rfl | rfl | rfl | rfl | rfl | rfl | rfl
    all_goals
      simp only [List.length_cons, List.length_nil, Nat.reduceAdd] at hi ⊢
      match i, hi, h with
      | 0, _, h => first | rfl | (revert h; decide)
      | 1, _, h => first | rfl | (revert h; decide) | omega
      | 2, _, h => first | rfl | (revert h; decide) | omega
      | 3, _, h => first | rfl | (revert h; decide) | omega
      | n + 4, _, h => omega
  exact this _ (fldL_is k) i hi h
theorem takeFs_drop {m : Bool} {fs : List Int} {i : Nat} (hi : i < fs.length) (s : TStep) (b : List UInt8) : takeFs m (fs.drop i) s b = if (takeF m s (fs.getD i default) b).2.2 = true then takeFs m (fs.drop (i + 1)) (takeF m s (fs.getD i default) b).1 (takeF m s (fs.getD i default) b).2.1 else ((takeF m s (fs.getD i default) b).1, (takeF m s (fs.getD i default) b).2.1, false) := by
  rw [List.drop_eq_getElem_cons hi, takeFs, List.getD_eq_getElem?_getD, List.getElem?_eq_getElem hi]; rfl
def G_ops_taken : GCode := .seq (.region [⟨(some 2), none, .alloc 44⟩, ⟨(some 3), none, .assign (.const (.string ⟨#[]⟩))⟩, ⟨(some 4), none, .assign (.const (.bool false))⟩]) (.seq (.region [⟨(some 9), none, .move (.tmp 0)⟩, ⟨(some 10), none, .call ⟨.value (.func 32), #[.const (.string ⟨#[49]⟩), .tmp 9], #[9, 9]⟩⟩, ⟨(some 8), none, .move (.tmp 10)⟩, ⟨(some 11), none, .extract (.tmp 8) 0⟩, ⟨(some 12), none, .extract (.tmp 8) 1⟩, ⟨(some 13), none, .extract (.tmp 8) 2⟩, ⟨(some 5), none, .assign (.tmp 11)⟩, ⟨(some 3), none, .assign (.tmp 12)⟩, ⟨(some 4), none, .assign (.tmp 13)⟩]) (.seq (.seq (.region [⟨(some 14), none, .move (.tmp 4)⟩, ⟨(some 15), none, .unOp .not 4 (.tmp 14)⟩]) (.cond (.tmp 15) (.seq (.region [⟨(some 16), none, .load 44 (.tmp 2)⟩, ⟨none, none, .store 44 (.tmp 2) (.tmp 16)⟩, ⟨(some 3), none, .assign (.const (.string ⟨#[]⟩))⟩, ⟨(some 4), none, .assign (.const (.bool false))⟩]) (.ret)) (.skip))) (.seq (.region [⟨(some 17), none, .move (.tmp 5)⟩, ⟨(some 18), none, .indexAddr 22 (.tmp 17) (.const (.int .i64 0))⟩, ⟨(some 19), none, .load 3 (.tmp 18)⟩, ⟨(some 20), none, .binOp .rem 3 (.tmp 19) (.const (.int .i64 23)) 3⟩, ⟨(some 21), none, .fieldAddr 44 (.tmp 2) 0⟩, ⟨(some 22), none, .fieldAddr 24 (.tmp 21) 0⟩, ⟨none, none, .store 3 (.tmp 22) (.tmp 20)⟩]) (.seq (.seq (.region [⟨(some 23), none, .fieldAddr 44 (.tmp 2) 0⟩, ⟨(some 24), none, .fieldAddr 24 (.tmp 23) 0⟩, ⟨(some 25), none, .load 3 (.tmp 24)⟩, ⟨(some 26), none, .call ⟨.value (.func 20), #[.tmp 25], #[3]⟩⟩, ⟨(some 27), none, .call ⟨.builtin .len, #[.tmp 26], #[46]⟩⟩, ⟨(some 28), none, .move (.const (.int .i64 0))⟩]) (.block 0 (.loop (.seq .weak (.seq (.region [⟨(some 29), none, .binOp .lss 3 (.tmp 28) (.tmp 27) 3⟩]) (.seq (.cond (.tmp 29) (.skip) (.exit 0)) (.seq (.block 1 (.seq (.region [⟨(some 30), none, .indexAddr 46 (.tmp 26) (.tmp 28)⟩, ⟨(some 31), none, .load 48 (.tmp 30)⟩, ⟨(some 7), none, .assign (.tmp 31)⟩]) (.seq (.region [⟨(some 33), none, .move (.tmp 7)⟩, ⟨(some 34), none, .move (.tmp 3)⟩, ⟨(some 35), none, .call ⟨.value (.func 33), #[.tmp 2, .tmp 33, .tmp 34], #[44, 48, 9]⟩⟩, ⟨(some 32), none, .move (.tmp 35)⟩, ⟨(some 36), none, .extract (.tmp 32) 0⟩, ⟨(some 37), none, .extract (.tmp 32) 1⟩, ⟨(some 3), none, .assign (.tmp 36)⟩, ⟨(some 4), none, .assign (.tmp 37)⟩]) (.seq (.region [⟨(some 38), none, .move (.tmp 4)⟩, ⟨(some 39), none, .unOp .not 4 (.tmp 38)⟩]) (.cond (.tmp 39) (.seq (.region [⟨(some 40), none, .load 44 (.tmp 2)⟩, ⟨none, none, .store 44 (.tmp 2) (.tmp 40)⟩, ⟨(some 3), none, .assign (.const (.string ⟨#[]⟩))⟩, ⟨(some 4), none, .assign (.const (.bool false))⟩]) (.ret)) (.skip)))))) (.region [⟨(some 41), none, .binOp .add 3 (.tmp 28) (.const (.int .i64 1)) 3⟩, ⟨(some 28), none, .move (.tmp 41)⟩])))))))) (.seq (.region [⟨(some 42), none, .load 44 (.tmp 2)⟩, ⟨(some 43), none, .move (.tmp 3)⟩, ⟨none, none, .store 44 (.tmp 2) (.tmp 42)⟩, ⟨(some 3), none, .assign (.tmp 43)⟩, ⟨(some 4), none, .assign (.const (.bool true))⟩]) (.ret))))))
noncomputable def l_ops_taken : List (Nat × Con) := [(32, c_pack_Take), (20, c_ops_fields), (33, c_ops_step_take)]
noncomputable abbrev K_ops_taken : Ctx := ctx (cl l_ops_taken)
theorem geq_ops_taken : gof K_ops_taken Try.f22 = some G_ops_taken.strip := by kernel_rfl
theorem sys_ops_taken : Go.Eng.Sys Try.prog K_ops_taken := sys_of' ⟨ok_pack_Take, ok_ops_fields, ok_ops_step_take, trivial⟩
theorem hm_ops_taken : ConMono K_ops_taken := conMono_of sys_ops_taken.con
noncomputable def k_ops_taken_pack_Take := PLift.up (call_fn (C := K_ops_taken) (f := 32) (A := A_pack_Take) (p := p_pack_Take) (r := r_pack_Take) rfl)
noncomputable def k_ops_taken_ops_fields := PLift.up (call_fn (C := K_ops_taken) (f := 20) (A := A_ops_fields) (p := p_ops_fields) (r := r_ops_fields) rfl)
noncomputable def k_ops_taken_ops_step_take := PLift.up (call_gen (C := K_ops_taken) (f := 33) (modes := m_ops_step_take) (F := F_ops_step_take) rfl)
def A_ops_taken := Arms.cons (argT (List UInt8)) Arms.nil
def p_ops_taken (x : List UInt8 × Unit) : Prop := x.1.length ≤ 1099511627776
def takenR (r : TStep × List UInt8 × Bool) : AV := .tup [.agg ((stT r.1).map .t), .t (.str r.2.1), .t (.bool r.2.2)]
def r_ops_taken (x : List UInt8 × Unit) : AV := takenR (takenS x.1)
theorem StepS.frz {S : Store} {g : Nat} {v : AV} {x : TStep} {c : List UInt8} {b : Bool} (h : StepS S g v x) : Frz (S.set g (some (stE x v))) (.tup [.agg (stC x v), .t (.str c), .t (.bool b)]) (takenR (x, c, b)) := by
  have := (h.2.1.set (x := some (stE x v)) h.2.2).frz
  unfold takenR stT stC
  simp only [vP.down, vS.down, vE.down, Nat.reduceEqDiff, Nat.reduceAdd, Nat.reduceSub, Nat.reduceMul, Nat.reduceLeDiff, Nat.reduceLT, Int.reduceToNat, reduceIte, reduceCtorEq, Int.reduceEq, Int.reduceLT, Int.reduceLE, ↓avp_condG, ↓tf_arrow, ↓ft_arrow, vT.down]
  exact this
theorem step0_frz {S : Store} : Frz S (.tup [.agg (stC step0 (.t .nilS)), .t (.str []), .t (.bool false)]) (takenR (step0, [], false)) := by
  unfold takenR stT stC step0
  simp only [vP.down, vS.down, vE.down, Nat.reduceEqDiff, Nat.reduceAdd, Nat.reduceSub, Nat.reduceMul, Nat.reduceLeDiff, Nat.reduceLT, Int.reduceToNat, reduceIte, reduceCtorEq, Int.reduceEq, Int.reduceLT, Int.reduceLE, ↓avp_condG, ↓tf_arrow, ↓ft_arrow, vT.down]
set_option maxRecDepth 10000 in
set_option maxHeartbeats 4000000 in
theorem body_ops_taken (x : List UInt8 × Unit) (hp : p_ops_taken x) : avp K_ops_taken G_ops_taken (Ret K_ops_taken [.cell 2 44, .tmp 3, .tmp 4] fun v s' => Frz s' v (r_ops_taken x)) (entry (A_ops_taken.enc x) .empty) := by
  obtain ⟨b, ⟨⟩⟩ := x
  change b.length ≤ _ at hp
  change avp _ _ (Ret _ _ fun v s' => Frz s' v (takenR (takenS b))) (entry [.t (.str b)] .empty)
  unfold G_ops_taken
  by_cases ho : takeOk [49] b = false
  · have e : takenS b = (step0, [], false) := if_pos ho
    rw [e]
    simp only [vP.down, vS.down, vE.down, Nat.reduceEqDiff, Nat.reduceAdd, Nat.reduceSub, Nat.reduceMul, Nat.reduceLeDiff, Nat.reduceLT, Int.reduceToNat, reduceIte, reduceCtorEq, Int.reduceEq, Int.reduceLT, Int.reduceLE, ↓avp_condG, ↓tf_arrow, ↓ft_arrow]
    intro g hg
    simp only [vP.down, vS.down, vE.down, Nat.reduceEqDiff, Nat.reduceAdd, Nat.reduceSub, Nat.reduceMul, Nat.reduceLeDiff, Nat.reduceLT, Int.reduceToNat, reduceIte, reduceCtorEq, Int.reduceEq, Int.reduceLT, Int.reduceLE, ↓avp_condG, ↓tf_arrow, ↓ft_arrow, k_ops_taken_pack_Take.down, A_pack_Take, p_pack_Take, r_pack_Take, ho, false_implies]
    refine ⟨hp, ?_⟩
    simp only [vP.down, vS.down, vE.down, Nat.reduceEqDiff, Nat.reduceAdd, Nat.reduceSub, Nat.reduceMul, Nat.reduceLeDiff, Nat.reduceLT, Int.reduceToNat, reduceIte, reduceCtorEq, Int.reduceEq, Int.reduceLT, Int.reduceLE, ↓avp_condG, ↓tf_arrow, ↓ft_arrow, vT.down]
    exact step0_frz
  have ho' : takeOk [49] b = true := by simpa using ho
  have hlb : 1 ≤ b.length := by rw [ok1] at ho'; simpa using ho'
  obtain ⟨n, hL⟩ : ∃ n, takeL [49] b = [n] := by
    have : (takeL [49] b).length = 1 := by rw [takeL, if_pos ho', takeN_len]; rfl
    match takeL [49] b, this with
    | [n], _ => exact ⟨n, rfl⟩
  have hr : (takeR [49] b).length ≤ b.length := by have h2 : takeR [49] b = b.drop 1 := (numF (f := 3) hlb).2; rw [h2, List.length_drop]; omega
  have hn0 : 0 ≤ n := by
    have := (numF (f := 3) hlb).1
    change (takeL [49] b).getD 0 default = num (b.take 1) at this
    rw [hL] at this
    change n = _ at this
    rw [this]; exact (num_bd _ _ rfl).1
  obtain ⟨r, hR⟩ : ∃ r, takeR [49] b = r := ⟨_, rfl⟩
  rw [hR] at hr
  obtain ⟨k, hk⟩ : ∃ k, k = n.tmod 23 := ⟨_, rfl⟩
  have e : takenS b = if (oneS false k r).2.2 = true then oneS false k r else ((oneS false k r).1, [], false) := by
    unfold takenS; rw [if_neg ho, hL, hR, hk]; rfl
  have hfl := fldL_len k
  simp only [vP.down, vS.down, vE.down, Nat.reduceEqDiff, Nat.reduceAdd, Nat.reduceSub, Nat.reduceMul, Nat.reduceLeDiff, Nat.reduceLT, Int.reduceToNat, reduceIte, reduceCtorEq, Int.reduceEq, Int.reduceLT, Int.reduceLE, ↓avp_condG, ↓tf_arrow, ↓ft_arrow]
  intro g hg
  simp only [vP.down, vS.down, vE.down, Nat.reduceEqDiff, Nat.reduceAdd, Nat.reduceSub, Nat.reduceMul, Nat.reduceLeDiff, Nat.reduceLT, Int.reduceToNat, reduceIte, reduceCtorEq, Int.reduceEq, Int.reduceLT, Int.reduceLE, ↓avp_condG, ↓tf_arrow, ↓ft_arrow, k_ops_taken_pack_Take.down, A_pack_Take, p_pack_Take, r_pack_Take, ho', hL, hR, ← hk, k_ops_taken_ops_fields.down, A_ops_fields, p_ops_fields, r_ops_fields, false_implies]
  ((repeat' with_reducible refine And.intro ?_ ?_) <;> try (first | omega | (simp only [List.length_take, List.length_drop, List.length_append, List.length_map, List.length_replicate] <;> omega)))
  refine loop_weak hm_ops_taken (fun m σ => ∃ (i : Nat) (v : AV) (S : Store) (x : TStep) (c : List UInt8), m = (fldL k).length - i ∧ i ≤ (fldL k).length ∧ StepS S g v x ∧ (i < (fldL k).length → v = .t .nilS ∧ x.Keep = []) ∧ c.length ≤ 1099511627776 ∧ oneS false k r = takeFs false ((fldL k).drop i) x c ∧
    σ = mkS [(2, .ptr g 0), (3, .t (.str c)), (26, .t (sl (fldL k))), (27, .t (.int .i64 ((fldL k).length : Nat))), (28, .t (.int .i64 (i : Nat)))] S)
    ⟨0, .t .nilS, (Store.empty.set g (some (stE { step0 with Kind := k } (.t .nilS)))), { step0 with Kind := k }, r, rfl, by omega, ⟨Store.set_same _ _ _, lv_nil, not_t⟩, fun _ => ⟨rfl, rfl⟩, by omega, rfl, rfl⟩ (wk_to fewer_refl (by simp only [vP.down, vS.down, vE.down, Nat.reduceEqDiff, Nat.reduceAdd, Nat.reduceSub, Nat.reduceMul, Nat.reduceLeDiff, Nat.reduceLT, Int.reduceToNat, reduceIte, reduceCtorEq, Int.reduceEq, Int.reduceLT, Int.reduceLE, ↓avp_condG, ↓tf_arrow, ↓ft_arrow, wP.down, Int.natCast_zero, step0])) ?_
  rintro m _ ⟨i, v, S, x, c, rfl, hi, D, hv, hc, ho2, rfl⟩
  by_cases hlt : i < (fldL k).length
  case neg =>
    obtain rfl : i = (fldL k).length := by omega
    have hge : ¬ (((fldL k).length : Int) < ((fldL k).length : Int)) := by omega
    rw [List.drop_length] at ho2
    have e2 : takenS b = (x, c, true) := by rw [e, ho2]; rfl
    rw [e2]
    simp only [vP.down, vS.down, vE.down, Nat.reduceEqDiff, Nat.reduceAdd, Nat.reduceSub, Nat.reduceMul, Nat.reduceLeDiff, Nat.reduceLT, Int.reduceToNat, reduceIte, reduceCtorEq, Int.reduceEq, Int.reduceLT, Int.reduceLE, ↓avp_condG, ↓tf_arrow, ↓ft_arrow, hge, D.1, D.2.1.one, D.2.1.cells, false_implies]
    simp only [vP.down, vS.down, vE.down, Nat.reduceEqDiff, Nat.reduceAdd, Nat.reduceSub, Nat.reduceMul, Nat.reduceLeDiff, Nat.reduceLT, Int.reduceToNat, reduceIte, reduceCtorEq, Int.reduceEq, Int.reduceLT, Int.reduceLE, ↓avp_condG, ↓tf_arrow, ↓ft_arrow, vT.down]
    exact D.frz
  have hlt' : (i : Int) < ((fldL k).length : Int) := by omega
  have hi1 : IntKind.i64.wrap ((i : Int) + 1) = ((i + 1 : Nat) : Int) := by rw [IntWalk.i64_in _ (by omega)]; rfl
  obtain ⟨hv1, hv2⟩ := hv hlt
  subst hv1
  rw [takeFs_drop hlt] at ho2
  obtain ⟨f, hf⟩ : ∃ f, f = (fldL k).getD i default := ⟨_, rfl⟩
  have h7 : f = 7 → i + 1 = (fldL k).length := fun h => fldL_7 hlt (hf ▸ h)
  have hmem : f ∈ fldL k := by rw [hf, List.getD_eq_getElem?_getD, List.getElem?_eq_getElem hlt]; exact List.getElem_mem _
  have hbd := fldL_mem hmem
  rw [← hf] at ho2
  simp only [vP.down, vS.down, vE.down, Nat.reduceEqDiff, Nat.reduceAdd, Nat.reduceSub, Nat.reduceMul, Nat.reduceLeDiff, Nat.reduceLT, Int.reduceToNat, reduceIte, reduceCtorEq, Int.reduceEq, Int.reduceLT, Int.reduceLE, ↓avp_condG, ↓tf_arrow, ↓ft_arrow, hlt', ← hf, k_ops_taken_ops_step_take.down, m_ops_step_take, false_implies]
  ((repeat' with_reducible refine And.intro ?_ ?_) <;> try (first | omega | (simp only [List.length_take, List.length_drop, List.length_append, List.length_map, List.length_replicate] <;> omega)))
  refine ⟨g, x, f, c, rfl, D.1, hv2, hbd.1, hbd.2, hc, fun S' v' D' hnil kp => ?_⟩
  by_cases hok : (takeF false x f c).2.2 = true
  · rw [if_pos hok] at ho2
    have hle := (takeF_ok (trip hok)).1
    simp only [vP.down, vS.down, vE.down, Nat.reduceEqDiff, Nat.reduceAdd, Nat.reduceSub, Nat.reduceMul, Nat.reduceLeDiff, Nat.reduceLT, Int.reduceToNat, reduceIte, reduceCtorEq, Int.reduceEq, Int.reduceLT, Int.reduceLE, ↓avp_condG, ↓tf_arrow, ↓ft_arrow, hok, false_implies]
    exact round_to ((fldL k).length - (i + 1)) [(2, .ptr g 0), (3, .t (.str (takeF false x f c).2.1)), (26, .t (sl (fldL k))), (27, .t (.int .i64 ((fldL k).length : Nat))), (28, .t (.int .i64 (i + 1 : Nat)))] S' (by omega) fewer_refl (by simp only [vP.down, vS.down, vE.down, Nat.reduceEqDiff, Nat.reduceAdd, Nat.reduceSub, Nat.reduceMul, Nat.reduceLeDiff, Nat.reduceLT, Int.reduceToNat, reduceIte, reduceCtorEq, Int.reduceEq, Int.reduceLT, Int.reduceLE, ↓avp_condG, ↓tf_arrow, ↓ft_arrow, wP.down, hi1])
      ⟨i + 1, v', S', _, _, rfl, hlt, D', fun h => ⟨hnil (fun e => by have := h7 e; omega), (takeF_keep7 (fun e => by have := h7 e; omega)).trans hv2⟩, by omega, ho2, rfl⟩
  · rw [if_neg hok] at ho2
    have hok' : (takeF false x f c).2.2 = false := by simpa using hok
    have e2 : takenS b = ((takeF false x f c).1, [], false) := by rw [e, ho2]; rfl
    rw [e2]
    simp only [vP.down, vS.down, vE.down, Nat.reduceEqDiff, Nat.reduceAdd, Nat.reduceSub, Nat.reduceMul, Nat.reduceLeDiff, Nat.reduceLT, Int.reduceToNat, reduceIte, reduceCtorEq, Int.reduceEq, Int.reduceLT, Int.reduceLE, ↓avp_condG, ↓tf_arrow, ↓ft_arrow, hok', D'.1, D'.2.1.one, D'.2.1.cells, false_implies]
    simp only [vP.down, vS.down, vE.down, Nat.reduceEqDiff, Nat.reduceAdd, Nat.reduceSub, Nat.reduceMul, Nat.reduceLeDiff, Nat.reduceLT, Int.reduceToNat, reduceIte, reduceCtorEq, Int.reduceEq, Int.reduceLT, Int.reduceLE, ↓avp_condG, ↓tf_arrow, ↓ft_arrow, vT.down]
    exact D'.frz
noncomputable def c_ops_taken : Con := fnCon A_ops_taken p_ops_taken r_ops_taken
theorem ok_ops_taken : COk Try.prog 22 c_ops_taken := fn_ok sys_ops_taken mixed Try.func22 (by kernel_rfl) geq_ops_taken Try.ntmps22 (by rw [Try.results22]) fun x hx => ⟨Nat.le_of_ble_eq_true rfl, body_ops_taken x hx⟩
end Go.Proofs.Ythhgaeeeppipnaa


namespace Go.Proofs.Ythhgaeeeppipnaa
open Go Go.Eng
theorem putFld_len {x : TStep} (h : smallS x) {f : Int} : (putFld x f).length ≤ 1073741826 := by
  unfold putFld
  have hw : wd f ≤ 2 := by unfold wd; split <;> omega
  split
  · rw [putF_f, be_len]; omega
  · rename_i h3
    have hw1 := wd_one (f := f) (by omega)
    split
    · rename_i h7
      subst h7
      rw [List.length_append, putF_f, be_len, keepB_len]; have := h.2.2.2; omega
    · rw [List.length_append, putF_f, be_len]; have := getX_small h f; omega
theorem putOne_len (x : TStep) : (putOne x).length ≤ 2000 := by
  rw [putOne_good]
  split
  · rename_i hg
    obtain ⟨a, b, c, d⟩ := good_of hg
    have hF : ∀ f, (putFld x f).length ≤ 257 := fun f => by
      unfold putFld
      have hw : wd f ≤ 2 := by unfold wd; split <;> omega
      split
      · rw [putF_f, be_len]; omega
      · rename_i h3
        have hw1 := wd_one (f := f) (by omega)
        split
        · rename_i h7
          subst h7
          rw [List.length_append, putF_f, be_len, keepB_len]; have := c.2.2.2; omega
        · rw [List.length_append, putF_f, be_len]; have := getX_len c f; omega
    have hB : ∀ fs : List Int, ((fs.map (putFld x)).flatten).length ≤ 257 * fs.length := by
      intro fs
      induction fs with
      | nil => simp
      | cons f r ih => rw [List.map_cons, List.flatten_cons, List.length_append, List.length_cons]; have := hF f; omega
    have := hB (fldL x.Kind)
    have h4 := fldL_len x.Kind
    rw [putB, List.length_append, putF1, be_len]; omega
  · simp
theorem putL_len : ∀ l : List TStep, (putL l).length ≤ 2000 * l.length
  | [] => by simp [putL]
  | x :: l => by rw [putL_cons, List.length_append, List.length_cons]; have := putOne_len x; have := putL_len l; omega
theorem take_map_flat {α : Type} [Inhabited α] (f : α → List UInt8) {l : List α} {i : Nat} (h : i < l.length) : ((l.take (i + 1)).map f).flatten = ((l.take i).map f).flatten ++ f (l.getD i default) := by
  rw [take_map_next f default h, List.flatten_append, List.flatten_cons, List.flatten_nil, List.append_nil]
def G_ops_Put : GCode := .seq (.region [⟨(some 2), none, .assign (.const (.string ⟨#[]⟩))⟩]) (.seq (.region [⟨(some 3), none, .assign (.const (.string ⟨#[]⟩))⟩]) (.seq (.seq (.region [⟨(some 13), none, .move (.tmp 0)⟩, ⟨(some 14), none, .call ⟨.builtin .len, #[.tmp 13], #[27]⟩⟩, ⟨(some 15), none, .move (.const (.int .i64 0))⟩]) (.block 0 (.loop (.seq .weak (.seq (.region [⟨(some 16), none, .binOp .lss 3 (.tmp 15) (.tmp 14) 3⟩]) (.seq (.cond (.tmp 16) (.skip) (.exit 0)) (.seq (.block 1 (.seq (.region [⟨(some 17), none, .indexAddr 27 (.tmp 13) (.tmp 15)⟩, ⟨(some 18), none, .load 24 (.tmp 17)⟩, ⟨(some 5), none, .alloc 24⟩, ⟨none, none, .store 24 (.tmp 5) (.tmp 18)⟩]) (.seq (.region [⟨(some 19), none, .load 24 (.tmp 5)⟩, ⟨(some 20), none, .build 44 #[(0, .tmp 19)]⟩, ⟨(some 6), none, .alloc 44⟩, ⟨none, none, .store 44 (.tmp 6) (.tmp 20)⟩]) (.seq (.seq .weak (.region [⟨(some 21), none, .fieldAddr 24 (.tmp 5) 0⟩, ⟨(some 22), none, .load 3 (.tmp 21)⟩, ⟨(some 23), none, .buildSlice 22 1 #[(0, .tmp 22)]⟩, ⟨(some 24), none, .call ⟨.value (.func 19), #[.const (.string ⟨#[49]⟩), .tmp 23], #[9, 22]⟩⟩, ⟨(some 7), none, .assign (.tmp 24)⟩])) (.seq (.seq (.region [⟨(some 25), none, .fieldAddr 24 (.tmp 5) 0⟩, ⟨(some 26), none, .load 3 (.tmp 25)⟩, ⟨(some 27), none, .call ⟨.value (.func 20), #[.tmp 26], #[3]⟩⟩, ⟨(some 28), none, .call ⟨.builtin .len, #[.tmp 27], #[46]⟩⟩, ⟨(some 29), none, .move (.const (.int .i64 0))⟩]) (.block 2 (.loop (.seq .weak (.seq (.region [⟨(some 30), none, .binOp .lss 3 (.tmp 29) (.tmp 28) 3⟩]) (.seq (.cond (.tmp 30) (.skip) (.exit 2)) (.seq (.block 3 (.seq (.region [⟨(some 31), none, .indexAddr 46 (.tmp 27) (.tmp 29)⟩, ⟨(some 32), none, .load 48 (.tmp 31)⟩, ⟨(some 9), none, .assign (.tmp 32)⟩]) (.region [⟨(some 33), none, .move (.tmp 7)⟩, ⟨(some 34), none, .move (.tmp 9)⟩, ⟨(some 35), none, .call ⟨.value (.func 21), #[.tmp 6, .tmp 34], #[44, 48]⟩⟩, ⟨(some 36), none, .binOp .add 9 (.tmp 33) (.tmp 35) 9⟩, ⟨(some 7), none, .assign (.tmp 36)⟩]))) (.region [⟨(some 37), none, .binOp .add 3 (.tmp 29) (.const (.int .i64 1)) 3⟩, ⟨(some 29), none, .move (.tmp 37)⟩])))))))) (.seq (.region [⟨(some 39), none, .move (.tmp 7)⟩, ⟨(some 40), none, .call ⟨.value (.func 22), #[.tmp 39], #[9]⟩⟩, ⟨(some 38), none, .move (.tmp 40)⟩, ⟨(some 41), none, .extract (.tmp 38) 0⟩, ⟨(some 42), none, .extract (.tmp 38) 1⟩, ⟨(some 43), none, .extract (.tmp 38) 2⟩, ⟨(some 10), none, .alloc 44⟩, ⟨none, none, .store 44 (.tmp 10) (.tmp 41)⟩, ⟨(some 11), none, .assign (.tmp 42)⟩, ⟨(some 12), none, .assign (.tmp 43)⟩]) (.seq (.region [⟨(some 44), none, .move (.tmp 12)⟩, ⟨(some 45), none, .move (.tmp 44)⟩, ⟨(some 46), (some (45, true)), .fieldAddr 24 (.tmp 5) 0⟩, ⟨(some 47), (some (45, true)), .load 3 (.tmp 46)⟩, ⟨(some 48), (some (45, true)), .binOp .neq 3 (.tmp 47) (.const (.int .i64 0)) 3⟩, ⟨(some 49), none, .pick (.tmp 45) (.tmp 48) (.const (.bool false))⟩, ⟨(some 50), none, .move (.tmp 49)⟩, ⟨(some 51), (some (50, true)), .move (.tmp 11)⟩, ⟨(some 52), (some (50, true)), .binOp .eql 9 (.tmp 51) (.const (.string ⟨#[]⟩)) 9⟩, ⟨(some 53), none, .pick (.tmp 50) (.tmp 52) (.const (.bool false))⟩, ⟨(some 54), none, .move (.tmp 53)⟩, ⟨(some 55), (some (54, true)), .load 44 (.tmp 10)⟩, ⟨(some 56), (some (54, true)), .call ⟨.value (.func 23), #[.tmp 6, .tmp 55], #[44, 44]⟩⟩, ⟨(some 57), none, .pick (.tmp 54) (.tmp 56) (.const (.bool false))⟩]) (.cond (.tmp 57) (.region [⟨(some 58), none, .move (.tmp 3)⟩, ⟨(some 59), none, .move (.tmp 7)⟩, ⟨(some 60), none, .binOp .add 9 (.tmp 58) (.tmp 59) 9⟩, ⟨(some 3), none, .assign (.tmp 60)⟩]) (.skip))))))))) (.region [⟨(some 61), none, .binOp .add 3 (.tmp 15) (.const (.int .i64 1)) 3⟩, ⟨(some 15), none, .move (.tmp 61)⟩])))))))) (.seq (.region [⟨(some 62), none, .move (.tmp 3)⟩, ⟨(some 2), none, .assign (.tmp 62)⟩]) (.ret))))
noncomputable def l_ops_Put : List (Nat × Con) := [(19, c_pack_Put), (20, c_ops_fields), (21, c_ops_step_put), (22, c_ops_taken), (23, c_ops_step_same)]
noncomputable abbrev K_ops_Put : Ctx := ctx (cl l_ops_Put)
theorem geq_ops_Put : gof K_ops_Put Try.f10 = some G_ops_Put.strip := by kernel_rfl
theorem sys_ops_Put : Go.Eng.Sys Try.prog K_ops_Put := sys_of' ⟨ok_pack_Put, ok_ops_fields, ok_ops_step_put, ok_ops_taken, ok_ops_step_same, trivial⟩
theorem hm_ops_Put : ConMono K_ops_Put := conMono_of sys_ops_Put.con
noncomputable def k_ops_Put_pack_Put := PLift.up (call_scal (C := K_ops_Put) (f := 19) (A := A_pack_Put) (p := p_pack_Put) (r := r_pack_Put) rfl)
noncomputable def k_ops_Put_ops_fields := PLift.up (call_fn (C := K_ops_Put) (f := 20) (A := A_ops_fields) (p := p_ops_fields) (r := r_ops_fields) rfl)
noncomputable def k_ops_Put_ops_step_put := PLift.up (call_scal (C := K_ops_Put) (f := 21) (A := A_ops_step_put) (p := p_ops_step_put) (r := r_ops_step_put) rfl)
noncomputable def k_ops_Put_ops_taken := PLift.up (call_fn (C := K_ops_Put) (f := 22) (A := A_ops_taken) (p := p_ops_taken) (r := r_ops_taken) rfl)
noncomputable def k_ops_Put_ops_step_same := PLift.up (call_scal (C := K_ops_Put) (f := 23) (A := A_ops_step_same) (p := p_ops_step_same) (r := r_ops_step_same) rfl)
def A_ops_Put := Arms.cons (argT (List TStep)) Arms.nil
def p_ops_Put (x : List TStep × Unit) : Prop := x.1.length ≤ 1048576 ∧ ∀ y ∈ x.1, smallS y
def r_ops_Put (x : List TStep × Unit) : AV := .t (.str (putL x.1))
set_option maxRecDepth 10000 in
set_option maxHeartbeats 4000000 in
theorem body_ops_Put (x : List TStep × Unit) (hp : p_ops_Put x) : avp K_ops_Put G_ops_Put (Ret K_ops_Put [.tmp 2] fun v _ => v = r_ops_Put x) (entry (A_ops_Put.enc x) .empty) := by
  obtain ⟨l, ⟨⟩⟩ := x
  obtain ⟨hl, hs⟩ := hp
  dsimp only at hl hs
  change avp _ _ (Ret _ _ fun v _ => v = .t (.str (putL l))) (entry [.t (sl l)] .empty)
  unfold G_ops_Put
  simp only [vP.down, vS.down, vE.down, Nat.reduceEqDiff, Nat.reduceAdd, Nat.reduceSub, Nat.reduceMul, Nat.reduceLeDiff, Nat.reduceLT, Int.reduceToNat, reduceIte, reduceCtorEq, Int.reduceEq, Int.reduceLT, Int.reduceLE, ↓avp_condG, ↓tf_arrow, ↓ft_arrow]
  refine loop_weak hm_ops_Put (fun m σ => ∃ i : Nat, m = l.length - i ∧ i ≤ l.length ∧ σ = mkS [(3, .t (.str (putL (l.take i)))), (13, .t (sl l)), (14, .t (.int .i64 (l.length : Nat))), (15, .t (.int .i64 (i : Nat)))] .empty)
    ⟨0, rfl, by omega, rfl⟩ (wk_to fewer_refl (by simp only [vP.down, vS.down, vE.down, Nat.reduceEqDiff, Nat.reduceAdd, Nat.reduceSub, Nat.reduceMul, Nat.reduceLeDiff, Nat.reduceLT, Int.reduceToNat, reduceIte, reduceCtorEq, Int.reduceEq, Int.reduceLT, Int.reduceLE, ↓avp_condG, ↓tf_arrow, ↓ft_arrow, wP.down, List.take_zero, Int.natCast_zero, show putL [] = [] from rfl])) ?_
  rintro m _ ⟨i, rfl, hi, rfl⟩
  have hi1 : IntKind.i64.wrap ((i : Int) + 1) = ((i + 1 : Nat) : Int) := by rw [IntWalk.i64_in _ (by omega)]; rfl
  by_cases hlt : i < l.length
  case neg =>
    obtain rfl : i = l.length := by omega
    have hge : ¬ ((l.length : Int) < (l.length : Int)) := by omega
    simp only [vP.down, vS.down, vE.down, Nat.reduceEqDiff, Nat.reduceAdd, Nat.reduceSub, Nat.reduceMul, Nat.reduceLeDiff, Nat.reduceLT, Int.reduceToNat, reduceIte, reduceCtorEq, Int.reduceEq, Int.reduceLT, Int.reduceLE, ↓avp_condG, ↓tf_arrow, ↓ft_arrow, hge, false_implies, List.take_length]
    simp only [vP.down, vS.down, vE.down, Nat.reduceEqDiff, Nat.reduceAdd, Nat.reduceSub, Nat.reduceMul, Nat.reduceLeDiff, Nat.reduceLT, Int.reduceToNat, reduceIte, reduceCtorEq, Int.reduceEq, Int.reduceLT, Int.reduceLE, ↓avp_condG, ↓tf_arrow, ↓ft_arrow, vT.down]
  have hlt' : (i : Int) < (l.length : Int) := by omega
  obtain ⟨x, hx⟩ : ∃ x, x = l.getD i default := ⟨_, rfl⟩
  have hsx : smallS x := hs x (by rw [hx, List.getD_eq_getElem?_getD, List.getElem?_eq_getElem hlt]; exact List.getElem_mem _)
  have hfl := fldL_len x.Kind
  have hK := fun c (h : c ∈ fldL x.Kind) => fldL_mem h
  have hpl := putL_len (l.take i)
  rw [List.length_take] at hpl
  have hnx : putL (l.take (i + 1)) = putL (l.take i) ++ putOne x := by
    rw [hx]; exact take_map_flat putOne hlt
  have h49 : (1 : Nat) ≤ 1099511627776 := by omega
  simp only [vP.down, vS.down, vE.down, Nat.reduceEqDiff, Nat.reduceAdd, Nat.reduceSub, Nat.reduceMul, Nat.reduceLeDiff, Nat.reduceLT, Int.reduceToNat, reduceIte, reduceCtorEq, Int.reduceEq, Int.reduceLT, Int.reduceLE, ↓avp_condG, ↓tf_arrow, ↓ft_arrow, hlt', ← hx, false_implies]
  ((repeat' with_reducible refine And.intro ?_ ?_) <;> try (first | omega | (simp only [List.length_take, List.length_drop, List.length_append, List.length_map, List.length_replicate] <;> omega)))
  intro g5 hg5 g6 hg6
  have n65 := Store.ne_new hg6
  refine weak_at [(3, .t (.str (putL (l.take i)))), (5, .imm (stT x)), (6, .imm (stT x)), (13, .t (sl l)), (14, .t (.int .i64 (l.length : Nat))), (15, .t (.int .i64 (i : Nat)))] .empty fewer_empty (by
    unfold stT
    simp only [vP.down, vS.down, vE.down, Nat.reduceEqDiff, Nat.reduceAdd, Nat.reduceSub, Nat.reduceMul, Nat.reduceLeDiff, Nat.reduceLT, Int.reduceToNat, reduceIte, reduceCtorEq, Int.reduceEq, Int.reduceLT, Int.reduceLE, ↓avp_condG, ↓tf_arrow, ↓ft_arrow, wP.down]
    exact ⟨w2_imm (l := stT x) (ro := false) ((Store.set_other _ _ n65.symm).trans (Store.set_same _ _ _)) rfl, w2_imm (l := stT x) (ro := false) (Store.set_same _ _ _) rfl⟩) ?_
  unfold stT
  simp only [vP.down, vS.down, vE.down, Nat.reduceEqDiff, Nat.reduceAdd, Nat.reduceSub, Nat.reduceMul, Nat.reduceLeDiff, Nat.reduceLT, Int.reduceToNat, reduceIte, reduceCtorEq, Int.reduceEq, Int.reduceLT, Int.reduceLE, ↓avp_condG, ↓tf_arrow, ↓ft_arrow, k_ops_Put_pack_Put.down, A_pack_Put, p_pack_Put, r_pack_Put, k_ops_Put_ops_fields.down, A_ops_fields, p_ops_fields, r_ops_fields, h49]
  intro g7 hg7
  have hlB : ∀ fs : List Int, ((fs.map (putFld x)).flatten).length ≤ 1073741826 * fs.length := by
    intro fs
    induction fs with
    | nil => simp
    | cons f r ih => rw [List.map_cons, List.flatten_cons, List.length_append, List.length_cons]; have := putFld_len hsx (f := f); omega
  refine loop_weak hm_ops_Put (fun m σ => ∃ j : Nat, m = (fldL x.Kind).length - j ∧ j ≤ (fldL x.Kind).length ∧
    σ = mkS [(3, .t (.str (putL (l.take i)))), (5, .imm (stT x)), (6, .imm (stT x)), (7, .t (.str (putF [49] [x.Kind] ++ (((fldL x.Kind).take j).map (putFld x)).flatten))), (13, .t (sl l)), (14, .t (.int .i64 (l.length : Nat))), (15, .t (.int .i64 (i : Nat))), (27, .t (sl (fldL x.Kind))), (28, .t (.int .i64 ((fldL x.Kind).length : Nat))), (29, .t (.int .i64 (j : Nat)))] .empty)
    ⟨0, rfl, by omega, rfl⟩ (wk_to fewer_empty (by unfold stT; simp only [vP.down, vS.down, vE.down, Nat.reduceEqDiff, Nat.reduceAdd, Nat.reduceSub, Nat.reduceMul, Nat.reduceLeDiff, Nat.reduceLT, Int.reduceToNat, reduceIte, reduceCtorEq, Int.reduceEq, Int.reduceLT, Int.reduceLE, ↓avp_condG, ↓tf_arrow, ↓ft_arrow, wP.down, List.take_zero, List.flatten_nil, Int.natCast_zero])) ?_
  rintro m _ ⟨j, rfl, hj, rfl⟩
  unfold stT
  have hj1 : IntKind.i64.wrap ((j : Int) + 1) = ((j + 1 : Nat) : Int) := by rw [IntWalk.i64_in _ (by omega)]; rfl
  by_cases hltj : j < (fldL x.Kind).length
  · have hltj' : (j : Int) < ((fldL x.Kind).length : Int) := by omega
    obtain ⟨f, hf⟩ : ∃ f, f = (fldL x.Kind).getD j default := ⟨_, rfl⟩
    have hfb := hK f (by rw [hf, List.getD_eq_getElem?_getD, List.getElem?_eq_getElem hltj]; exact List.getElem_mem _)
    have hp1 := hlB ((fldL x.Kind).take j)
    rw [List.length_take] at hp1
    have hp2 := putFld_len hsx (f := f)
    simp only [vP.down, vS.down, vE.down, Nat.reduceEqDiff, Nat.reduceAdd, Nat.reduceSub, Nat.reduceMul, Nat.reduceLeDiff, Nat.reduceLT, Int.reduceToNat, reduceIte, reduceCtorEq, Int.reduceEq, Int.reduceLT, Int.reduceLE, ↓avp_condG, ↓tf_arrow, ↓ft_arrow, hltj', ← hf, k_ops_Put_ops_step_put.down, A_ops_step_put, p_ops_step_put, r_ops_step_put, argI_step, hsx, hfb.1, hfb.2, false_implies]
    ((repeat' with_reducible refine And.intro ?_ ?_) <;> try (first | omega | (simp only [List.length_take, List.length_drop, List.length_append, List.length_map, List.length_replicate] <;> omega)))
    · simp only [List.length_append, putF1, be_len]; omega
    exact round_to ((fldL x.Kind).length - (j + 1)) [(3, .t (.str (putL (l.take i)))), (5, .imm (stT x)), (6, .imm (stT x)), (7, .t (.str (putF [49] [x.Kind] ++ (((fldL x.Kind).take (j + 1)).map (putFld x)).flatten))), (13, .t (sl l)), (14, .t (.int .i64 (l.length : Nat))), (15, .t (.int .i64 (i : Nat))), (27, .t (sl (fldL x.Kind))), (28, .t (.int .i64 ((fldL x.Kind).length : Nat))), (29, .t (.int .i64 (j + 1 : Nat)))] .empty (by omega) fewer_refl
      (by unfold stT; simp only [vP.down, vS.down, vE.down, Nat.reduceEqDiff, Nat.reduceAdd, Nat.reduceSub, Nat.reduceMul, Nat.reduceLeDiff, Nat.reduceLT, Int.reduceToNat, reduceIte, reduceCtorEq, Int.reduceEq, Int.reduceLT, Int.reduceLE, ↓avp_condG, ↓tf_arrow, ↓ft_arrow, wP.down, hj1, take_map_flat (putFld x) hltj, ← hf, List.append_assoc]) ⟨j + 1, rfl, hltj, rfl⟩
  obtain rfl : j = (fldL x.Kind).length := by omega
  have hge : ¬ (((fldL x.Kind).length : Int) < ((fldL x.Kind).length : Int)) := by omega
  have hbl : (putB x).length ≤ 1099511627776 := by
    have := hlB (fldL x.Kind)
    rw [putB, List.length_append, putF1, be_len]; omega
  have hB : putF [49] [x.Kind] ++ ((fldL x.Kind).map (putFld x)).flatten = putB x := rfl
  have hkl : x.Keep.length ≤ 1099511627776 := by have := hsx.2.2.2; omega
  have hol := putOne_len x
  simp only [vP.down, vS.down, vE.down, Nat.reduceEqDiff, Nat.reduceAdd, Nat.reduceSub, Nat.reduceMul, Nat.reduceLeDiff, Nat.reduceLT, Int.reduceToNat, reduceIte, reduceCtorEq, Int.reduceEq, Int.reduceLT, Int.reduceLE, ↓avp_condG, ↓tf_arrow, ↓ft_arrow, hge, List.take_length, hB, k_ops_Put_ops_taken.down, A_ops_taken, p_ops_taken, r_ops_taken, takenR, stT, hbl, false_implies]
  intro g10 hg10
  have fin : ∀ out, out = putL (l.take (i + 1)) → True := fun _ _ => trivial
  by_cases hall : (takenS (putB x)).2.2 = true ∧ x.Kind ≠ 0 ∧ (takenS (putB x)).2.1 = [] ∧ x = (takenS (putB x)).1
  · have ho : putOne x = putB x := if_pos hall
    obtain ⟨a1, a2, a3, a4⟩ := hall
    simp only [vP.down, vS.down, vE.down, Nat.reduceEqDiff, Nat.reduceAdd, Nat.reduceSub, Nat.reduceMul, Nat.reduceLeDiff, Nat.reduceLT, Int.reduceToNat, reduceIte, reduceCtorEq, Int.reduceEq, Int.reduceLT, Int.reduceLE, ↓avp_condG, ↓tf_arrow, ↓ft_arrow, a1, a2, a3, k_ops_Put_ops_step_same.down, A_ops_step_same, p_ops_step_same, r_ops_step_same, argI_step, hkl]
    refine ⟨fun _ => ⟨by omega, ?_⟩, fun h => absurd a4 h⟩
    exact round_to (l.length - (i + 1)) [(3, .t (.str (putL (l.take (i + 1))))), (13, .t (sl l)), (14, .t (.int .i64 (l.length : Nat))), (15, .t (.int .i64 (i + 1 : Nat)))] .empty (by omega) fewer_empty (by simp only [vP.down, vS.down, vE.down, Nat.reduceEqDiff, Nat.reduceAdd, Nat.reduceSub, Nat.reduceMul, Nat.reduceLeDiff, Nat.reduceLT, Int.reduceToNat, reduceIte, reduceCtorEq, Int.reduceEq, Int.reduceLT, Int.reduceLE, ↓avp_condG, ↓tf_arrow, ↓ft_arrow, wP.down, hi1, hnx, ho]) ⟨i + 1, rfl, hlt, rfl⟩
  · have ho : putOne x = [] := if_neg hall
    simp only [vP.down, vS.down, vE.down, Nat.reduceEqDiff, Nat.reduceAdd, Nat.reduceSub, Nat.reduceMul, Nat.reduceLeDiff, Nat.reduceLT, Int.reduceToNat, reduceIte, reduceCtorEq, Int.reduceEq, Int.reduceLT, Int.reduceLE, ↓avp_condG, ↓tf_arrow, ↓ft_arrow, k_ops_Put_ops_step_same.down, A_ops_step_same, p_ops_step_same, r_ops_step_same, argI_step, hkl]
    refine ⟨fun h => absurd ⟨h.1.1.1, h.1.1.2, h.1.2, h.2⟩ hall, fun h => ?_⟩
    exact round_to (l.length - (i + 1)) [(3, .t (.str (putL (l.take (i + 1))))), (13, .t (sl l)), (14, .t (.int .i64 (l.length : Nat))), (15, .t (.int .i64 (i + 1 : Nat)))] .empty (by omega) fewer_empty (by simp only [vP.down, vS.down, vE.down, Nat.reduceEqDiff, Nat.reduceAdd, Nat.reduceSub, Nat.reduceMul, Nat.reduceLeDiff, Nat.reduceLT, Int.reduceToNat, reduceIte, reduceCtorEq, Int.reduceEq, Int.reduceLT, Int.reduceLE, ↓avp_condG, ↓tf_arrow, ↓ft_arrow, wP.down, hi1, hnx, ho]) ⟨i + 1, rfl, hlt, rfl⟩
noncomputable def c_ops_Put : Con := fnScal A_ops_Put p_ops_Put r_ops_Put
theorem ok_ops_Put : COk Try.prog 10 c_ops_Put := fn_sok sys_ops_Put mixed Try.func10 (by kernel_rfl) geq_ops_Put Try.ntmps10 (by rw [Try.results10]) (fun x => by unfold r_ops_Put; simp [AV.scal]) fun x hx => ⟨Nat.le_of_ble_eq_true rfl, body_ops_Put x hx⟩

def G_ops_Take : GCode := .seq (.region [⟨(some 2), none, .assign (.const (.slice none 0 0))⟩]) (.seq (.region [⟨(some 3), none, .assign (.const (.slice none 0 0))⟩]) (.seq (.block 0 (.loop (.seq .weak (.seq (.seq (.region [⟨(some 7), none, .move (.tmp 0)⟩, ⟨(some 8), none, .binOp .neq 9 (.tmp 7) (.const (.string ⟨#[]⟩)) 9⟩]) (.cond (.tmp 8) (.skip) (.exit 0))) (.block 1 (.seq (.region [⟨(some 10), none, .move (.tmp 0)⟩, ⟨(some 11), none, .call ⟨.value (.func 22), #[.tmp 10], #[9]⟩⟩, ⟨(some 9), none, .move (.tmp 11)⟩, ⟨(some 12), none, .extract (.tmp 9) 0⟩, ⟨(some 13), none, .extract (.tmp 9) 1⟩, ⟨(some 14), none, .extract (.tmp 9) 2⟩, ⟨(some 4), none, .alloc 44⟩, ⟨none, none, .store 44 (.tmp 4) (.tmp 12)⟩, ⟨(some 5), none, .assign (.tmp 13)⟩, ⟨(some 6), none, .assign (.tmp 14)⟩]) (.seq (.seq (.seq .weak (.region [⟨(some 15), none, .move (.tmp 6)⟩, ⟨(some 16), none, .unOp .not 4 (.tmp 15)⟩])) (.cond (.tmp 16) (.exit 0) (.skip))) (.seq (.region [⟨(some 17), none, .move (.tmp 5)⟩, ⟨(some 0), none, .assign (.tmp 17)⟩]) (.seq (.region [⟨(some 18), none, .fieldAddr 44 (.tmp 4) 0⟩, ⟨(some 19), none, .fieldAddr 24 (.tmp 18) 0⟩, ⟨(some 20), none, .load 3 (.tmp 19)⟩, ⟨(some 21), none, .binOp .gtr 3 (.tmp 20) (.const (.int .i64 0)) 3⟩]) (.cond (.tmp 21) (.region [⟨(some 22), none, .move (.tmp 3)⟩, ⟨(some 23), none, .fieldAddr 44 (.tmp 4) 0⟩, ⟨(some 24), none, .load 24 (.tmp 23)⟩, ⟨(some 25), none, .buildSlice 27 1 #[(0, .tmp 24)]⟩, ⟨(some 26), none, .call ⟨.builtin .append, #[.tmp 22, .tmp 25], #[27, 27]⟩⟩, ⟨(some 3), none, .assign (.tmp 26)⟩]) (.skip))))))))))) (.seq (.region [⟨(some 27), none, .move (.tmp 3)⟩, ⟨(some 2), none, .assign (.tmp 27)⟩]) (.ret))))
noncomputable def l_ops_Take : List (Nat × Con) := [(22, c_ops_taken)]
noncomputable abbrev K_ops_Take : Ctx := ctx (cl l_ops_Take)
theorem geq_ops_Take : gof K_ops_Take Try.f13 = some G_ops_Take.strip := by kernel_rfl
theorem sys_ops_Take : Go.Eng.Sys Try.prog K_ops_Take := sys_of' ⟨ok_ops_taken, trivial⟩
theorem hm_ops_Take : ConMono K_ops_Take := conMono_of sys_ops_Take.con
noncomputable def k_ops_Take_ops_taken := PLift.up (call_fn (C := K_ops_Take) (f := 22) (A := A_ops_taken) (p := p_ops_taken) (r := r_ops_taken) rfl)
def A_ops_Take := Arms.cons (argT (List UInt8)) Arms.nil
def p_ops_Take (x : List UInt8 × Unit) : Prop := x.1.length ≤ 1099511627776
def r_ops_Take (x : List UInt8 × Unit) : AV := .t (sl (takeS x.1))
set_option maxRecDepth 10000 in
set_option maxHeartbeats 4000000 in
theorem body_ops_Take (x : List UInt8 × Unit) (hp : p_ops_Take x) : avp K_ops_Take G_ops_Take (Ret K_ops_Take [.tmp 2] fun v s' => Frz s' v (r_ops_Take x)) (entry (A_ops_Take.enc x) .empty) := by
  obtain ⟨b, ⟨⟩⟩ := x
  change b.length ≤ _ at hp
  change avp _ _ (Ret _ _ fun v s' => Frz s' v (.t (sl (takeS b)))) (entry [.t (.str b)] .empty)
  unfold G_ops_Take
  simp only [vP.down, vS.down, vE.down, Nat.reduceEqDiff, Nat.reduceAdd, Nat.reduceSub, Nat.reduceMul, Nat.reduceLeDiff, Nat.reduceLT, Int.reduceToNat, reduceIte, reduceCtorEq, Int.reduceEq, Int.reduceLT, Int.reduceLE, ↓avp_condG, ↓tf_arrow, ↓ft_arrow]
  refine loop_weak hm_ops_Take (fun m σ => ∃ (c : List UInt8) (v : AV) (S : Store) (l : List TStep), m = c.length ∧ c.length ≤ b.length ∧ LV S v l ∧ l.length + c.length ≤ b.length ∧ takeS b = l ++ takeS c ∧
    σ = mkS [(0, .t (.str c)), (3, v)] S)
    ⟨b, .t .nilS, .empty, [], rfl, Nat.le_refl _, lv_nil, by simp, rfl, rfl⟩ (wk_to fewer_refl (by simp only [vP.down, vS.down, vE.down, Nat.reduceEqDiff, Nat.reduceAdd, Nat.reduceSub, Nat.reduceMul, Nat.reduceLeDiff, Nat.reduceLT, Int.reduceToNat, reduceIte, reduceCtorEq, Int.reduceEq, Int.reduceLT, Int.reduceLE, ↓avp_condG, ↓tf_arrow, ↓ft_arrow, wP.down])) ?_
  rintro m _ ⟨c, v, S, l, rfl, hc, hv, hlc, hb, rfl⟩
  by_cases hne : c = []
  · subst hne
    rw [takeS_nil, List.append_nil] at hb
    rw [hb]
    simp only [vP.down, vS.down, vE.down, Nat.reduceEqDiff, Nat.reduceAdd, Nat.reduceSub, Nat.reduceMul, Nat.reduceLeDiff, Nat.reduceLT, Int.reduceToNat, reduceIte, reduceCtorEq, Int.reduceEq, Int.reduceLT, Int.reduceLE, ↓avp_condG, ↓tf_arrow, ↓ft_arrow, false_implies]
    simp only [vP.down, vS.down, vE.down, Nat.reduceEqDiff, Nat.reduceAdd, Nat.reduceSub, Nat.reduceMul, Nat.reduceLeDiff, Nat.reduceLT, Int.reduceToNat, reduceIte, reduceCtorEq, Int.reduceEq, Int.reduceLT, Int.reduceLE, ↓avp_condG, ↓tf_arrow, ↓ft_arrow, vT.down]
    exact hv.frz
  have hcl : c.length ≤ 1099511627776 := by omega
  simp only [vP.down, vS.down, vE.down, Nat.reduceEqDiff, Nat.reduceAdd, Nat.reduceSub, Nat.reduceMul, Nat.reduceLeDiff, Nat.reduceLT, Int.reduceToNat, reduceIte, reduceCtorEq, Int.reduceEq, Int.reduceLT, Int.reduceLE, ↓avp_condG, ↓tf_arrow, ↓ft_arrow, hne, false_implies, k_ops_Take_ops_taken.down, A_ops_taken, p_ops_taken, r_ops_taken, takenR, stT, hcl]
  intro g4 hg4
  have hst := takeS_step hne
  obtain ⟨⟨s, r, ok⟩, hk⟩ : ∃ q, q = takenS c := ⟨_, rfl⟩
  rw [← hk] at hst ⊢
  dsimp only at hst ⊢
  refine weak_at [(3, v), (4, .imm (stT s)), (5, .t (.str r)), (6, .t (.bool ok))] S (fewer_fresh hg4) (by
    unfold stT
    simp only [vP.down, vS.down, vE.down, Nat.reduceEqDiff, Nat.reduceAdd, Nat.reduceSub, Nat.reduceMul, Nat.reduceLeDiff, Nat.reduceLT, Int.reduceToNat, reduceIte, reduceCtorEq, Int.reduceEq, Int.reduceLT, Int.reduceLE, ↓avp_condG, ↓tf_arrow, ↓ft_arrow, wP.down]
    exact w2_imm (l := stT s) (ro := false) (Store.set_same _ _ _) hg4) ?_
  unfold stT
  by_cases hok : ok = true
  case neg =>
    have hok' : ok = false := by simpa using hok
    subst hok'
    rw [if_neg (by simp)] at hst
    rw [hst, List.append_nil] at hb
    rw [hb]
    simp only [vP.down, vS.down, vE.down, Nat.reduceEqDiff, Nat.reduceAdd, Nat.reduceSub, Nat.reduceMul, Nat.reduceLeDiff, Nat.reduceLT, Int.reduceToNat, reduceIte, reduceCtorEq, Int.reduceEq, Int.reduceLT, Int.reduceLE, ↓avp_condG, ↓tf_arrow, ↓ft_arrow, false_implies]
    simp only [vP.down, vS.down, vE.down, Nat.reduceEqDiff, Nat.reduceAdd, Nat.reduceSub, Nat.reduceMul, Nat.reduceLeDiff, Nat.reduceLT, Int.reduceToNat, reduceIte, reduceCtorEq, Int.reduceEq, Int.reduceLT, Int.reduceLE, ↓avp_condG, ↓tf_arrow, ↓ft_arrow, vT.down]
    exact hv.frz
  subst hok
  have hlt := (takenS_ok hk.symm).1
  rw [if_pos rfl] at hst
  by_cases h0 : 0 < s.Kind
  case neg =>
    rw [if_neg h0] at hst
    simp only [vP.down, vS.down, vE.down, Nat.reduceEqDiff, Nat.reduceAdd, Nat.reduceSub, Nat.reduceMul, Nat.reduceLeDiff, Nat.reduceLT, Int.reduceToNat, reduceIte, reduceCtorEq, Int.reduceEq, Int.reduceLT, Int.reduceLE, ↓avp_condG, ↓tf_arrow, ↓ft_arrow, h0, false_implies]
    exact round_to r.length [(0, .t (.str r)), (3, v)] S (by omega) fewer_refl (by simp only [vP.down, vS.down, vE.down, Nat.reduceEqDiff, Nat.reduceAdd, Nat.reduceSub, Nat.reduceMul, Nat.reduceLeDiff, Nat.reduceLT, Int.reduceToNat, reduceIte, reduceCtorEq, Int.reduceEq, Int.reduceLT, Int.reduceLE, ↓avp_condG, ↓tf_arrow, ↓ft_arrow, wP.down]) ⟨r, v, S, l, rfl, by omega, hv, by omega, by rw [hb, hst], rfl⟩
  rw [if_pos h0] at hst
  simp only [vP.down, vS.down, vE.down, Nat.reduceEqDiff, Nat.reduceAdd, Nat.reduceSub, Nat.reduceMul, Nat.reduceLeDiff, Nat.reduceLT, Int.reduceToNat, reduceIte, reduceCtorEq, Int.reduceEq, Int.reduceLT, Int.reduceLE, ↓avp_condG, ↓tf_arrow, ↓ft_arrow, h0, false_implies]
  intro g9 hg9
  refine append_new ty_Lapi_Step ty_api_Step rfl (by decide) hv hg9 (shows_one (x := s) rfl rfl rfl) (by simp; omega) (by simp; omega) fun v' S' hv' kp => ?_
  exact round_to r.length [(0, .t (.str r)), (3, v')] S' (by omega) fewer_refl (by simp only [vP.down, vS.down, vE.down, Nat.reduceEqDiff, Nat.reduceAdd, Nat.reduceSub, Nat.reduceMul, Nat.reduceLeDiff, Nat.reduceLT, Int.reduceToNat, reduceIte, reduceCtorEq, Int.reduceEq, Int.reduceLT, Int.reduceLE, ↓avp_condG, ↓tf_arrow, ↓ft_arrow, wP.down]) ⟨r, v', S', l ++ [s], rfl, by omega, hv', by rw [List.length_append, List.length_singleton]; omega, by rw [hb, hst, List.append_assoc]; rfl, rfl⟩
noncomputable def c_ops_Take : Con := fnCon A_ops_Take p_ops_Take r_ops_Take
theorem ok_ops_Take : COk Try.prog 13 c_ops_Take := fn_ok sys_ops_Take mixed Try.func13 (by kernel_rfl) geq_ops_Take Try.ntmps13 (by rw [Try.results13]) fun x hx => ⟨Nat.le_of_ble_eq_true rfl, body_ops_Take x hx⟩
end Go.Proofs.Ythhgaeeeppipnaa


namespace Go.Proofs.Ythhgaeeeppipnaa
open Go Go.Eng
def chr (f : Int) : UInt8 := if f = 0 then 105 else if f = 1 then 110 else if f = 2 then 109 else if f = 3 then 98 else if f = 4 then 112 else if f = 5 then 116 else if f = 6 then 120 else 107
def fldS : List (List UInt8) := [[], [105, 110, 112], [105, 112], [105, 112, 116], [105, 110, 112, 120], [105, 110, 112], [105, 110, 109, 112], [105, 112], [105, 112], [110], [105], [105], [105], [105, 110], [105], [110], [], [], [110], [110], [110], [107], [110, 109, 98]]
theorem fldS_is : ∀ n, n < 23 → fldS.getD n default = (fldL (n : Nat)).map chr := by decide
theorem fldL_out {k : Int} (h : k < 0 ∨ 23 ≤ k) : fldL k = [] := fldL_no (by
  simp only [fldT, List.all_cons, List.all_nil, Bool.and_true, Bool.and_eq_true, decide_eq_true_eq]
  omega)
def G_ref25_fields : GCode := .seq (.region [⟨(some 2), none, .assign (.const (.string ⟨#[]⟩))⟩]) (.seq (.region [⟨(some 4), none, .buildSlice 31 23 #[(0, .const (.string ⟨#[]⟩)), (1, .const (.string ⟨#[105, 110, 112]⟩)), (2, .const (.string ⟨#[105, 112]⟩)), (3, .const (.string ⟨#[105, 112, 116]⟩)), (4, .const (.string ⟨#[105, 110, 112, 120]⟩)), (5, .const (.string ⟨#[105, 110, 112]⟩)), (6, .const (.string ⟨#[105, 110, 109, 112]⟩)), (7, .const (.string ⟨#[105, 112]⟩)), (8, .const (.string ⟨#[105, 112]⟩)), (9, .const (.string ⟨#[110]⟩)), (10, .const (.string ⟨#[105]⟩)), (11, .const (.string ⟨#[105]⟩)), (12, .const (.string ⟨#[105]⟩)), (13, .const (.string ⟨#[105, 110]⟩)), (14, .const (.string ⟨#[105]⟩)), (15, .const (.string ⟨#[110]⟩)), (16, .const (.string ⟨#[]⟩)), (17, .const (.string ⟨#[]⟩)), (18, .const (.string ⟨#[110]⟩)), (19, .const (.string ⟨#[110]⟩)), (20, .const (.string ⟨#[110]⟩)), (21, .const (.string ⟨#[107]⟩)), (22, .const (.string ⟨#[110, 109, 98]⟩))]⟩, ⟨(some 3), none, .assign (.tmp 4)⟩]) (.seq (.seq (.seq .weak (.region [⟨(some 5), none, .move (.tmp 0)⟩, ⟨(some 6), none, .binOp .lss 3 (.tmp 5) (.const (.int .i64 0)) 3⟩, ⟨(some 7), none, .move (.tmp 6)⟩, ⟨(some 8), (some (7, false)), .move (.tmp 0)⟩, ⟨(some 9), (some (7, false)), .move (.tmp 3)⟩, ⟨(some 10), (some (7, false)), .call ⟨.builtin .len, #[.tmp 9], #[31]⟩⟩, ⟨(some 11), (some (7, false)), .binOp .geq 3 (.tmp 8) (.tmp 10) 3⟩, ⟨(some 12), none, .pick (.tmp 7) (.const (.bool true)) (.tmp 11)⟩])) (.cond (.tmp 12) (.seq (.region [⟨(some 2), none, .assign (.const (.string ⟨#[]⟩))⟩]) (.ret)) (.skip))) (.seq (.region [⟨(some 13), none, .move (.tmp 3)⟩, ⟨(some 14), none, .move (.tmp 0)⟩, ⟨(some 15), none, .indexAddr 31 (.tmp 13) (.tmp 14)⟩, ⟨(some 16), none, .load 9 (.tmp 15)⟩, ⟨(some 2), none, .assign (.tmp 16)⟩]) (.ret))))
noncomputable def l_ref25_fields : List (Nat × Con) := []
noncomputable abbrev K_ref25_fields : Ctx := ctx (cl l_ref25_fields)
theorem geq_ref25_fields : gof K_ref25_fields Try.f35 = some G_ref25_fields.strip := by kernel_rfl
theorem sys_ref25_fields : Go.Eng.Sys Try.prog K_ref25_fields := sys_of' (l := []) trivial
theorem hm_ref25_fields : ConMono K_ref25_fields := conMono_of sys_ref25_fields.con
def A_ref25_fields := Arms.cons (argT Int) Arms.nil
def p_ref25_fields (x : Int × Unit) : Prop := True
def r_ref25_fields (x : Int × Unit) : AV := .t (.str ((fldL x.1).map chr))
set_option maxRecDepth 10000 in
theorem body_ref25_fields (x : Int × Unit) (hp : p_ref25_fields x) : avp K_ref25_fields G_ref25_fields (Ret K_ref25_fields [.tmp 2] fun v _ => v = r_ref25_fields x) (entry (A_ref25_fields.enc x) .empty) := by
  obtain ⟨k, ⟨⟩⟩ := x
  change avp _ _ (Ret _ _ fun v _ => v = .t (.str ((fldL k).map chr))) (entry [.t (.int .i64 k)] .empty)
  unfold G_ref25_fields
  simp only [vP.down, vS.down, vE.down, Nat.reduceEqDiff, Nat.reduceAdd, Nat.reduceSub, Nat.reduceMul, Nat.reduceLeDiff, Nat.reduceLT, Int.reduceToNat, reduceIte, reduceCtorEq, Int.reduceEq, Int.reduceLT, Int.reduceLE, ↓avp_condG, ↓tf_arrow, ↓ft_arrow]
  intro g hg
  refine weak_at [(0, .t (.int .i64 k)), (3, .t (sl fldS))] .empty fewer_empty (by
    simp only [vP.down, vS.down, vE.down, Nat.reduceEqDiff, Nat.reduceAdd, Nat.reduceSub, Nat.reduceMul, Nat.reduceLeDiff, Nat.reduceLT, Int.reduceToNat, reduceIte, reduceCtorEq, Int.reduceEq, Int.reduceLT, Int.reduceLE, ↓avp_condG, ↓tf_arrow, ↓ft_arrow, wP.down]
    exact (lv_at (α := List UInt8) (l := fldS) (ro := false) rfl (Store.set_same _ _ _)).w2 fun _ _ => rfl) ?_
  have hl : fldS.length = 23 := rfl
  by_cases h1 : k < 0
  · rw [fldL_out (.inl h1)]
    simp only [vP.down, vS.down, vE.down, Nat.reduceEqDiff, Nat.reduceAdd, Nat.reduceSub, Nat.reduceMul, Nat.reduceLeDiff, Nat.reduceLT, Int.reduceToNat, reduceIte, reduceCtorEq, Int.reduceEq, Int.reduceLT, Int.reduceLE, ↓avp_condG, ↓tf_arrow, ↓ft_arrow, h1, pick_ot, false_implies]
    simp only [vP.down, vS.down, vE.down, Nat.reduceEqDiff, Nat.reduceAdd, Nat.reduceSub, Nat.reduceMul, Nat.reduceLeDiff, Nat.reduceLT, Int.reduceToNat, reduceIte, reduceCtorEq, Int.reduceEq, Int.reduceLT, Int.reduceLE, ↓avp_condG, ↓tf_arrow, ↓ft_arrow, vT.down]
  by_cases h2 : 23 ≤ k
  · rw [fldL_out (.inr h2)]
    have h3 : ¬ k < 23 := by omega
    simp only [vP.down, vS.down, vE.down, Nat.reduceEqDiff, Nat.reduceAdd, Nat.reduceSub, Nat.reduceMul, Nat.reduceLeDiff, Nat.reduceLT, Int.reduceToNat, reduceIte, reduceCtorEq, Int.reduceEq, Int.reduceLT, Int.reduceLE, ↓avp_condG, ↓tf_arrow, ↓ft_arrow, h1, hl, h2, h3, ge_iff_le, false_implies]
    simp only [vP.down, vS.down, vE.down, Nat.reduceEqDiff, Nat.reduceAdd, Nat.reduceSub, Nat.reduceMul, Nat.reduceLeDiff, Nat.reduceLT, Int.reduceToNat, reduceIte, reduceCtorEq, Int.reduceEq, Int.reduceLT, Int.reduceLE, ↓avp_condG, ↓tf_arrow, ↓ft_arrow, vT.down]
  have h3 : k < 23 := by omega
  have hf := fldS_is k.toNat (by omega)
  rw [Int.toNat_of_nonneg (by omega)] at hf
  simp only [vP.down, vS.down, vE.down, Nat.reduceEqDiff, Nat.reduceAdd, Nat.reduceSub, Nat.reduceMul, Nat.reduceLeDiff, Nat.reduceLT, Int.reduceToNat, reduceIte, reduceCtorEq, Int.reduceEq, Int.reduceLT, Int.reduceLE, ↓avp_condG, ↓tf_arrow, ↓ft_arrow, h1, hl, h2, h3, ge_iff_le, hf, false_implies]
  refine ⟨by omega, ?_⟩
  simp only [vP.down, vS.down, vE.down, Nat.reduceEqDiff, Nat.reduceAdd, Nat.reduceSub, Nat.reduceMul, Nat.reduceLeDiff, Nat.reduceLT, Int.reduceToNat, reduceIte, reduceCtorEq, Int.reduceEq, Int.reduceLT, Int.reduceLE, ↓avp_condG, ↓tf_arrow, ↓ft_arrow, vT.down]
noncomputable def c_ref25_fields : Con := fnScal A_ref25_fields p_ref25_fields r_ref25_fields
theorem ok_ref25_fields : COk Try.prog 35 c_ref25_fields := fn_sok sys_ref25_fields mixed Try.func35 (by kernel_rfl) geq_ref25_fields Try.ntmps35 (by rw [Try.results35]) (fun x => by unfold r_ref25_fields; simp [AV.scal]) fun x hx => ⟨Nat.le_of_ble_eq_true rfl, body_ref25_fields x hx⟩

def G_ref25_say : GCode := .seq (.region [⟨(some 2), none, .assign (.const (.string ⟨#[]⟩))⟩]) (.seq (.region [⟨(some 3), none, .move (.tmp 0)⟩, ⟨(some 4), none, .call ⟨.builtin .len, #[.tmp 3], #[9]⟩⟩, ⟨(some 5), none, .buildSlice 22 1 #[(0, .tmp 4)]⟩, ⟨(some 6), none, .call ⟨.value (.func 34), #[.const (.string ⟨#[49]⟩), .tmp 5], #[9, 22]⟩⟩, ⟨(some 7), none, .move (.tmp 0)⟩, ⟨(some 8), none, .binOp .add 9 (.tmp 6) (.tmp 7) 9⟩, ⟨(some 2), none, .assign (.tmp 8)⟩]) (.ret))
noncomputable def l_ref25_say : List (Nat × Con) := [(34, c_ref1_Put)]
noncomputable abbrev K_ref25_say : Ctx := ctx (cl l_ref25_say)
theorem geq_ref25_say : gof K_ref25_say Try.f36 = some G_ref25_say.strip := by kernel_rfl
theorem sys_ref25_say : Go.Eng.Sys Try.prog K_ref25_say := sys_of' ⟨ok_ref1_Put, trivial⟩
theorem hm_ref25_say : ConMono K_ref25_say := conMono_of sys_ref25_say.con
noncomputable def k_ref25_say_ref1_Put := PLift.up (call_scal (C := K_ref25_say) (f := 34) (A := A_ref1_Put) (p := p_ref1_Put) (r := r_ref1_Put) rfl)
def A_ref25_say := Arms.cons (argT (List UInt8)) Arms.nil
def p_ref25_say (x : List UInt8 × Unit) : Prop := x.1.length ≤ 1099511627776
def r_ref25_say (x : List UInt8 × Unit) : AV := .t (.str (putF [49] [(x.1.length : Int)] ++ x.1))
theorem body_ref25_say (x : List UInt8 × Unit) (hp : p_ref25_say x) : avp K_ref25_say G_ref25_say (Ret K_ref25_say [.tmp 2] fun v _ => v = r_ref25_say x) (entry (A_ref25_say.enc x) .empty) := by
  obtain ⟨b, ⟨⟩⟩ := x
  change b.length ≤ _ at hp
  change avp _ _ (Ret _ _ fun v _ => v = .t (.str (putF [49] [(b.length : Int)] ++ b))) (entry [.t (.str b)] .empty)
  unfold G_ref25_say
  simp only [vP.down, vS.down, vE.down, Nat.reduceEqDiff, Nat.reduceAdd, Nat.reduceSub, Nat.reduceMul, Nat.reduceLeDiff, Nat.reduceLT, Int.reduceToNat, reduceIte, reduceCtorEq, Int.reduceEq, Int.reduceLT, Int.reduceLE, ↓avp_condG, ↓tf_arrow, ↓ft_arrow, k_ref25_say_ref1_Put.down, A_ref1_Put, p_ref1_Put, r_ref1_Put]
  intro g hg
  refine ⟨by rw [putF1, be_len]; omega, ?_⟩
  simp only [vP.down, vS.down, vE.down, Nat.reduceEqDiff, Nat.reduceAdd, Nat.reduceSub, Nat.reduceMul, Nat.reduceLeDiff, Nat.reduceLT, Int.reduceToNat, reduceIte, reduceCtorEq, Int.reduceEq, Int.reduceLT, Int.reduceLE, ↓avp_condG, ↓tf_arrow, ↓ft_arrow, vT.down]
noncomputable def c_ref25_say : Con := fnScal A_ref25_say p_ref25_say r_ref25_say
theorem ok_ref25_say : COk Try.prog 36 c_ref25_say := fn_sok sys_ref25_say mixed Try.func36 (by kernel_rfl) geq_ref25_say Try.ntmps36 (by rw [Try.results36]) (fun x => by unfold r_ref25_say; simp [AV.scal]) fun x hx => ⟨Nat.le_of_ble_eq_true rfl, body_ref25_say x hx⟩

def textS (b : List UInt8) : List UInt8 × List UInt8 × Bool :=
  if takeOk [49] b = false ∨ ((takeR [49] b).length : Int) < (takeL [49] b).getD 0 default then ([], [], false) else ((takeR [49] b).take ((takeL [49] b).getD 0 default).toNat, (takeR [49] b).drop ((takeL [49] b).getD 0 default).toNat, true)
theorem one_num {b : List UInt8} (h : takeOk [49] b = true) : ∃ n : Int, takeL [49] b = [n] ∧ 0 ≤ n ∧ n < 256 ∧ (takeR [49] b).length ≤ b.length := by
  have hlb : 1 ≤ b.length := by rw [ok1] at h; simpa using h
  obtain ⟨n, hL⟩ : ∃ n, takeL [49] b = [n] := by
    have : (takeL [49] b).length = 1 := by rw [takeL, if_pos h, takeN_len]; rfl
    match takeL [49] b, this with
    | [n], _ => exact ⟨n, rfl⟩
  have h2 : takeR [49] b = b.drop 1 := (numF (f := 3) hlb).2
  have h3 : (takeL [49] b).getD 0 default = num (b.take 1) := (numF (f := 3) hlb).1
  rw [hL] at h3
  change n = _ at h3
  have h4 := num_bd 1 (b.take 1) (by rw [List.length_take]; omega)
  exact ⟨n, hL, by omega, by omega, by rw [h2, List.length_drop]; omega⟩
def G_ref25_text : GCode := .seq (.region [⟨(some 2), none, .assign (.const (.string ⟨#[]⟩))⟩, ⟨(some 3), none, .assign (.const (.string ⟨#[]⟩))⟩, ⟨(some 4), none, .assign (.const (.bool false))⟩]) (.seq (.region [⟨(some 9), none, .move (.tmp 0)⟩, ⟨(some 10), none, .call ⟨.value (.func 37), #[.const (.string ⟨#[49]⟩), .tmp 9], #[9, 9]⟩⟩, ⟨(some 8), none, .move (.tmp 10)⟩, ⟨(some 11), none, .extract (.tmp 8) 0⟩, ⟨(some 12), none, .extract (.tmp 8) 1⟩, ⟨(some 13), none, .extract (.tmp 8) 2⟩, ⟨(some 5), none, .assign (.tmp 11)⟩, ⟨(some 6), none, .assign (.tmp 12)⟩, ⟨(some 7), none, .assign (.tmp 13)⟩]) (.seq (.seq (.region [⟨(some 14), none, .move (.tmp 7)⟩, ⟨(some 15), none, .unOp .not 4 (.tmp 14)⟩, ⟨(some 16), none, .move (.tmp 15)⟩, ⟨(some 17), (some (16, false)), .move (.tmp 5)⟩, ⟨(some 18), (some (16, false)), .indexAddr 22 (.tmp 17) (.const (.int .i64 0))⟩, ⟨(some 19), (some (16, false)), .load 3 (.tmp 18)⟩, ⟨(some 20), (some (16, false)), .move (.tmp 6)⟩, ⟨(some 21), (some (16, false)), .call ⟨.builtin .len, #[.tmp 20], #[9]⟩⟩, ⟨(some 22), (some (16, false)), .binOp .gtr 3 (.tmp 19) (.tmp 21) 3⟩, ⟨(some 23), none, .pick (.tmp 16) (.const (.bool true)) (.tmp 22)⟩]) (.cond (.tmp 23) (.seq (.region [⟨(some 2), none, .assign (.const (.string ⟨#[]⟩))⟩, ⟨(some 3), none, .assign (.const (.string ⟨#[]⟩))⟩, ⟨(some 4), none, .assign (.const (.bool false))⟩]) (.ret)) (.skip))) (.seq (.region [⟨(some 24), none, .move (.tmp 6)⟩, ⟨(some 25), none, .move (.tmp 5)⟩, ⟨(some 26), none, .indexAddr 22 (.tmp 25) (.const (.int .i64 0))⟩, ⟨(some 27), none, .load 3 (.tmp 26)⟩, ⟨(some 28), none, .slice 9 (.tmp 24) none (some (.tmp 27)) none⟩, ⟨(some 29), none, .move (.tmp 6)⟩, ⟨(some 30), none, .move (.tmp 5)⟩, ⟨(some 31), none, .indexAddr 22 (.tmp 30) (.const (.int .i64 0))⟩, ⟨(some 32), none, .load 3 (.tmp 31)⟩, ⟨(some 33), none, .slice 9 (.tmp 29) (some (.tmp 32)) none none⟩, ⟨(some 2), none, .assign (.tmp 28)⟩, ⟨(some 3), none, .assign (.tmp 33)⟩, ⟨(some 4), none, .assign (.const (.bool true))⟩]) (.ret))))
noncomputable def l_ref25_text : List (Nat × Con) := [(37, c_ref1_Take)]
noncomputable abbrev K_ref25_text : Ctx := ctx (cl l_ref25_text)
theorem geq_ref25_text : gof K_ref25_text Try.f38 = some G_ref25_text.strip := by kernel_rfl
theorem sys_ref25_text : Go.Eng.Sys Try.prog K_ref25_text := sys_of' ⟨ok_ref1_Take, trivial⟩
theorem hm_ref25_text : ConMono K_ref25_text := conMono_of sys_ref25_text.con
noncomputable def k_ref25_text_ref1_Take := PLift.up (call_fn (C := K_ref25_text) (f := 37) (A := A_ref1_Take) (p := p_ref1_Take) (r := r_ref1_Take) rfl)
def A_ref25_text := Arms.cons (argT (List UInt8)) Arms.nil
def p_ref25_text (x : List UInt8 × Unit) : Prop := x.1.length ≤ 1099511627776
def r_ref25_text (x : List UInt8 × Unit) : AV := .tup [.t (.str (textS x.1).1), .t (.str (textS x.1).2.1), .t (.bool (textS x.1).2.2)]
set_option maxRecDepth 10000 in
theorem body_ref25_text (x : List UInt8 × Unit) (hp : p_ref25_text x) : avp K_ref25_text G_ref25_text (Ret K_ref25_text [.tmp 2, .tmp 3, .tmp 4] fun v _ => v = r_ref25_text x) (entry (A_ref25_text.enc x) .empty) := by
  obtain ⟨b, ⟨⟩⟩ := x
  change b.length ≤ _ at hp
  change avp _ _ (Ret _ _ fun v _ => v = .tup [.t (.str (textS b).1), .t (.str (textS b).2.1), .t (.bool (textS b).2.2)]) (entry [.t (.str b)] .empty)
  unfold G_ref25_text
  by_cases ho : takeOk [49] b = true
  case neg =>
    have ho' : takeOk [49] b = false := by simpa using ho
    have e : textS b = ([], [], false) := if_pos (.inl ho')
    rw [e]
    have hL0 : takeL [49] b = [] := by rw [takeL, ho']; rfl
    have hix0 : (idxB K_ref25_text 22 (.t (sl ([] : List Int))) (.t (.int .i64 0))).av [] = .imm [] := by simp [idxB, sl, ty_Lint, ty_int, B.val]
    simp only [vP.down, vS.down, vE.down, Nat.reduceEqDiff, Nat.reduceAdd, Nat.reduceSub, Nat.reduceMul, Nat.reduceLeDiff, Nat.reduceLT, Int.reduceToNat, reduceIte, reduceCtorEq, Int.reduceEq, Int.reduceLT, Int.reduceLE, ↓avp_condG, ↓tf_arrow, ↓ft_arrow, k_ref25_text_ref1_Take.down, A_ref1_Take, p_ref1_Take, r_ref1_Take, ho', hL0, hix0, pick_ot, false_implies]
    refine ⟨hp, ?_⟩
    simp only [vP.down, vS.down, vE.down, Nat.reduceEqDiff, Nat.reduceAdd, Nat.reduceSub, Nat.reduceMul, Nat.reduceLeDiff, Nat.reduceLT, Int.reduceToNat, reduceIte, reduceCtorEq, Int.reduceEq, Int.reduceLT, Int.reduceLE, ↓avp_condG, ↓tf_arrow, ↓ft_arrow, vT.down]
  obtain ⟨n, hL, hn, hn2, hrl⟩ := one_num ho
  obtain ⟨r, hR⟩ : ∃ r, takeR [49] b = r := ⟨_, rfl⟩
  by_cases hlt : (r.length : Int) < n
  · have e : textS b = ([], [], false) := if_pos (.inr (by rw [hR, hL]; exact hlt))
    rw [e]
    simp only [vP.down, vS.down, vE.down, Nat.reduceEqDiff, Nat.reduceAdd, Nat.reduceSub, Nat.reduceMul, Nat.reduceLeDiff, Nat.reduceLT, Int.reduceToNat, reduceIte, reduceCtorEq, Int.reduceEq, Int.reduceLT, Int.reduceLE, ↓avp_condG, ↓tf_arrow, ↓ft_arrow, k_ref25_text_ref1_Take.down, A_ref1_Take, p_ref1_Take, r_ref1_Take, ho, hL, hR, hlt, gt_iff_lt, false_implies]
    refine ⟨hp, ?_⟩
    simp only [vP.down, vS.down, vE.down, Nat.reduceEqDiff, Nat.reduceAdd, Nat.reduceSub, Nat.reduceMul, Nat.reduceLeDiff, Nat.reduceLT, Int.reduceToNat, reduceIte, reduceCtorEq, Int.reduceEq, Int.reduceLT, Int.reduceLE, ↓avp_condG, ↓tf_arrow, ↓ft_arrow, vT.down]
  · have e : textS b = (r.take n.toNat, r.drop n.toNat, true) := by
      unfold textS; rw [hL, hR]; exact if_neg (fun h => h.elim (fun h => by rw [ho] at h; cases h) hlt)
    rw [e]
    simp only [vP.down, vS.down, vE.down, Nat.reduceEqDiff, Nat.reduceAdd, Nat.reduceSub, Nat.reduceMul, Nat.reduceLeDiff, Nat.reduceLT, Int.reduceToNat, reduceIte, reduceCtorEq, Int.reduceEq, Int.reduceLT, Int.reduceLE, ↓avp_condG, ↓tf_arrow, ↓ft_arrow, k_ref25_text_ref1_Take.down, A_ref1_Take, p_ref1_Take, r_ref1_Take, ho, hL, hR, hlt, gt_iff_lt, false_implies]
    refine ⟨hp, ?_⟩
    ((repeat' with_reducible refine And.intro ?_ ?_) <;> try (first | omega | (simp only [List.length_take, List.length_drop, List.length_append, List.length_map, List.length_replicate] <;> omega)))
    all_goals (try simp only [vP.down, vS.down, vE.down, Nat.reduceEqDiff, Nat.reduceAdd, Nat.reduceSub, Nat.reduceMul, Nat.reduceLeDiff, Nat.reduceLT, Int.reduceToNat, reduceIte, reduceCtorEq, Int.reduceEq, Int.reduceLT, Int.reduceLE, ↓avp_condG, ↓tf_arrow, ↓ft_arrow, vT.down])
    trace_state
noncomputable def c_ref25_text : Con := fnScal A_ref25_text p_ref25_text r_ref25_text
theorem ok_ref25_text : COk Try.prog 38 c_ref25_text := fn_sok sys_ref25_text mixed Try.func38 (by kernel_rfl) geq_ref25_text Try.ntmps38 (by rw [Try.results38]) (fun x => by unfold r_ref25_text; simp [AV.scal]) fun x hx => ⟨Nat.le_of_ble_eq_true rfl, body_ref25_text x hx⟩
end Go.Proofs.Ythhgaeeeppipnaa


namespace Go.Proofs.Ythhgaeeeppipnaa
open Go Go.Eng
theorem chr_at {k : Int} {i : Nat} (h : i < (fldL k).length) : ((fldL k).map chr).getD i 0 = chr ((fldL k).getD i default) := by
  rw [List.getD_eq_getElem?_getD, List.getElem?_map, List.getD_eq_getElem?_getD, List.getElem?_eq_getElem h]; rfl
theorem takeF_text {f : Int} (h3 : ¬ f ≤ 3) (h7 : f ≠ 7) (s : TStep) (b : List UInt8) : takeF true s f b = (setX s f (textS b).1, (textS b).2.1, (textS b).2.2) := by
  have hfm : fm f = [49] := if_neg (by omega)
  have hc : (true && decide (3 < f) && decide (f ≠ 7)) = true := by simp; omega
  have h37 : 3 < f := by omega
  unfold takeF textS
  rw [hfm]
  by_cases ho : takeOk [49] b = false
  · simp [ho, h37, h7]
  have ho' : takeOk [49] b = true := by simpa using ho
  by_cases hl : ((takeR [49] b).length : Int) < (takeL [49] b).getD 0 default
  · simp only [ho', hl, h3, h7, hc, Bool.true_eq_false, false_and, or_true, if_true, if_false, decide_false, Bool.and_false, Bool.false_eq_true]
  · simp only [ho', hl, h3, h7, hc, Bool.true_eq_false, false_and, or_false, if_true, if_false]
theorem textS_len (b : List UInt8) : (textS b).2.1.length ≤ b.length := by
  have : (takeR [49] b).length ≤ b.length := by unfold takeR; split <;> simp
  unfold textS
  split
  · simp
  · dsimp only; rw [List.length_drop]; omega
def G_ref25_one : GCode := .seq (.region [⟨(some 4), none, .alloc 24⟩, ⟨(some 5), none, .assign (.const (.string ⟨#[]⟩))⟩, ⟨(some 6), none, .assign (.const (.bool false))⟩]) (.seq (.region [⟨(some 13), none, .move (.tmp 0)⟩, ⟨(some 14), none, .build 24 #[(0, .tmp 13)]⟩, ⟨(some 7), none, .alloc 24⟩, ⟨none, none, .store 24 (.tmp 7) (.tmp 14)⟩]) (.seq (.region [⟨(some 15), none, .move (.tmp 0)⟩, ⟨(some 16), none, .call ⟨.value (.func 35), #[.tmp 15], #[3]⟩⟩, ⟨(some 8), none, .assign (.tmp 16)⟩]) (.seq (.region [⟨(some 9), none, .assign (.const (.bool true))⟩]) (.seq (.seq (.region [⟨(some 10), none, .assign (.const (.int .i64 0))⟩]) (.block 0 (.loop (.seq .weak (.seq (.seq (.region [⟨(some 17), none, .move (.tmp 10)⟩, ⟨(some 18), none, .move (.tmp 8)⟩, ⟨(some 19), none, .call ⟨.builtin .len, #[.tmp 18], #[9]⟩⟩, ⟨(some 20), none, .binOp .lss 3 (.tmp 17) (.tmp 19) 3⟩, ⟨(some 21), none, .move (.tmp 20)⟩, ⟨(some 22), (some (21, true)), .move (.tmp 9)⟩, ⟨(some 23), none, .pick (.tmp 21) (.tmp 22) (.const (.bool false))⟩]) (.cond (.tmp 23) (.skip) (.exit 0))) (.seq (.block 1 (.seq (.region [⟨(some 11), none, .assign (.const (.slice none 0 0))⟩]) (.seq (.seq (.region [⟨(some 26), none, .move (.tmp 8)⟩, ⟨(some 27), none, .move (.tmp 10)⟩, ⟨(some 28), none, .index 9 (.tmp 26) (.tmp 27)⟩]) (.block 2 (.seq (.seq (.region [⟨(some 76), none, .binOp .eql 5 (.tmp 28) (.const (.int .u8 105)) 5⟩, ⟨(some 75), none, .assign (.tmp 76)⟩]) (.cond (.tmp 75) (.skip) (.seq (.region [⟨(some 77), none, .binOp .eql 5 (.tmp 28) (.const (.int .u8 110)) 5⟩, ⟨(some 75), none, .assign (.tmp 77)⟩]) (.cond (.tmp 75) (.skip) (.region [⟨(some 78), none, .binOp .eql 5 (.tmp 28) (.const (.int .u8 109)) 5⟩, ⟨(some 75), none, .assign (.tmp 78)⟩]))))) (.cond (.tmp 75) (.region [⟨(some 80), none, .move (.tmp 1)⟩, ⟨(some 81), none, .call ⟨.value (.func 37), #[.const (.string ⟨#[50]⟩), .tmp 80], #[9, 9]⟩⟩, ⟨(some 79), none, .move (.tmp 81)⟩, ⟨(some 82), none, .extract (.tmp 79) 0⟩, ⟨(some 83), none, .extract (.tmp 79) 1⟩, ⟨(some 84), none, .extract (.tmp 79) 2⟩, ⟨(some 11), none, .assign (.tmp 82)⟩, ⟨(some 1), none, .assign (.tmp 83)⟩, ⟨(some 9), none, .assign (.tmp 84)⟩]) (.seq (.region [⟨(some 86), none, .binOp .eql 5 (.tmp 28) (.const (.int .u8 98)) 5⟩, ⟨(some 85), none, .assign (.tmp 86)⟩]) (.cond (.tmp 85) (.region [⟨(some 88), none, .move (.tmp 1)⟩, ⟨(some 89), none, .call ⟨.value (.func 37), #[.const (.string ⟨#[49]⟩), .tmp 88], #[9, 9]⟩⟩, ⟨(some 87), none, .move (.tmp 89)⟩, ⟨(some 90), none, .extract (.tmp 87) 0⟩, ⟨(some 91), none, .extract (.tmp 87) 1⟩, ⟨(some 92), none, .extract (.tmp 87) 2⟩, ⟨(some 11), none, .assign (.tmp 90)⟩, ⟨(some 1), none, .assign (.tmp 91)⟩, ⟨(some 9), none, .assign (.tmp 92)⟩]) (.seq (.region [⟨(some 94), none, .binOp .eql 5 (.tmp 28) (.const (.int .u8 112)) 5⟩, ⟨(some 93), none, .assign (.tmp 94)⟩]) (.cond (.tmp 93) (.region [⟨(some 96), none, .move (.tmp 1)⟩, ⟨(some 97), none, .call ⟨.value (.func 38), #[.tmp 96], #[9]⟩⟩, ⟨(some 95), none, .move (.tmp 97)⟩, ⟨(some 98), none, .extract (.tmp 95) 0⟩, ⟨(some 99), none, .extract (.tmp 95) 1⟩, ⟨(some 100), none, .extract (.tmp 95) 2⟩, ⟨(some 101), none, .fieldAddr 24 (.tmp 7) 5⟩, ⟨none, none, .store 9 (.tmp 101) (.tmp 98)⟩, ⟨(some 1), none, .assign (.tmp 99)⟩, ⟨(some 9), none, .assign (.tmp 100)⟩]) (.seq (.region [⟨(some 103), none, .binOp .eql 5 (.tmp 28) (.const (.int .u8 116)) 5⟩, ⟨(some 102), none, .assign (.tmp 103)⟩]) (.cond (.tmp 102) (.region [⟨(some 105), none, .move (.tmp 1)⟩, ⟨(some 106), none, .call ⟨.value (.func 38), #[.tmp 105], #[9]⟩⟩, ⟨(some 104), none, .move (.tmp 106)⟩, ⟨(some 107), none, .extract (.tmp 104) 0⟩, ⟨(some 108), none, .extract (.tmp 104) 1⟩, ⟨(some 109), none, .extract (.tmp 104) 2⟩, ⟨(some 110), none, .fieldAddr 24 (.tmp 7) 6⟩, ⟨none, none, .store 9 (.tmp 110) (.tmp 107)⟩, ⟨(some 1), none, .assign (.tmp 108)⟩, ⟨(some 9), none, .assign (.tmp 109)⟩]) (.seq (.region [⟨(some 112), none, .binOp .eql 5 (.tmp 28) (.const (.int .u8 120)) 5⟩, ⟨(some 111), none, .assign (.tmp 112)⟩]) (.cond (.tmp 111) (.region [⟨(some 114), none, .move (.tmp 1)⟩, ⟨(some 115), none, .call ⟨.value (.func 38), #[.tmp 114], #[9]⟩⟩, ⟨(some 113), none, .move (.tmp 115)⟩, ⟨(some 116), none, .extract (.tmp 113) 0⟩, ⟨(some 117), none, .extract (.tmp 113) 1⟩, ⟨(some 118), none, .extract (.tmp 113) 2⟩, ⟨(some 119), none, .fieldAddr 24 (.tmp 7) 7⟩, ⟨none, none, .store 9 (.tmp 119) (.tmp 116)⟩, ⟨(some 1), none, .assign (.tmp 117)⟩, ⟨(some 9), none, .assign (.tmp 118)⟩]) (.seq (.region [⟨(some 30), none, .move (.tmp 1)⟩, ⟨(some 31), none, .call ⟨.value (.func 37), #[.const (.string ⟨#[49]⟩), .tmp 30], #[9, 9]⟩⟩, ⟨(some 29), none, .move (.tmp 31)⟩, ⟨(some 32), none, .extract (.tmp 29) 0⟩, ⟨(some 33), none, .extract (.tmp 29) 1⟩, ⟨(some 34), none, .extract (.tmp 29) 2⟩, ⟨(some 11), none, .assign (.tmp 32)⟩, ⟨(some 1), none, .assign (.tmp 33)⟩, ⟨(some 9), none, .assign (.tmp 34)⟩]) (.seq (.seq (.region [⟨(some 35), none, .move (.tmp 9)⟩, ⟨(some 36), none, .unOp .not 4 (.tmp 35)⟩, ⟨(some 37), none, .move (.tmp 36)⟩, ⟨(some 38), (some (37, false)), .move (.tmp 11)⟩, ⟨(some 39), (some (37, false)), .indexAddr 22 (.tmp 38) (.const (.int .i64 0))⟩, ⟨(some 40), (some (37, false)), .load 3 (.tmp 39)⟩, ⟨(some 41), (some (37, false)), .binOp .gtr 3 (.tmp 40) (.const (.int .i64 60)) 3⟩, ⟨(some 42), none, .pick (.tmp 37) (.const (.bool true)) (.tmp 41)⟩, ⟨(some 43), none, .move (.tmp 42)⟩, ⟨(some 44), (some (43, false)), .move (.tmp 11)⟩, ⟨(some 45), (some (43, false)), .indexAddr 22 (.tmp 44) (.const (.int .i64 0))⟩, ⟨(some 46), (some (43, false)), .load 3 (.tmp 45)⟩, ⟨(some 47), (some (43, false)), .move (.tmp 1)⟩, ⟨(some 48), (some (43, false)), .call ⟨.builtin .len, #[.tmp 47], #[9]⟩⟩, ⟨(some 49), (some (43, false)), .binOp .gtr 3 (.tmp 46) (.tmp 48) 3⟩, ⟨(some 50), none, .pick (.tmp 43) (.const (.bool true)) (.tmp 49)⟩]) (.cond (.tmp 50) (.seq (.region [⟨(some 51), none, .load 24 (.tmp 7)⟩, ⟨(some 52), none, .move (.tmp 1)⟩, ⟨none, none, .store 24 (.tmp 4) (.tmp 51)⟩, ⟨(some 5), none, .assign (.tmp 52)⟩, ⟨(some 6), none, .assign (.const (.bool false))⟩]) (.ret)) (.skip))) (.seq (.seq (.region [⟨(some 12), none, .assign (.const (.int .i64 0))⟩]) (.block 3 (.loop (.seq .weak (.seq (.seq (.region [⟨(some 53), none, .move (.tmp 12)⟩, ⟨(some 54), none, .move (.tmp 11)⟩, ⟨(some 55), none, .indexAddr 22 (.tmp 54) (.const (.int .i64 0))⟩, ⟨(some 56), none, .load 3 (.tmp 55)⟩, ⟨(some 57), none, .binOp .lss 3 (.tmp 53) (.tmp 56) 3⟩]) (.cond (.tmp 57) (.skip) (.exit 3))) (.seq (.block 4 (.region [⟨(some 60), none, .fieldAddr 24 (.tmp 7) 8⟩, ⟨(some 61), none, .load 22 (.tmp 60)⟩, ⟨(some 62), none, .move (.tmp 1)⟩, ⟨(some 63), none, .move (.tmp 12)⟩, ⟨(some 64), none, .index 9 (.tmp 62) (.tmp 63)⟩, ⟨(some 65), none, .convert 5 3 (.tmp 64)⟩, ⟨(some 66), none, .binOp .and 3 (.tmp 65) (.const (.int .i64 3)) 3⟩, ⟨(some 67), none, .buildSlice 22 1 #[(0, .tmp 66)]⟩, ⟨(some 68), none, .call ⟨.builtin .append, #[.tmp 61, .tmp 67], #[22, 22]⟩⟩, ⟨(some 69), none, .fieldAddr 24 (.tmp 7) 8⟩, ⟨none, none, .store 22 (.tmp 69) (.tmp 68)⟩])) (.region [⟨(some 58), none, .move (.tmp 12)⟩, ⟨(some 59), none, .binOp .add 3 (.tmp 58) (.const (.int .i64 1)) 3⟩, ⟨(some 12), none, .assign (.tmp 59)⟩]))))))) (.seq (.region [⟨(some 70), none, .move (.tmp 1)⟩, ⟨(some 71), none, .move (.tmp 11)⟩, ⟨(some 72), none, .indexAddr 22 (.tmp 71) (.const (.int .i64 0))⟩, ⟨(some 73), none, .load 3 (.tmp 72)⟩, ⟨(some 74), none, .slice 9 (.tmp 70) (some (.tmp 73)) none none⟩, ⟨(some 1), none, .assign (.tmp 74)⟩]) (.region [⟨(some 11), none, .assign (.const (.slice none 0 0))⟩]))))))))))))))))) (.seq (.region [⟨(some 120), none, .move (.tmp 9)⟩, ⟨(some 121), none, .move (.tmp 120)⟩, ⟨(some 122), (some (121, true)), .move (.tmp 11)⟩, ⟨(some 123), (some (121, true)), .call ⟨.builtin .len, #[.tmp 122], #[22]⟩⟩, ⟨(some 124), (some (121, true)), .binOp .eql 3 (.tmp 123) (.const (.int .i64 1)) 3⟩, ⟨(some 125), none, .pick (.tmp 121) (.tmp 124) (.const (.bool false))⟩]) (.cond (.tmp 125) (.seq (.region [⟨(some 126), none, .move (.tmp 8)⟩, ⟨(some 127), none, .move (.tmp 10)⟩, ⟨(some 128), none, .index 9 (.tmp 126) (.tmp 127)⟩]) (.block 5 (.seq (.region [⟨(some 134), none, .binOp .eql 5 (.tmp 128) (.const (.int .u8 105)) 5⟩, ⟨(some 133), none, .assign (.tmp 134)⟩]) (.cond (.tmp 133) (.region [⟨(some 135), none, .move (.tmp 11)⟩, ⟨(some 136), none, .indexAddr 22 (.tmp 135) (.const (.int .i64 0))⟩, ⟨(some 137), none, .load 3 (.tmp 136)⟩, ⟨(some 138), none, .fieldAddr 24 (.tmp 7) 1⟩, ⟨none, none, .store 3 (.tmp 138) (.tmp 137)⟩]) (.seq (.region [⟨(some 140), none, .binOp .eql 5 (.tmp 128) (.const (.int .u8 110)) 5⟩, ⟨(some 139), none, .assign (.tmp 140)⟩]) (.cond (.tmp 139) (.region [⟨(some 141), none, .move (.tmp 11)⟩, ⟨(some 142), none, .indexAddr 22 (.tmp 141) (.const (.int .i64 0))⟩, ⟨(some 143), none, .load 3 (.tmp 142)⟩, ⟨(some 144), none, .fieldAddr 24 (.tmp 7) 2⟩, ⟨none, none, .store 3 (.tmp 144) (.tmp 143)⟩]) (.seq (.region [⟨(some 146), none, .binOp .eql 5 (.tmp 128) (.const (.int .u8 109)) 5⟩, ⟨(some 145), none, .assign (.tmp 146)⟩]) (.cond (.tmp 145) (.region [⟨(some 147), none, .move (.tmp 11)⟩, ⟨(some 148), none, .indexAddr 22 (.tmp 147) (.const (.int .i64 0))⟩, ⟨(some 149), none, .load 3 (.tmp 148)⟩, ⟨(some 150), none, .fieldAddr 24 (.tmp 7) 3⟩, ⟨none, none, .store 3 (.tmp 150) (.tmp 149)⟩]) (.region [⟨(some 129), none, .move (.tmp 11)⟩, ⟨(some 130), none, .indexAddr 22 (.tmp 129) (.const (.int .i64 0))⟩, ⟨(some 131), none, .load 3 (.tmp 130)⟩, ⟨(some 132), none, .fieldAddr 24 (.tmp 7) 4⟩, ⟨none, none, .store 3 (.tmp 132) (.tmp 131)⟩]))))))))) (.skip)))))) (.region [⟨(some 24), none, .move (.tmp 10)⟩, ⟨(some 25), none, .binOp .add 3 (.tmp 24) (.const (.int .i64 1)) 3⟩, ⟨(some 10), none, .assign (.tmp 25)⟩]))))))) (.seq (.region [⟨(some 151), none, .load 24 (.tmp 7)⟩, ⟨(some 152), none, .move (.tmp 1)⟩, ⟨(some 153), none, .move (.tmp 9)⟩, ⟨none, none, .store 24 (.tmp 4) (.tmp 151)⟩, ⟨(some 5), none, .assign (.tmp 152)⟩, ⟨(some 6), none, .assign (.tmp 153)⟩]) (.ret))))))
noncomputable def l_ref25_one : List (Nat × Con) := [(35, c_ref25_fields), (37, c_ref1_Take), (38, c_ref25_text)]
noncomputable abbrev K_ref25_one : Ctx := ctx (cl l_ref25_one)
theorem geq_ref25_one : gof K_ref25_one Try.f25 = some G_ref25_one.strip := by kernel_rfl
theorem sys_ref25_one : Go.Eng.Sys Try.prog K_ref25_one := sys_of' ⟨ok_ref25_fields, ok_ref1_Take, ok_ref25_text, trivial⟩
theorem hm_ref25_one : ConMono K_ref25_one := conMono_of sys_ref25_one.con
noncomputable def k_ref25_one_ref25_fields := PLift.up (call_scal (C := K_ref25_one) (f := 35) (A := A_ref25_fields) (p := p_ref25_fields) (r := r_ref25_fields) rfl)
noncomputable def k_ref25_one_ref1_Take := PLift.up (call_fn (C := K_ref25_one) (f := 37) (A := A_ref1_Take) (p := p_ref1_Take) (r := r_ref1_Take) rfl)
noncomputable def k_ref25_one_ref25_text := PLift.up (call_scal (C := K_ref25_one) (f := 38) (A := A_ref25_text) (p := p_ref25_text) (r := r_ref25_text) rfl)
def A_ref25_one := Arms.cons (argT Int) (Arms.cons (argT (List UInt8)) Arms.nil)
def p_ref25_one (x : Int × List UInt8 × Unit) : Prop := x.2.1.length ≤ 1099511627776
def r_ref25_one (x : Int × List UInt8 × Unit) : AV := takenR (oneS true x.1 x.2.1)
def OneI (S : Store) (g g4 : Nat) (v : AV) (x : TStep) : Prop := StepS S g v x ∧ S.f g4 = some (stE step0 (.t .nilS)) ∧ Not v g4
set_option maxRecDepth 10000 in
set_option maxHeartbeats 4000000 in
theorem body_ref25_one (x : Int × List UInt8 × Unit) (hp : p_ref25_one x) : avp K_ref25_one G_ref25_one (Ret K_ref25_one [.cell 4 24, .tmp 5, .tmp 6] fun v s' => Frz s' v (r_ref25_one x)) (entry (A_ref25_one.enc x) .empty) := by
  obtain ⟨k, b, ⟨⟩⟩ := x
  change b.length ≤ _ at hp
  change avp _ _ (Ret _ _ fun v s' => Frz s' v (takenR (oneS true k b))) (entry [.t (.int .i64 k), .t (.str b)] .empty)
  have hfl := fldL_len k
  unfold G_ref25_one
  simp only [vP.down, vS.down, vE.down, Nat.reduceEqDiff, Nat.reduceAdd, Nat.reduceSub, Nat.reduceMul, Nat.reduceLeDiff, Nat.reduceLT, Int.reduceToNat, reduceIte, reduceCtorEq, Int.reduceEq, Int.reduceLT, Int.reduceLE, ↓avp_condG, ↓tf_arrow, ↓ft_arrow]
  intro g4 hg4 g hg
  have n74 := Store.ne_new hg
  simp only [vP.down, vS.down, vE.down, Nat.reduceEqDiff, Nat.reduceAdd, Nat.reduceSub, Nat.reduceMul, Nat.reduceLeDiff, Nat.reduceLT, Int.reduceToNat, reduceIte, reduceCtorEq, Int.reduceEq, Int.reduceLT, Int.reduceLE, ↓avp_condG, ↓tf_arrow, ↓ft_arrow, k_ref25_one_ref25_fields.down, A_ref25_fields, p_ref25_fields, r_ref25_fields]
  have hcl : ((fldL k).map chr).length = (fldL k).length := List.length_map ..
  refine loop_weak hm_ref25_one (fun m σ => ∃ (i : Nat) (v : AV) (S : Store) (x : TStep) (c : List UInt8) (ok : Bool), m = (fldL k).length - i ∧ i ≤ (fldL k).length ∧ OneI S g g4 v x ∧ (i < (fldL k).length → ok = true → v = .t .nilS ∧ x.Keep = []) ∧ c.length ≤ 1099511627776 ∧
    oneS true k b = (if ok = true then takeFs true ((fldL k).drop i) x c else (x, c, false)) ∧
    σ = mkS [(1, .t (.str c)), (4, .ptr g4 0), (7, .ptr g 0), (8, .t (.str ((fldL k).map chr))), (9, .t (.bool ok)), (10, .t (.int .i64 (i : Nat)))] S)
    ⟨0, .t .nilS, ((Store.empty.set g4 (some (stE step0 (.t .nilS)))).set g (some (stE { step0 with Kind := k } (.t .nilS)))), { step0 with Kind := k }, b, true, rfl, by omega, ⟨⟨Store.set_same _ _ _, lv_nil, not_t⟩, (Store.set_other _ _ n74.symm).trans (Store.set_same _ _ _), not_t⟩, fun _ _ => ⟨rfl, rfl⟩, hp, rfl, rfl⟩ (wk_to fewer_refl (by simp only [vP.down, vS.down, vE.down, Nat.reduceEqDiff, Nat.reduceAdd, Nat.reduceSub, Nat.reduceMul, Nat.reduceLeDiff, Nat.reduceLT, Int.reduceToNat, reduceIte, reduceCtorEq, Int.reduceEq, Int.reduceLT, Int.reduceLE, ↓avp_condG, ↓tf_arrow, ↓ft_arrow, wP.down, Int.natCast_zero, step0])) ?_
  rintro m _ ⟨i, v, S, x, c, ok, rfl, hi, ⟨D, B4, N4⟩, hv, hc, ho2, rfl⟩
  have fin : ∀ c okf, oneS true k b = (x, c, okf) → Frz ((S.set g4 (some (stE x v)))) (.tup [.agg (stC x v), .t (.str c), .t (.bool okf)]) (takenR (oneS true k b)) := fun c okf e => by
    rw [e]
    have := (D.2.1.set (x := some (stE x v)) N4).frz
    unfold takenR stT stC
    simp only [vP.down, vS.down, vE.down, Nat.reduceEqDiff, Nat.reduceAdd, Nat.reduceSub, Nat.reduceMul, Nat.reduceLeDiff, Nat.reduceLT, Int.reduceToNat, reduceIte, reduceCtorEq, Int.reduceEq, Int.reduceLT, Int.reduceLE, ↓avp_condG, ↓tf_arrow, ↓ft_arrow, vT.down]
    exact this
  have hi1 : IntKind.i64.wrap ((i : Int) + 1) = ((i + 1 : Nat) : Int) := by rw [IntWalk.i64_in _ (by omega)]; rfl
  by_cases hok : ok = true
  case neg =>
    have hok' : ok = false := by simpa using hok
    subst hok'
    rw [if_neg (by simp)] at ho2
    simp only [vP.down, vS.down, vE.down, Nat.reduceEqDiff, Nat.reduceAdd, Nat.reduceSub, Nat.reduceMul, Nat.reduceLeDiff, Nat.reduceLT, Int.reduceToNat, reduceIte, reduceCtorEq, Int.reduceEq, Int.reduceLT, Int.reduceLE, ↓avp_condG, ↓tf_arrow, ↓ft_arrow, hcl, D.1, B4, D.2.1.one, D.2.1.cells, pick_of, pick_ot]
    simp only [vP.down, vS.down, vE.down, Nat.reduceEqDiff, Nat.reduceAdd, Nat.reduceSub, Nat.reduceMul, Nat.reduceLeDiff, Nat.reduceLT, Int.reduceToNat, reduceIte, reduceCtorEq, Int.reduceEq, Int.reduceLT, Int.reduceLE, ↓avp_condG, ↓tf_arrow, ↓ft_arrow, vT.down]
    exact fin _ false ho2
  subst hok
  rw [if_pos rfl] at ho2
  by_cases hlt : i < (fldL k).length
  case neg =>
    obtain rfl : i = (fldL k).length := by omega
    have hge : ¬ (((fldL k).length : Int) < ((fldL k).length : Int)) := by omega
    rw [List.drop_length] at ho2
    simp only [vP.down, vS.down, vE.down, Nat.reduceEqDiff, Nat.reduceAdd, Nat.reduceSub, Nat.reduceMul, Nat.reduceLeDiff, Nat.reduceLT, Int.reduceToNat, reduceIte, reduceCtorEq, Int.reduceEq, Int.reduceLT, Int.reduceLE, ↓avp_condG, ↓tf_arrow, ↓ft_arrow, hcl, hge, D.1, B4, D.2.1.one, D.2.1.cells]
    simp only [vP.down, vS.down, vE.down, Nat.reduceEqDiff, Nat.reduceAdd, Nat.reduceSub, Nat.reduceMul, Nat.reduceLeDiff, Nat.reduceLT, Int.reduceToNat, reduceIte, reduceCtorEq, Int.reduceEq, Int.reduceLT, Int.reduceLE, ↓avp_condG, ↓tf_arrow, ↓ft_arrow, vT.down]
    exact fin _ true ho2
  have hlt' : (i : Int) < ((fldL k).length : Int) := by omega
  obtain ⟨hv1, hv2⟩ := hv hlt rfl
  subst hv1
  rw [takeFs_drop hlt] at ho2
  obtain ⟨f, hf⟩ : ∃ f, f = (fldL k).getD i default := ⟨_, rfl⟩
  have h7 : f = 7 → i + 1 = (fldL k).length := fun h => fldL_7 hlt (hf ▸ h)
  have hmem : f ∈ fldL k := by rw [hf, List.getD_eq_getElem?_getD, List.getElem?_eq_getElem hlt]; exact List.getElem_mem _
  have hbd := fldL_mem hmem
  have hch := chr_at hlt
  rw [← hf] at ho2 hch
  have hchI : ∀ u : Int, ((chr f).toNat : Int) = u → ((((fldL k).map chr).getD i 0).toNat : Int) = u := fun u h => by rw [hch]; exact h
  have next : ∀ S' v' x' c' ok', OneI S' g g4 v' x' → (i + 1 < (fldL k).length → ok' = true → v' = .t .nilS ∧ x'.Keep = []) → c'.length ≤ 1099511627776 → oneS true k b = (if ok' = true then takeFs true ((fldL k).drop (i + 1)) x' c' else (x', c', false)) →
      ∀ σ', Wk σ' (mkS [(1, .t (.str c')), (4, .ptr g4 0), (7, .ptr g 0), (8, .t (.str ((fldL k).map chr))), (9, .t (.bool ok')), (10, .t (.int .i64 (i + 1 : Nat)))] S') →
      ∃ k' σ'', k' < (fldL k).length - i ∧ Wk σ' σ'' ∧ ∃ (i : Nat) (v : AV) (S : Store) (x : TStep) (c : List UInt8) (ok : Bool), k' = (fldL k).length - i ∧ i ≤ (fldL k).length ∧ OneI S g g4 v x ∧ (i < (fldL k).length → ok = true → v = .t .nilS ∧ x.Keep = []) ∧ c.length ≤ 1099511627776 ∧
      oneS true k b = (if ok = true then takeFs true ((fldL k).drop i) x c else (x, c, false)) ∧
      σ'' = mkS [(1, .t (.str c)), (4, .ptr g4 0), (7, .ptr g 0), (8, .t (.str ((fldL k).map chr))), (9, .t (.bool ok)), (10, .t (.int .i64 (i : Nat)))] S :=
    fun S' v' x' c' ok' a1 a2 a3 a4 σ' w => ⟨(fldL k).length - (i + 1), _, by omega, w, i + 1, v', S', x', c', ok', rfl, hlt, a1, a2, a3, a4, rfl⟩
  by_cases h3 : f ≤ 3
  · have hne7 : f ≠ 7 := by omega
    by_cases hk : takeOk (fm f) c = true
    · obtain ⟨n, hL⟩ : ∃ n, takeL (fm f) c = [n] := by
        have h1 : (takeL (fm f) c).length = (digs (fm f)).length := by rw [takeL, if_pos hk, takeN_len]
        have h2 : (digs (fm f)).length = 1 := by rw [digs_len]; unfold fm; split <;> rfl
        rw [h2] at h1
        match takeL (fm f) c, h1 with
        | [n], _ => exact ⟨n, rfl⟩
      obtain ⟨r, hR⟩ : ∃ r, takeR (fm f) c = r := ⟨_, rfl⟩
      have hr : r.length ≤ c.length := by rw [← hR]; unfold takeR; split <;> simp
      have e : takeF true x f c = (setN x f n, r, true) := by
        unfold takeF; rw [if_neg (by rw [hk]; decide), if_pos h3, hL, hR]; rfl
      rw [e, if_pos rfl] at ho2
      have hnx := next (S.set g (some (stE (setN x f n) (.t .nilS)))) (.t .nilS) (setN x f n) r true ⟨⟨Store.set_same _ _ _, by rw [setN_keep, hv2]; exact lv_nil, not_t⟩, (Store.set_other _ _ n74.symm).trans B4, not_t⟩ (fun _ _ => ⟨rfl, setN_keep.trans hv2⟩) (by omega) ho2
      have : f = 0 ∨ f = 1 ∨ f = 2 ∨ f = 3 := by omega
      unfold setN at hnx
      rcases this with rfl | rfl | rfl | rfl
      · have hci := hchI 105 rfl
        change takeOk [50] c = true at hk
        change takeL [50] c = [n] at hL
        change takeR [50] c = r at hR
        simp only [vP.down, vS.down, vE.down, Nat.reduceEqDiff, Nat.reduceAdd, Nat.reduceSub, Nat.reduceMul, Nat.reduceLeDiff, Nat.reduceLT, Int.reduceToNat, reduceIte, reduceCtorEq, Int.reduceEq, Int.reduceLT, Int.reduceLE, ↓avp_condG, ↓tf_arrow, ↓ft_arrow, hcl, hlt', hci, k_ref25_one_ref1_Take.down, A_ref1_Take, p_ref1_Take, r_ref1_Take, hk, hL, hR, D.1]
        exact ⟨by omega, hc, by omega, hnx _ (wk_to fewer_refl (by simp only [vP.down, vS.down, vE.down, Nat.reduceEqDiff, Nat.reduceAdd, Nat.reduceSub, Nat.reduceMul, Nat.reduceLeDiff, Nat.reduceLT, Int.reduceToNat, reduceIte, reduceCtorEq, Int.reduceEq, Int.reduceLT, Int.reduceLE, ↓avp_condG, ↓tf_arrow, ↓ft_arrow, wP.down, hi1]))⟩
      · have hci := hchI 110 rfl
        change takeOk [50] c = true at hk
        change takeL [50] c = [n] at hL
        change takeR [50] c = r at hR
        simp only [vP.down, vS.down, vE.down, Nat.reduceEqDiff, Nat.reduceAdd, Nat.reduceSub, Nat.reduceMul, Nat.reduceLeDiff, Nat.reduceLT, Int.reduceToNat, reduceIte, reduceCtorEq, Int.reduceEq, Int.reduceLT, Int.reduceLE, ↓avp_condG, ↓tf_arrow, ↓ft_arrow, hcl, hlt', hci, k_ref25_one_ref1_Take.down, A_ref1_Take, p_ref1_Take, r_ref1_Take, hk, hL, hR, D.1]
        exact ⟨by omega, hc, by omega, hnx _ (wk_to fewer_refl (by simp only [vP.down, vS.down, vE.down, Nat.reduceEqDiff, Nat.reduceAdd, Nat.reduceSub, Nat.reduceMul, Nat.reduceLeDiff, Nat.reduceLT, Int.reduceToNat, reduceIte, reduceCtorEq, Int.reduceEq, Int.reduceLT, Int.reduceLE, ↓avp_condG, ↓tf_arrow, ↓ft_arrow, wP.down, hi1]))⟩
      · have hci := hchI 109 rfl
        change takeOk [50] c = true at hk
        change takeL [50] c = [n] at hL
        change takeR [50] c = r at hR
        simp only [vP.down, vS.down, vE.down, Nat.reduceEqDiff, Nat.reduceAdd, Nat.reduceSub, Nat.reduceMul, Nat.reduceLeDiff, Nat.reduceLT, Int.reduceToNat, reduceIte, reduceCtorEq, Int.reduceEq, Int.reduceLT, Int.reduceLE, ↓avp_condG, ↓tf_arrow, ↓ft_arrow, hcl, hlt', hci, k_ref25_one_ref1_Take.down, A_ref1_Take, p_ref1_Take, r_ref1_Take, hk, hL, hR, D.1]
        exact ⟨by omega, hc, by omega, hnx _ (wk_to fewer_refl (by simp only [vP.down, vS.down, vE.down, Nat.reduceEqDiff, Nat.reduceAdd, Nat.reduceSub, Nat.reduceMul, Nat.reduceLeDiff, Nat.reduceLT, Int.reduceToNat, reduceIte, reduceCtorEq, Int.reduceEq, Int.reduceLT, Int.reduceLE, ↓avp_condG, ↓tf_arrow, ↓ft_arrow, wP.down, hi1]))⟩
      · have hci := hchI 98 rfl
        change takeOk [49] c = true at hk
        change takeL [49] c = [n] at hL
        change takeR [49] c = r at hR
        simp only [vP.down, vS.down, vE.down, Nat.reduceEqDiff, Nat.reduceAdd, Nat.reduceSub, Nat.reduceMul, Nat.reduceLeDiff, Nat.reduceLT, Int.reduceToNat, reduceIte, reduceCtorEq, Int.reduceEq, Int.reduceLT, Int.reduceLE, ↓avp_condG, ↓tf_arrow, ↓ft_arrow, hcl, hlt', hci, k_ref25_one_ref1_Take.down, A_ref1_Take, p_ref1_Take, r_ref1_Take, hk, hL, hR, D.1]
        exact ⟨by omega, hc, by omega, hnx _ (wk_to fewer_refl (by simp only [vP.down, vS.down, vE.down, Nat.reduceEqDiff, Nat.reduceAdd, Nat.reduceSub, Nat.reduceMul, Nat.reduceLeDiff, Nat.reduceLT, Int.reduceToNat, reduceIte, reduceCtorEq, Int.reduceEq, Int.reduceLT, Int.reduceLE, ↓avp_condG, ↓tf_arrow, ↓ft_arrow, wP.down, hi1]))⟩
    · have hk' : takeOk (fm f) c = false := by simpa using hk
      have hL : takeL (fm f) c = [] := by rw [takeL, hk']; rfl
      have hR : takeR (fm f) c = [] := by rw [takeR, hk']; rfl
      have e : takeF true x f c = (x, [], false) := by
        unfold takeF; rw [if_pos hk', if_neg (by simp; omega)]
      rw [e, if_neg (by simp)] at ho2
      have hnx := next S (.t .nilS) x [] false ⟨D, B4, not_t⟩ (fun _ h => by cases h) (by simp) ho2
      have : f = 0 ∨ f = 1 ∨ f = 2 ∨ f = 3 := by omega
      rcases this with rfl | rfl | rfl | rfl
      · have hci := hchI 105 rfl
        change takeOk [50] c = false at hk'
        change takeL [50] c = [] at hL
        change takeR [50] c = [] at hR
        simp only [vP.down, vS.down, vE.down, Nat.reduceEqDiff, Nat.reduceAdd, Nat.reduceSub, Nat.reduceMul, Nat.reduceLeDiff, Nat.reduceLT, Int.reduceToNat, reduceIte, reduceCtorEq, Int.reduceEq, Int.reduceLT, Int.reduceLE, ↓avp_condG, ↓tf_arrow, ↓ft_arrow, hcl, hlt', hci, k_ref25_one_ref1_Take.down, A_ref1_Take, p_ref1_Take, r_ref1_Take, hk', hL, hR, D.1]
        exact ⟨by omega, hc, hnx _ (wk_to fewer_refl (by simp only [vP.down, vS.down, vE.down, Nat.reduceEqDiff, Nat.reduceAdd, Nat.reduceSub, Nat.reduceMul, Nat.reduceLeDiff, Nat.reduceLT, Int.reduceToNat, reduceIte, reduceCtorEq, Int.reduceEq, Int.reduceLT, Int.reduceLE, ↓avp_condG, ↓tf_arrow, ↓ft_arrow, wP.down, hi1]))⟩
      · have hci := hchI 110 rfl
        change takeOk [50] c = false at hk'
        change takeL [50] c = [] at hL
        change takeR [50] c = [] at hR
        simp only [vP.down, vS.down, vE.down, Nat.reduceEqDiff, Nat.reduceAdd, Nat.reduceSub, Nat.reduceMul, Nat.reduceLeDiff, Nat.reduceLT, Int.reduceToNat, reduceIte, reduceCtorEq, Int.reduceEq, Int.reduceLT, Int.reduceLE, ↓avp_condG, ↓tf_arrow, ↓ft_arrow, hcl, hlt', hci, k_ref25_one_ref1_Take.down, A_ref1_Take, p_ref1_Take, r_ref1_Take, hk', hL, hR, D.1]
        exact ⟨by omega, hc, hnx _ (wk_to fewer_refl (by simp only [vP.down, vS.down, vE.down, Nat.reduceEqDiff, Nat.reduceAdd, Nat.reduceSub, Nat.reduceMul, Nat.reduceLeDiff, Nat.reduceLT, Int.reduceToNat, reduceIte, reduceCtorEq, Int.reduceEq, Int.reduceLT, Int.reduceLE, ↓avp_condG, ↓tf_arrow, ↓ft_arrow, wP.down, hi1]))⟩
      · have hci := hchI 109 rfl
        change takeOk [50] c = false at hk'
        change takeL [50] c = [] at hL
        change takeR [50] c = [] at hR
        simp only [vP.down, vS.down, vE.down, Nat.reduceEqDiff, Nat.reduceAdd, Nat.reduceSub, Nat.reduceMul, Nat.reduceLeDiff, Nat.reduceLT, Int.reduceToNat, reduceIte, reduceCtorEq, Int.reduceEq, Int.reduceLT, Int.reduceLE, ↓avp_condG, ↓tf_arrow, ↓ft_arrow, hcl, hlt', hci, k_ref25_one_ref1_Take.down, A_ref1_Take, p_ref1_Take, r_ref1_Take, hk', hL, hR, D.1]
        exact ⟨by omega, hc, hnx _ (wk_to fewer_refl (by simp only [vP.down, vS.down, vE.down, Nat.reduceEqDiff, Nat.reduceAdd, Nat.reduceSub, Nat.reduceMul, Nat.reduceLeDiff, Nat.reduceLT, Int.reduceToNat, reduceIte, reduceCtorEq, Int.reduceEq, Int.reduceLT, Int.reduceLE, ↓avp_condG, ↓tf_arrow, ↓ft_arrow, wP.down, hi1]))⟩
      · have hci := hchI 98 rfl
        change takeOk [49] c = false at hk'
        change takeL [49] c = [] at hL
        change takeR [49] c = [] at hR
        simp only [vP.down, vS.down, vE.down, Nat.reduceEqDiff, Nat.reduceAdd, Nat.reduceSub, Nat.reduceMul, Nat.reduceLeDiff, Nat.reduceLT, Int.reduceToNat, reduceIte, reduceCtorEq, Int.reduceEq, Int.reduceLT, Int.reduceLE, ↓avp_condG, ↓tf_arrow, ↓ft_arrow, hcl, hlt', hci, k_ref25_one_ref1_Take.down, A_ref1_Take, p_ref1_Take, r_ref1_Take, hk', hL, hR, D.1]
        exact ⟨by omega, hc, hnx _ (wk_to fewer_refl (by simp only [vP.down, vS.down, vE.down, Nat.reduceEqDiff, Nat.reduceAdd, Nat.reduceSub, Nat.reduceMul, Nat.reduceLeDiff, Nat.reduceLT, Int.reduceToNat, reduceIte, reduceCtorEq, Int.reduceEq, Int.reduceLT, Int.reduceLE, ↓avp_condG, ↓tf_arrow, ↓ft_arrow, wP.down, hi1]))⟩
  by_cases hf7 : f = 7
  · subst hf7
    have hci := hchI 107 rfl
    have hlast := h7 rfl
    by_cases hk : takeOk [49] c = true
    case neg =>
      have hk' : takeOk [49] c = false := by simpa using hk
      have hL : takeL [49] c = [] := by rw [takeL, hk']; rfl
      have hR : takeR [49] c = [] := by rw [takeR, hk']; rfl
      have e : takeF true x 7 c = (x, [], false) := by
        unfold takeF; exact if_pos hk'
      rw [e, if_neg (by simp)] at ho2
      have hix0 : (idxB K_ref25_one 22 (.t (sl ([] : List Int))) (.t (.int .i64 0))).av [] = .imm [] := by simp [idxB, sl, ty_Lint, ty_int, B.val]
      simp only [vP.down, vS.down, vE.down, Nat.reduceEqDiff, Nat.reduceAdd, Nat.reduceSub, Nat.reduceMul, Nat.reduceLeDiff, Nat.reduceLT, Int.reduceToNat, reduceIte, reduceCtorEq, Int.reduceEq, Int.reduceLT, Int.reduceLE, ↓avp_condG, ↓tf_arrow, ↓ft_arrow, hcl, hlt', hci, k_ref25_one_ref1_Take.down, A_ref1_Take, p_ref1_Take, r_ref1_Take, hk', hL, hR, D.1, B4, hix0, pick_of, pick_ot]
      refine ⟨by omega, hc, ?_⟩
      simp only [vP.down, vS.down, vE.down, Nat.reduceEqDiff, Nat.reduceAdd, Nat.reduceSub, Nat.reduceMul, Nat.reduceLeDiff, Nat.reduceLT, Int.reduceToNat, reduceIte, reduceCtorEq, Int.reduceEq, Int.reduceLT, Int.reduceLE, ↓avp_condG, ↓tf_arrow, ↓ft_arrow, vT.down]
      exact fin _ false ho2
    obtain ⟨n, hL, hn0, hn1, hrc⟩ := one_num hk
    obtain ⟨r, hR⟩ : ∃ r, takeR [49] c = r := ⟨_, rfl⟩
    rw [hR] at hrc
    have hix : idxB K_ref25_one 22 (.t (sl [n])) (.t (.int .i64 0)) = .val True (.imm [.int .i64 n]) := idx_at (l := [n]) (i := 0) ty_Lint ty_int rfl (by simp) .i64
    by_cases hbad : 60 < n ∨ (r.length : Int) < n
    · have e : takeF true x 7 c = (x, r, false) := by
        unfold takeF; rw [if_neg (by rw [show fm 7 = [49] from rfl, hk]; decide), if_neg (by omega), show fm 7 = [49] from rfl, hL, hR]; exact if_pos (hbad.imp (fun h => ⟨rfl, h⟩) id)
      rw [e, if_neg (by simp)] at ho2
      by_cases c2 : 60 < n
      · simp only [vP.down, vS.down, vE.down, Nat.reduceEqDiff, Nat.reduceAdd, Nat.reduceSub, Nat.reduceMul, Nat.reduceLeDiff, Nat.reduceLT, Int.reduceToNat, reduceIte, reduceCtorEq, Int.reduceEq, Int.reduceLT, Int.reduceLE, ↓avp_condG, ↓tf_arrow, ↓ft_arrow, hcl, hlt', hci, k_ref25_one_ref1_Take.down, A_ref1_Take, p_ref1_Take, r_ref1_Take, hk, hL, hR, D.1, B4, hix, pick_of, pick_ot, gt_iff_lt, c2]
        refine ⟨by omega, hc, ?_⟩
        simp only [vP.down, vS.down, vE.down, Nat.reduceEqDiff, Nat.reduceAdd, Nat.reduceSub, Nat.reduceMul, Nat.reduceLeDiff, Nat.reduceLT, Int.reduceToNat, reduceIte, reduceCtorEq, Int.reduceEq, Int.reduceLT, Int.reduceLE, ↓avp_condG, ↓tf_arrow, ↓ft_arrow, vT.down]
        exact fin _ false ho2
      · have c3 : (r.length : Int) < n := by omega
        simp only [vP.down, vS.down, vE.down, Nat.reduceEqDiff, Nat.reduceAdd, Nat.reduceSub, Nat.reduceMul, Nat.reduceLeDiff, Nat.reduceLT, Int.reduceToNat, reduceIte, reduceCtorEq, Int.reduceEq, Int.reduceLT, Int.reduceLE, ↓avp_condG, ↓tf_arrow, ↓ft_arrow, hcl, hlt', hci, k_ref25_one_ref1_Take.down, A_ref1_Take, p_ref1_Take, r_ref1_Take, hk, hL, hR, D.1, B4, hix, pick_of, pick_ot, gt_iff_lt, c2, c3]
        refine ⟨by omega, hc, ?_⟩
        simp only [vP.down, vS.down, vE.down, Nat.reduceEqDiff, Nat.reduceAdd, Nat.reduceSub, Nat.reduceMul, Nat.reduceLeDiff, Nat.reduceLT, Int.reduceToNat, reduceIte, reduceCtorEq, Int.reduceEq, Int.reduceLT, Int.reduceLE, ↓avp_condG, ↓tf_arrow, ↓ft_arrow, vT.down]
        exact fin _ false ho2
    have c2 : ¬ 60 < n := fun h => hbad (.inl h)
    have c3 : ¬ (r.length : Int) < n := fun h => hbad (.inr h)
    have e : takeF true x 7 c = ({ x with Keep := x.Keep ++ (r.take n.toNat).map low2 }, r.drop n.toNat, true) := by
      unfold takeF; rw [if_neg (by rw [show fm 7 = [49] from rfl, hk]; decide), if_neg (by omega), show fm 7 = [49] from rfl, hL, hR]
      exact (if_neg (fun h => hbad (h.imp (fun h => h.2) id))).trans (if_pos rfl)
    rw [e, if_pos rfl] at ho2
    simp only [vP.down, vS.down, vE.down, Nat.reduceEqDiff, Nat.reduceAdd, Nat.reduceSub, Nat.reduceMul, Nat.reduceLeDiff, Nat.reduceLT, Int.reduceToNat, reduceIte, reduceCtorEq, Int.reduceEq, Int.reduceLT, Int.reduceLE, ↓avp_condG, ↓tf_arrow, ↓ft_arrow, hcl, hlt', hci, k_ref25_one_ref1_Take.down, A_ref1_Take, p_ref1_Take, r_ref1_Take, hk, hL, hR, D.1, B4, hix, pick_of, pick_ot, gt_iff_lt, c2, c3]
    refine ⟨by omega, hc, ?_⟩
    refine loop_weak hm_ref25_one (fun m σ => ∃ (j : Nat) (v : AV) (S : Store), m = n.toNat - j ∧ j ≤ n.toNat ∧ OneI S g g4 v { x with Keep := (r.take j).map low2 } ∧
      σ = mkS [(1, .t (.str r)), (4, .ptr g4 0), (7, .ptr g 0), (8, .t (.str ((fldL k).map chr))), (9, .t (.bool true)), (10, .t (.int .i64 (i : Nat))), (11, .t (sl [n])), (12, .t (.int .i64 (j : Nat)))] S)
      ⟨0, .t .nilS, S, rfl, by omega, ⟨⟨by rw [List.take_zero]; exact D.1, by rw [List.take_zero]; exact lv_nil, not_t⟩, B4, not_t⟩, rfl⟩ (wk_to fewer_refl (by simp only [vP.down, vS.down, vE.down, Nat.reduceEqDiff, Nat.reduceAdd, Nat.reduceSub, Nat.reduceMul, Nat.reduceLeDiff, Nat.reduceLT, Int.reduceToNat, reduceIte, reduceCtorEq, Int.reduceEq, Int.reduceLT, Int.reduceLE, ↓avp_condG, ↓tf_arrow, ↓ft_arrow, wP.down, Int.natCast_zero])) ?_
    rintro m _ ⟨j, v', S', rfl, hj, ⟨D', B4', N4'⟩, rfl⟩
    have hj1 : IntKind.i64.wrap ((j : Int) + 1) = ((j + 1 : Nat) : Int) := by rw [IntWalk.i64_in _ (by omega)]; rfl
    by_cases hlj : j < n.toNat
    case neg =>
      obtain rfl : j = n.toNat := by omega
      have hge : ¬ ((n.toNat : Int) < n) := by omega
      simp only [vP.down, vS.down, vE.down, Nat.reduceEqDiff, Nat.reduceAdd, Nat.reduceSub, Nat.reduceMul, Nat.reduceLeDiff, Nat.reduceLT, Int.reduceToNat, reduceIte, reduceCtorEq, Int.reduceEq, Int.reduceLT, Int.reduceLE, ↓avp_condG, ↓tf_arrow, ↓ft_arrow, hge]
      ((repeat' with_reducible refine And.intro ?_ ?_) <;> try (first | omega | (simp only [List.length_take, List.length_drop, List.length_append, List.length_map, List.length_replicate] <;> omega)))
      refine next S' v' _ (r.drop n.toNat) true ⟨D', B4', N4'⟩ (fun h => by omega) (by rw [List.length_drop]; omega) (by rw [ho2, hv2]; rfl) _ (wk_to fewer_refl (by simp only [vP.down, vS.down, vE.down, Nat.reduceEqDiff, Nat.reduceAdd, Nat.reduceSub, Nat.reduceMul, Nat.reduceLeDiff, Nat.reduceLT, Int.reduceToNat, reduceIte, reduceCtorEq, Int.reduceEq, Int.reduceLT, Int.reduceLE, ↓avp_condG, ↓tf_arrow, ↓ft_arrow, wP.down, hi1]))
    have hlj' : (j : Int) < n := by omega
    simp only [vP.down, vS.down, vE.down, Nat.reduceEqDiff, Nat.reduceAdd, Nat.reduceSub, Nat.reduceMul, Nat.reduceLeDiff, Nat.reduceLT, Int.reduceToNat, reduceIte, reduceCtorEq, Int.reduceEq, Int.reduceLT, Int.reduceLE, ↓avp_condG, ↓tf_arrow, ↓ft_arrow, hlj', D'.1, and3]
    ((repeat' with_reducible refine And.intro ?_ ?_) <;> try (first | omega | (simp only [List.length_take, List.length_drop, List.length_append, List.length_map, List.length_replicate] <;> omega)))
    intro g9 hg9
    refine append_new ty_Lint ty_int rfl (by decide) D'.2.1 hg9 (shows_one (x := low2 (r.getD j 0)) rfl rfl rfl) (by simp; omega) (by simp; omega) fun v2 S2 hv2' kp => ?_
    obtain ⟨k1, k2⟩ := kp _ _ D'.1 D'.2.2
    obtain ⟨k3, k4⟩ := kp _ _ B4' N4'
    simp only [vP.down, vS.down, vE.down, Nat.reduceEqDiff, Nat.reduceAdd, Nat.reduceSub, Nat.reduceMul, Nat.reduceLeDiff, Nat.reduceLT, Int.reduceToNat, reduceIte, reduceCtorEq, Int.reduceEq, Int.reduceLT, Int.reduceLE, ↓avp_condG, ↓tf_arrow, ↓ft_arrow, k1, hv2'.cells, hv2'.one]
    refine round_to (n.toNat - (j + 1)) [(1, .t (.str r)), (4, .ptr g4 0), (7, .ptr g 0), (8, .t (.str ((fldL k).map chr))), (9, .t (.bool true)), (10, .t (.int .i64 (i : Nat))), (11, .t (sl [n])), (12, .t (.int .i64 (j + 1 : Nat)))] (S2.set g (some (stE { x with Keep := (r.take (j + 1)).map low2 } v2))) (by omega) fewer_refl (by simp only [vP.down, vS.down, vE.down, Nat.reduceEqDiff, Nat.reduceAdd, Nat.reduceSub, Nat.reduceMul, Nat.reduceLeDiff, Nat.reduceLT, Int.reduceToNat, reduceIte, reduceCtorEq, Int.reduceEq, Int.reduceLT, Int.reduceLE, ↓avp_condG, ↓tf_arrow, ↓ft_arrow, wP.down, hj1])
      ⟨j + 1, v2, _, rfl, hlj, ⟨⟨Store.set_same _ _ _, ?_, k2⟩, (Store.set_other _ _ n74.symm).trans k3, k4⟩, rfl⟩
    have : (r.take (j + 1)).map low2 = (r.take j).map low2 ++ [low2 (r.getD j 0)] := by
      rw [take_step (by omega), List.map_append]; rfl
    dsimp only
    rw [this]
    exact hv2'.set k2
  have e := takeF_text h3 hf7 x c
  have hln := textS_len c
  obtain ⟨⟨t, r, okt⟩, hT⟩ : ∃ q, q = textS c := ⟨_, rfl⟩
  rw [e, ← hT] at ho2
  rw [← hT] at hln
  dsimp only at ho2 hln
  have hnx := next (S.set g (some (stE (setX x f t) (.t .nilS)))) (.t .nilS) (setX x f t) r okt ⟨⟨Store.set_same _ _ _, by rw [setX_keep, hv2]; exact lv_nil, not_t⟩, (Store.set_other _ _ n74.symm).trans B4, not_t⟩ (fun _ _ => ⟨rfl, setX_keep.trans hv2⟩) (by omega) ho2
  have : f = 4 ∨ f = 5 ∨ f = 6 := by omega
  unfold setX at hnx
  rcases this with rfl | rfl | rfl
  · have hci := hchI 112 rfl
    simp only [vP.down, vS.down, vE.down, Nat.reduceEqDiff, Nat.reduceAdd, Nat.reduceSub, Nat.reduceMul, Nat.reduceLeDiff, Nat.reduceLT, Int.reduceToNat, reduceIte, reduceCtorEq, Int.reduceEq, Int.reduceLT, Int.reduceLE, ↓avp_condG, ↓tf_arrow, ↓ft_arrow, hcl, hlt', hci, k_ref25_one_ref25_text.down, A_ref25_text, p_ref25_text, r_ref25_text, ← hT, D.1]
    exact ⟨by omega, hc, hnx _ (wk_to fewer_refl (by simp only [vP.down, vS.down, vE.down, Nat.reduceEqDiff, Nat.reduceAdd, Nat.reduceSub, Nat.reduceMul, Nat.reduceLeDiff, Nat.reduceLT, Int.reduceToNat, reduceIte, reduceCtorEq, Int.reduceEq, Int.reduceLT, Int.reduceLE, ↓avp_condG, ↓tf_arrow, ↓ft_arrow, wP.down, hi1]))⟩
  · have hci := hchI 116 rfl
    simp only [vP.down, vS.down, vE.down, Nat.reduceEqDiff, Nat.reduceAdd, Nat.reduceSub, Nat.reduceMul, Nat.reduceLeDiff, Nat.reduceLT, Int.reduceToNat, reduceIte, reduceCtorEq, Int.reduceEq, Int.reduceLT, Int.reduceLE, ↓avp_condG, ↓tf_arrow, ↓ft_arrow, hcl, hlt', hci, k_ref25_one_ref25_text.down, A_ref25_text, p_ref25_text, r_ref25_text, ← hT, D.1]
    exact ⟨by omega, hc, hnx _ (wk_to fewer_refl (by simp only [vP.down, vS.down, vE.down, Nat.reduceEqDiff, Nat.reduceAdd, Nat.reduceSub, Nat.reduceMul, Nat.reduceLeDiff, Nat.reduceLT, Int.reduceToNat, reduceIte, reduceCtorEq, Int.reduceEq, Int.reduceLT, Int.reduceLE, ↓avp_condG, ↓tf_arrow, ↓ft_arrow, wP.down, hi1]))⟩
  · have hci := hchI 120 rfl
    simp only [vP.down, vS.down, vE.down, Nat.reduceEqDiff, Nat.reduceAdd, Nat.reduceSub, Nat.reduceMul, Nat.reduceLeDiff, Nat.reduceLT, Int.reduceToNat, reduceIte, reduceCtorEq, Int.reduceEq, Int.reduceLT, Int.reduceLE, ↓avp_condG, ↓tf_arrow, ↓ft_arrow, hcl, hlt', hci, k_ref25_one_ref25_text.down, A_ref25_text, p_ref25_text, r_ref25_text, ← hT, D.1]
    exact ⟨by omega, hc, hnx _ (wk_to fewer_refl (by simp only [vP.down, vS.down, vE.down, Nat.reduceEqDiff, Nat.reduceAdd, Nat.reduceSub, Nat.reduceMul, Nat.reduceLeDiff, Nat.reduceLT, Int.reduceToNat, reduceIte, reduceCtorEq, Int.reduceEq, Int.reduceLT, Int.reduceLE, ↓avp_condG, ↓tf_arrow, ↓ft_arrow, wP.down, hi1]))⟩
noncomputable def c_ref25_one : Con := fnCon A_ref25_one p_ref25_one r_ref25_one
theorem ok_ref25_one : COk Try.prog 25 c_ref25_one := fn_ok sys_ref25_one mixed Try.func25 (by kernel_rfl) geq_ref25_one Try.ntmps25 (by rw [Try.results25]) fun x hx => ⟨Nat.le_of_ble_eq_true rfl, body_ref25_one x hx⟩
end Go.Proofs.Ythhgaeeeppipnaa

