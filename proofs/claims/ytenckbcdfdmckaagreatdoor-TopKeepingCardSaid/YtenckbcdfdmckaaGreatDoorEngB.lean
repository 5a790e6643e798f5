/-
  One operation of a region: guards; operations that write.
-/
import Derived.Test.YtenckbcdfdmckaaGreatDoorEngA
import Derived.Laws.Sem
import Derived.KernelRfl
set_option linter.unusedSimpArgs false
set_option linter.unusedVariables false
namespace Go.Eng
section
variable {P : Program} {C : Ctx} {F : Addr → Prop} {s₀ : Store} {β₀ β : Bt} {w₀ w : World} {N : Nat} {σ : St} {a : Act} {s : Store}

theorem litB_wp (S : Sys P C) {Q : Exit → Act → World → Prop} {o : Oper} {ev : Operand → AV} {K : St → Prop} {T : TypeId} {n : Nat} {ps : Array (Nat × Operand)} (h : Inv F s₀ β₀ w₀ N β σ a w) (hd : ∀ k, o.dst = some k → k < N)
    (ho : o.op = .buildSlice T n ps) (hev : ∀ x ∈ o.op.operands, Rep β w (Or2 F (OwnOf β σ.st)) (ev x) (a.eval x)) (hc : (litB C σ.st T n (ps.toList.map fun p => (p.1, ev p.2))).c) {wb : Bool} (hwb : wb = true)
    (hK : K (σ.put o.dst (.opt wb ((litB C σ.st T n (ps.toList.map fun p => (p.1, ev p.2))).av [])))) : o.wp P a w (Post F s₀ β₀ w₀ N K) Q := by
  unfold litB at hc hK
  split at hc
  · next d hd' =>
    split at hc
    · next e hsh =>
      split at hc
      · next de hde =>
        split at hc
        · next l hrows =>
          have hbc : (buildSliceB C σ.st T n (ps.toList.map fun p => (p.1, ev p.2))).c := by
            simp only [buildSliceB, hd', hsh, hde, hrows]; exact hc
          have hx2 := (buildSliceB_both (P := P) S.ty h.st (T := T) (len := n) (ps := ps) (ev := ev) (ρ := a.eval) (fun p hp => hev p.2 (by rw [ho]; simp only [Op.operands]; simpa using ⟨p.1, by simpa using hp⟩)) hbc).2
          have hx := buildSliceB_sound (P := P) S.ty h.st (T := T) (len := n) (ps := ps) (ev := ev) (ρ := a.eval) (fun p hp => hev p.2 (by rw [ho]; simp only [Op.operands]; simpa using ⟨p.1, by simpa using hp⟩)) hbc
          obtain ⟨gs, v, β', w', h1, ⟨h2, h0⟩, h3, h4, h5⟩ := hx
          simp only [buildSliceB, hd', hsh, hde, hrows, B.new, Store.marks] at h2 h3 h4 h5
          cases gs with
          | nil => exact h2.elim
          | cons g gs =>
            cases gs with
            | cons _ _ => exact h2.2.elim
            | nil =>
              obtain ⟨hg, _⟩ := h2
              simp only [Store.adds, List.headD_cons] at h3 h4 h5
              have hll : l.length = n := hc.1
              have hown : ∀ ad, OwnOf β' σ.st ad → OwnOf β' ((σ.st.set g (some (.row de.size l false))).marks [g]) ad := fun ad ha => by
                obtain ⟨k, b, q1, q2, q3⟩ := ha
                have hkg : k ≠ g := fun e => by subst e; rw [hg] at q3; exact q3
                exact ⟨k, b, q1, q2, by rw [Store.marks_f, if_neg (by simp [hkg]), Store.set_other _ _ hkg]; exact q3⟩
              have hb1 : (σ.st.set g (some (.row de.size l false))).borrow1 (.tok g de.size 0 n) = some (.seq de.size l, [g]) := by
                simp only [Store.borrow1, Store.set_same, Nat.zero_add]
                rw [if_pos ⟨trivial, by omega⟩, List.drop_zero, List.take_of_length_le (by omega)]
              have hrt := borrow1_sound (ros := [g]) (ros' := [g]) (y := .seq de.size l) h3 h5 hb1 fun _ h => h
              have hst : StOk F β' σ.st w' := h3.shrink (fun ad ha => own_marks [g] _ ad (hown ad ha)) fun k e hk => ⟨e, by rw [Store.set_other _ _ (fun e => by subst e; rw [hg] at hk; cases hk)]; exact hk, fun _ h => h⟩
              have hfr : Frame (OwnOf β σ.st) β w (OwnOf β' σ.st) β' w' := { h4 with own := fun b off hb ha => h4.own b off hb (own_marks [g] _ _ (hown _ ha)) }
              unfold Oper.wp
              have hex : (execOp a.eval o).run P w = .ok (.value v) w' := by
                unfold execOp
                rw [ho]
                simp [h1]
              rw [hex]
              simp only [Oper.upon]
              simp only [hd', hsh, hde, hrows] at hK
              have hrt' : RepT w' (Or2 F (OwnOf β' σ.st)) (if n = 0 then .emp else .seq de.size l) v := by
                by_cases hn0 : n = 0
                · rw [if_pos hn0]
                  obtain ⟨w2, hw2⟩ := hx2
                  rw [h1] at hw2
                  cases hw2
                  subst hn0
                  exact .emp _
                · rw [if_neg hn0]
                  exact hrt.mono fun ad ha => ha.imp id (hown ad)
              exact Post.mk ((h.step hfr hst (.refl _ _)).put (put_opt (.t _ _ hrt') hwb) o.dst hd) hK
        · exact hc.elim
      · exact hc.elim
    · exact hc.elim
  · exact hc.elim

theorem madeB_wp (S : Sys P C) {Q : Exit → Act → World → Prop} {o : Oper} {ev : Operand → AV} {K : St → Prop} {T : TypeId} {x y : Operand} (h : Inv F s₀ β₀ w₀ N β σ a w) (hd : ∀ k, o.dst = some k → k < N)
    (ho : o.op = .makeSlice T x y) (hev : ∀ x ∈ o.op.operands, Rep β w (Or2 F (OwnOf β σ.st)) (ev x) (a.eval x)) (hc : (madeB C T (ev x) (ev y)).c) {wb : Bool} (hwb : wb = true)
    (hK : K (σ.put o.dst (.opt wb ((madeB C T (ev x) (ev y)).av [])))) : o.wp P a w (Post F s₀ β₀ w₀ N K) Q := by
  unfold madeB at hc hK
  split at hc
  · next d k1 l k2 c hd' hex hey =>
    split at hc
    · next e hsh =>
      split at hc
      · next de hde =>
        have hbc : (makeSliceB C T (ev x) (ev y)).c := by
          simp only [makeSliceB, hd', hsh, hde, hex, hey]; exact hc
        have hx := makeSliceB_sound (P := P) S.ty h.st (T := T) (hev x (by rw [ho]; simp [Op.operands])) (hev y (by rw [ho]; simp [Op.operands])) hbc
        obtain ⟨gs, v, β', w', h1, ⟨h2, h0⟩, h3, h4, h5⟩ := hx
        simp only [makeSliceB, hd', hsh, hde, hex, hey, B.new, Store.marks] at h2 h3 h4 h5
        cases gs with
        | nil => exact h2.elim
        | cons g gs =>
          cases gs with
          | cons _ _ => exact h2.2.elim
          | nil =>
            obtain ⟨hg, _⟩ := h2
            simp only [Store.adds, List.headD_cons] at h3 h4 h5
            simp only [hd', hsh, hde, hex, hey] at hK
            obtain ⟨L, hL⟩ : ∃ L, L = List.replicate l.toNat de.zero := ⟨_, rfl⟩
            have hll : L.length = l.toNat := by rw [hL]; simp
            rw [← hL] at h3 h4 h5 hK
            have hown : ∀ ad, OwnOf β' σ.st ad → OwnOf β' ((σ.st.set g (some (.row de.size L false))).marks [g]) ad := fun ad ha => by
              obtain ⟨k, b, q1, q2, q3⟩ := ha
              have hkg : k ≠ g := fun e => by subst e; rw [hg] at q3; exact q3
              exact ⟨k, b, q1, q2, by rw [Store.marks_f, if_neg (by simp [hkg]), Store.set_other _ _ hkg]; exact q3⟩
            have hb1 : (σ.st.set g (some (.row de.size L false))).borrow1 (.tok g de.size 0 l.toNat) = some (.seq de.size L, [g]) := by
              simp only [Store.borrow1, Store.set_same, Nat.zero_add]
              rw [if_pos ⟨trivial, by omega⟩, List.drop_zero, List.take_of_length_le (by omega)]
            have hrt := borrow1_sound (ros := [g]) (ros' := [g]) (y := .seq de.size L) h3 h5 hb1 fun _ h => h
            have hst : StOk F β' σ.st w' := h3.shrink (fun ad ha => own_marks [g] _ ad (hown ad ha)) fun k e hk => ⟨e, by rw [Store.set_other _ _ (fun e => by subst e; rw [hg] at hk; cases hk)]; exact hk, fun _ h => h⟩
            have hfr : Frame (OwnOf β σ.st) β w (OwnOf β' σ.st) β' w' := { h4 with own := fun b off hb ha => h4.own b off hb (own_marks [g] _ _ (hown _ ha)) }
            unfold Oper.wp
            have hex2 : (execOp a.eval o).run P w = .ok (.value v) w' := by
              unfold execOp
              rw [ho]
              simp [h1]
            rw [hex2]
            simp only [Oper.upon]
            exact Post.mk ((h.step hfr hst (.refl _ _)).put (put_opt (.t _ _ (hrt.mono fun ad ha => ha.imp id (hown ad))) hwb) o.dst hd) hK
      · exact hc.elim
    · exact hc.elim
  · exact hc.elim

theorem pass_sound (hs : StOk F β s w) : ∀ (ms : List Bool) (vs as : List AV) (ros ros' : List Nat) (us : Nat → Value), s.pass ms vs = some (as, ros) → (∀ g ∈ ros, g ∈ ros') → (∀ i, i < vs.length → Rep β w (Or2 F (OwnOf β s)) (vs.getD i .unk) (us i)) →
    as.length = vs.length ∧ ∀ i, i < vs.length → Rep β w (Or2 F (OwnOf β (s.marks ros'))) (as.getD i .unk) (us i)
  | [], [], as, ros, ros', us, h, _, _ => by
    simp only [Store.pass, Option.some.injEq, Prod.mk.injEq] at h
    obtain ⟨rfl, rfl⟩ := h
    exact ⟨rfl, fun i hi => by simp at hi⟩
  | [], _ :: _, _, _, _, _, h, _, _ => by simp [Store.pass] at h
  | _ :: _, [], _, _, _, _, h, _, _ => by simp [Store.pass] at h
  | m :: ms, v :: r, as, ros, ros', us, h, hsub, hr => by
    simp only [Store.pass] at h
    cases h1 : (if m then some (v, []) else s.borrow v) with
    | none => rw [h1] at h; cases h
    | some p =>
      cases h2 : s.pass ms r with
      | none => rw [h1, h2] at h; cases h
      | some q =>
        obtain ⟨x, c⟩ := p
        obtain ⟨ys, b⟩ := q
        rw [h1, h2] at h
        simp only [Option.some.injEq, Prod.mk.injEq] at h
        obtain ⟨rfl, rfl⟩ := h
        obtain ⟨g1, g2⟩ := pass_sound hs ms r ys b ros' (fun i => us (i + 1)) h2 (fun g hg => hsub g (by simp [hg])) fun i hi => by simpa using hr (i + 1) (by simpa using hi)
        have hx : Rep β w (Or2 F (OwnOf β (s.marks ros'))) x (us 0) := by
          have h0 : Rep β w (Or2 F (OwnOf β s)) v (us 0) := by simpa using hr 0 (by simp)
          cases m with
          | true =>
            simp only [if_true, Option.some.injEq, Prod.mk.injEq] at h1
            obtain ⟨rfl, rfl⟩ := h1
            exact h0.mono fun ad ha => ha.imp id (own_marks ros' s ad)
          | false => exact borrow_sound hs h0 (by simpa using h1) fun g hg => hsub g (by simp [hg])
        refine ⟨by simp [g1], fun i hi => ?_⟩
        cases i with
        | zero => simpa using hx
        | succ i => simpa using g2 i (by simpa using hi)

theorem bar_wp (S : Sys P C) {Q : Exit → Act → World → Prop} {o : Oper} {ev : Operand → AV} {b : Bar} {K : St → Prop} (h : Inv F s₀ β₀ w₀ N β σ a w) (hd : ∀ k, o.dst = some k → k < N)
    (hev : ∀ x ∈ o.op.operands, Rep β w (Or2 F (OwnOf β σ.st)) (ev x) (a.eval x)) (hb : barOf C o.op = some b) (hc : barT C ev b o.dst K σ) : o.wp P a w (Post F s₀ β₀ w₀ N K) Q := by
  unfold barOf at hb
  split at hb
  · next t x v hop =>
    cases hb
    obtain ⟨hdst, hc⟩ := hc
    rw [hop] at hev
    obtain ⟨s', w', h1, h2, h3, h4⟩ := storeT_sound (P := P) S.ty h.st (hev x (by simp [Op.operands])) (hev v (by simp [Op.operands])) (storeT_grew (β := β) hc)
    have hex : (execOp a.eval o).run P w = .ok .skip w' := by
      unfold execOp; rw [hop]; simp [h1]
    unfold Oper.wp
    rw [hex]
    simp only [Oper.upon, hdst, Act.put]
    exact Post.mk (h.step h4 h3 h2.2) h2.1
  · next c hop =>
    rw [hop] at hev
    obtain ⟨callee, args, argTypes⟩ := c
    dsimp only at hb
    split at hb
    · split at hb
      · next t t' x y ht hargs =>
        split at hb
        · next htt =>
          subst htt
          cases hb
          have e1 : args = #[x, y] := by rw [← Array.toArray_toList (xs := args), hargs]
          have e2 : argTypes = #[t, t] := by rw [← Array.toArray_toList (xs := argTypes), ht]
          subst e1 e2
          unfold barT at hc
          dsimp only at hc
          obtain ⟨β', g, s', n, len, v, w', h1, h2, h3, h4, h5⟩ := appendT_sound (P := P) S.ty h.st o.type (hev x (by simp [Op.operands, Call.operands])) (hev y (by simp [Op.operands, Call.operands])) hc
          have hex : (execOp a.eval o).run P w = .ok (.value v) w' := by
            unfold execOp; rw [hop]
            simp [resolve, invoke, builtin, h1]
          unfold Oper.wp
          rw [hex]
          simp only [Oper.upon]
          exact Post.mk ((h.step h4 h3 h2.2).put h5 o.dst hd) h2.1
        · cases hb
      · cases hb
    · split at hb
      · next t t' x y ht hargs =>
        split at hb
        · next htt =>
          subst htt
          cases hb
          have e1 : args = #[x, y] := by rw [← Array.toArray_toList (xs := args), hargs]
          have e2 : argTypes = #[t, t] := by rw [← Array.toArray_toList (xs := argTypes), ht]
          subst e1 e2
          unfold barT at hc
          dsimp only at hc
          obtain ⟨s', n, w', h1, h2, h3, h4, h5⟩ := copyT_sound (P := P) S.ty h.st o.type (hev x (by simp [Op.operands, Call.operands])) (hev y (by simp [Op.operands, Call.operands])) hc
          have hex : (execOp a.eval o).run P w = .ok (.value (goInt n)) w' := by
            unfold execOp; rw [hop]
            simp [resolve, invoke, builtin, h1]
          unfold Oper.wp
          rw [hex]
          simp only [Oper.upon]
          exact Post.mk ((h.step h4 h3 h5).put (.t _ _ (.int _ _)) o.dst hd) h2
        · cases hb
      · cases hb
    · next f =>
      split at hb
      · next modes G hk =>
        cases hb
        unfold barT at hc
        simp only [hk] at hc
        unfold genT at hc
        cases hp : σ.st.pass modes (args.toList.map ev) with
        | none => rw [hp] at hc; exact hc.elim
        | some p =>
          obtain ⟨as, ros⟩ := p
          rw [hp] at hc
          obtain ⟨hfn, _, _, hok⟩ := S.con f _ hk
          have hargs : Args β w (Or2 F (OwnOf β σ.st)) (args.toList.map ev) (args.map a.eval) := by
            have := args_map (β := β) (w := w) (A := Or2 F (OwnOf β σ.st)) (l := args.toList) (ev := ev) (ρ := a.eval) fun x hx => hev x (by
              have hx' : x ∈ args := by simpa using hx
              simp [Op.operands, Call.operands, hx'])
            have e : (args.toList.map a.eval).toArray = args.map a.eval := by rw [← Array.toList_map, Array.toArray_toList]
            rwa [e] at this
          obtain ⟨q1, q2⟩ := pass_sound h.st modes _ as ros ros (fun i => (args.map a.eval).getD i undef) hp (fun _ h => h) hargs.2
          have hex := call_exec (P := P) (w := w) hop rfl (f := f) (vs := #[]) (a := a) (h := .func f) rfl hfn
          unfold Oper.wp
          rw [hex]
          simp only [Oper.upon, Array.append_empty]
          refine Calls.mono (hok as _ β (σ.st.marks ros) w F _ hc (StOk.marks ros h.st) ⟨q1.trans hargs.1, fun i hi => q2 i (q1 ▸ hi)⟩) fun e w' ⟨β', r, s', v, h1, h2, h3, h4, h5, h6⟩ => ?_
          subst h1
          exact Post.mk ((h.step ((Frame.marks ros).trans h5) h3 ((Grew.marks _ _ _).trans h6)).put h4 o.dst hd) h2
      · cases hb
    · cases hb
  · cases hb

theorem dst_ok {ops : Array Oper} {o : Oper} (h : dstOk N ops o = true) : (∀ k, o.dst = some k → k < N) ∧ ∀ j want, o.guard = some (j, want) → ∃ d, (ops[j]?).bind (·.dst) = some d ∧ d < N := by
  unfold dstOk at h
  rw [Bool.and_eq_true] at h
  refine ⟨fun k hk => ?_, fun j want hg => ?_⟩
  · have := h.1; rw [hk] at this; simpa using this
  · have := h.2
    rw [hg] at this
    dsimp only at this
    cases hb : (ops[j]?).bind (·.dst) with
    | none => rw [hb] at this; cases this
    | some d => rw [hb] at this; exact ⟨d, rfl, by simpa using this⟩

/-- **One operation.** -/
theorem aOp_sound (S : Sys P C) {Q : Exit → Act → World → Prop} {ops : Array Oper} {i : Nat} {o : Oper} {K : St → Prop} (h : Inv F s₀ β₀ w₀ N β σ a w) (hi : ops[i]? = some o) (hdk : dstOk N ops o = true) (hc : aOp C (opToG ops o) K σ) :
    wpOp P ops Q i (Post F s₀ β₀ w₀ N K) a w := by
  obtain ⟨hd, hgd⟩ := dst_ok hdk
  unfold wpOp
  simp only [hi]
  unfold aOp at hc
  have hop : (opToG ops o).op = o.op := rfl
  have hdst : (opToG ops o).dst = o.dst := rfl
  cases hg : o.guard with
  | none =>
    have hg' : (opToG ops o).g = none := by simp [opToG, hg]
    have hw : Region.wanted o (yielded ops a.tmps) = true := by simp [Region.wanted, hg]
    rw [if_pos hw]
    left
    split at hc
    · next b hb =>
      rw [hg'] at hc
      exact bar_wp S h hd (fun x _ => h.ev x) hb hc
    · obtain ⟨hc1, hc2⟩ := hc
      unfold gB at hc1 hc2
      rw [hg'] at hc1 hc2
      exact opB_wp S h hd (fun x _ => h.ev x) hc1 ⟨rfl, rfl, fun _ _ _ _ _ h => h⟩ hc2
  | some jw =>
    obtain ⟨j, want⟩ := jw
    obtain ⟨d, hd1, hd2⟩ := hgd j want hg
    have hg' : (opToG ops o).g = some (d, want) := by simp only [opToG, hg, hd1]
    have huv : ∀ (x : AV) (A : Addr → Prop), Rep β w A (.opt false x) undef := fun x A => .opt _ _ _ (fun h => by cases h) fun _ => rfl
    split at hc
    · next b hb =>
      rw [hg'] at hc
      dsimp only at hc
      split at hc
      · next wb hwb =>
        have hw := wanted_eq h hg hd1 hd2 hwb
        cases hwv : wb with
        | true =>
          subst hwv
          rw [if_pos hw]
          left
          obtain ⟨k1, k2⟩ := hc.1 rfl
          exact bar_wp S h hd (fun x hx => strip_rep (h.ev x) (okAll_mem k1 x (by rw [hop]; simpa using hx))) hb k2
        | false =>
          subst hwv
          rw [if_neg (by rw [hw]; simp)]
          exact Post.mk (h.put (huv _ _) o.dst hd) (hc.2 rfl)
      · exact hc.elim
    · obtain ⟨hc1, hc2⟩ := hc
      unfold gB at hc1 hc2
      rw [hg'] at hc1 hc2
      dsimp only at hc1 hc2
      split at hc1
      · next hwb =>
        rw [hwb] at hc2
        dsimp only at hc1 hc2
        have hw := wanted_eq h hg hd1 hd2 hwb
        obtain ⟨⟨k1, k2⟩, _⟩ := hc1
        rw [if_pos hw]
        left
        cases hp : isPick (opToG ops o).op with
        | true =>
          rw [hp] at k2 hc2
          simp only [if_true] at k2 hc2
          exact opB_wp S (b' := ⟨True, (opB C σ.ev σ.st o.op).ros, (opB C σ.ev σ.st o.op).es, fun gs => .opt true ((opB C σ.ev σ.st o.op).av gs)⟩) h hd (fun x _ => h.ev x) k2 ⟨rfl, rfl, fun gs A β w v hr => put_opt hr rfl⟩ hc2
        | false =>
          rw [hp] at k2 hc2
          simp only [Bool.false_eq_true, if_false] at k2 hc2
          have hok := k1 hp
          have hev : ∀ x ∈ o.op.operands, Rep β w (Or2 F (OwnOf β σ.st)) (σ.ev x).strip (a.eval x) := fun x hx => strip_rep (h.ev x) (okAll_mem hok x (by rw [hop]; simpa using hx))
          by_cases hbs : ∃ T n ps, o.op = .buildSlice T n ps
          · obtain ⟨T, n, ps, hbs⟩ := hbs
            rw [hop, hbs] at k2 hc2
            have z : (litB C σ.st T n (ps.toList.map fun p => (p.1, (σ.ev p.2).strip))).ros = [] ∧ (litB C σ.st T n (ps.toList.map fun p => (p.1, (σ.ev p.2).strip))).es = [] := by
              unfold litB
              (repeat' split) <;> exact ⟨rfl, rfl⟩
            have hK : K (σ.put o.dst (.opt true ((litB C σ.st T n (ps.toList.map fun p => (p.1, (σ.ev p.2).strip))).av []))) := by
              have h0 := hc2 []
              have e1 : opBg C (fun x => (σ.ev x).strip) σ.st (.buildSlice T n ps) = litB C σ.st T n (ps.toList.map fun p => (p.1, (σ.ev p.2).strip)) := rfl
              rw [e1, z.1, z.2] at h0
              exact h0 trivial
            exact litB_wp S h hd hbs hev k2 rfl hK
          by_cases hms : ∃ T x y, o.op = .makeSlice T x y
          · obtain ⟨T, x, y, hms⟩ := hms
            rw [hop, hms] at k2 hc2
            have z : (madeB C T (σ.ev x).strip (σ.ev y).strip).ros = [] ∧ (madeB C T (σ.ev x).strip (σ.ev y).strip).es = [] := by
              unfold madeB
              (repeat' split) <;> exact ⟨rfl, rfl⟩
            have hK : K (σ.put o.dst (.opt true ((madeB C T (σ.ev x).strip (σ.ev y).strip).av []))) := by
              have h0 := hc2 []
              have e1 : opBg C (fun x => (σ.ev x).strip) σ.st (.makeSlice T x y) = madeB C T (σ.ev x).strip (σ.ev y).strip := rfl
              rw [e1, z.1, z.2] at h0
              exact h0 trivial
            exact madeB_wp S h hd hms hev k2 rfl hK
          · have e : opBg C (fun x => (σ.ev x).strip) σ.st (opToG ops o).op = opB C (fun x => (σ.ev x).strip) σ.st o.op := by
              rw [hop]
              unfold opBg
              split
              · next t n ps hx => exact absurd ⟨t, n, ps, hx⟩ hbs
              · next t x y hx => exact absurd ⟨t, x, y, hx⟩ hms
              · rfl
            rw [e] at k2 hc2
            exact opB_wp S (b' := ⟨True, (opB C (fun x => (σ.ev x).strip) σ.st o.op).ros, (opB C (fun x => (σ.ev x).strip) σ.st o.op).es, fun gs => .opt true ((opB C (fun x => (σ.ev x).strip) σ.st o.op).av gs)⟩) h hd hev k2 ⟨rfl, rfl, fun gs A β w v hr => put_opt hr rfl⟩ hc2
      · next hwb =>
        rw [hwb] at hc2
        have hw := wanted_eq h hg hd1 hd2 hwb
        rw [if_neg (by rw [hw]; simp)]
        exact Post.mk (h.put (huv _ _) o.dst hd) (hc2 [] trivial)
      · exact hc1.elim

end
end Go.Eng

namespace Go.Eng

/-- What two stores agree on but for marks. -/
def noRo : Entry → Entry
  | .row n l _ => .row n l true
  | .box cs _ => .box cs true

def Store.view (s : Store) (g : Nat) : Option Entry := (s.f g).map noRo

/-- What is there is there still. -/
def ExtS (s s' : Store) : Prop := ∀ g, s.f g ≠ none → s'.view g = s.view g

def Upto (N : Nat) (s s' : Store) : Prop := ∀ g, g < N → s'.view g = s.view g

section
variable {C : Ctx} {s s' : Store}

theorem view_none {g : Nat} (h : s'.view g = s.view g) (h0 : s.f g = none) : s'.f g = none := by
  unfold Store.view at h
  rw [h0] at h
  cases h1 : s'.f g with
  | none => rfl
  | some e => rw [h1] at h; cases h

theorem view_row {g n : Nat} {l : List (List TV)} {ro : Bool} (h : s'.view g = s.view g) (h0 : s.f g = some (.row n l ro)) : ∃ ro', s'.f g = some (.row n l ro') := by
  unfold Store.view at h
  rw [h0] at h
  cases h1 : s'.f g with
  | none => rw [h1] at h; cases h
  | some e =>
    rw [h1] at h
    cases e with
    | row m l' r => simp [noRo] at h; exact ⟨r, by rw [h.1, h.2]⟩
    | box cs r => simp [noRo] at h

theorem view_box {g : Nat} {cs : List AV} {ro : Bool} (h : s'.view g = s.view g) (h0 : s.f g = some (.box cs ro)) : ∃ ro', s'.f g = some (.box cs ro') := by
  unfold Store.view at h
  rw [h0] at h
  cases h1 : s'.f g with
  | none => rw [h1] at h; cases h
  | some e =>
    rw [h1] at h
    cases e with
    | row m l' r => simp [noRo] at h
    | box ds r => simp [noRo] at h; exact ⟨r, by rw [h]⟩

/-- The store where a value's own token stands. -/
def tokOf : AV → Option Nat
  | .tok g .. | .btok g .. | .ptr g _ | .eptr g .. => some g
  | _ => none

theorem borrow1_dep {v : AV} (h : ∀ g, tokOf v = some g → s'.view g = s.view g) : s'.borrow1 v = s.borrow1 v := by
  cases v with
  | tok g n off len =>
    have hg := h g rfl
    unfold Store.borrow1
    dsimp only
    cases h0 : s.f g with
    | none => rw [view_none hg h0]
    | some e => cases e with
      | row m l ro => obtain ⟨r, hr⟩ := view_row hg h0; rw [hr]
      | box cs ro => obtain ⟨r, hr⟩ := view_box hg h0; rw [hr]
  | btok g n off len =>
    have hg := h g rfl
    unfold Store.borrow1
    dsimp only
    cases h0 : s.f g with
    | none => rw [view_none hg h0]
    | some e => cases e with
      | row m l ro => obtain ⟨r, hr⟩ := view_row hg h0; rw [hr]
      | box cs ro => obtain ⟨r, hr⟩ := view_box hg h0; rw [hr]
  | _ => rfl

theorem borrow1_ext {v : AV} {r} (h : s.borrow1 v = some r) (he : ExtS s s') : s'.borrow1 v = some r := by
  rw [← h]
  refine borrow1_dep fun g hg => he g fun h0 => ?_
  cases v <;> simp [tokOf] at hg <;> subst hg <;> unfold Store.borrow1 at h <;> simp [h0] at h

theorem tokOf_lt {v : AV} {g : Nat} (h : tokOf v = some g) : g < SizeOf.sizeOf v := by
  cases v <;> simp [tokOf] at h <;> subst h <;> simp <;> omega

theorem borrowAll_dep : ∀ {l : List AV}, Upto (SizeOf.sizeOf l) s s' → s'.borrowAll l = s.borrowAll l
  | [], _ => rfl
  | v :: r, h => by
    have h1 : s'.borrow1 v = s.borrow1 v := borrow1_dep fun g hg => h g (by have := tokOf_lt hg; simp; omega)
    have h2 : s'.borrowAll r = s.borrowAll r := borrowAll_dep fun g hg => h g (by simp; omega)
    simp only [Store.borrowAll, h1, h2]

theorem borrowAll_ext (he : ExtS s s') : ∀ {l : List AV} {r}, s.borrowAll l = some r → s'.borrowAll l = some r
  | [], r, h => h
  | v :: r, q, h => by
    simp only [Store.borrowAll] at h ⊢
    cases h1 : s.borrow1 v with
    | none => rw [h1] at h; cases h
    | some p =>
      cases h2 : s.borrowAll r with
      | none => rw [h1, h2] at h; cases h
      | some p2 =>
        rw [h1, h2] at h
        rw [borrow1_ext h1 he, borrowAll_ext he h2]
        exact h

theorem immB_dep (s : Store) (g off : Nat) : ∃ N, ∀ s', Upto N s s' → s'.immB g off = s.immB g off := by
  unfold Store.immB
  cases h0 : s.f g with
  | none => exact ⟨g + 1, fun s' h => by rw [view_none (h g (by omega)) h0]⟩
  | some e => cases e with
    | row m l ro => exact ⟨g + 1, fun s' h => by obtain ⟨r, hr⟩ := view_row (h g (by omega)) h0; rw [hr]⟩
    | box cs ro => exact ⟨g + 1 + SizeOf.sizeOf cs, fun s' h => by
        obtain ⟨r, hr⟩ := view_box (h g (by omega)) h0
        rw [hr]
        have := borrowAll_dep (l := cs) (s := s) (s' := s') fun k hk => h k (by omega)
        simp only [this]⟩

theorem immB_ext (he : ExtS s s') {g off : Nat} {r} (h : s.immB g off = some r) : s'.immB g off = some r := by
  unfold Store.immB at h ⊢
  split at h
  · next cs ro h0 =>
    obtain ⟨r', hr⟩ := view_box (he g (by rw [h0]; simp)) h0
    rw [hr]
    dsimp only
    cases h1 : s.borrowAll cs with
    | none => rw [h1] at h; cases h
    | some p => rw [borrowAll_ext he h1]; rw [h1] at h; exact h
  · cases h

theorem Upto.le {N M : Nat} (h : Upto M s s') (hN : N ≤ M) : Upto N s s' := fun g hg => h g (by omega)

theorem borrowC_dep (s : Store) : ∀ l : List AV, ∃ N, ∀ s', Upto N s s' → s'.borrowC l = s.borrowC l
  | [] => ⟨0, fun _ _ => rfl⟩
  | v :: r => by
    obtain ⟨N2, h2⟩ := borrowC_dep s r
    cases v with
    | ptr g off =>
      obtain ⟨N1, h1⟩ := immB_dep s g off
      refine ⟨N1 + N2, fun s' h => ?_⟩
      unfold Store.borrowC
      rw [h2 s' (h.le (by omega))]
      cases s.borrowC r with
      | none => rfl
      | some q => dsimp only; rw [h1 s' (h.le (by omega))]
    | _ => exact ⟨N2, fun s' h => by unfold Store.borrowC; rw [h2 s' h]; try (cases s.borrowC r <;> rfl)⟩

theorem borrowC_ext (he : ExtS s s') : ∀ {l : List AV} {r}, s.borrowC l = some r → s'.borrowC l = some r
  | [], r, h => h
  | v :: r, q, h => by
    simp only [Store.borrowC] at h ⊢
    cases h2 : s.borrowC r with
    | none => rw [h2] at h; cases v <;> cases h
    | some p2 =>
      rw [h2] at h
      rw [borrowC_ext he h2]
      cases v with
      | ptr g off =>
        dsimp only at h ⊢
        cases h1 : s.immB g off with
        | none => rw [h1] at h; cases h
        | some p => rw [h1] at h; rw [immB_ext he h1]; exact h
      | _ => exact h

theorem borrow_dep (s : Store) (v : AV) : ∃ N, ∀ s', Upto N s s' → s'.borrow v = s.borrow v := by
  cases v with
  | fn f caps =>
    obtain ⟨N, h1⟩ := borrowC_dep s caps
    exact ⟨N, fun s' h => by simp only [Store.borrow, h1 s' h]⟩
  | ptr g off =>
    obtain ⟨N, h1⟩ := immB_dep s g off
    exact ⟨N, fun s' h => by simp only [Store.borrow, h1 s' h]⟩
  | agg cs =>
    refine ⟨SizeOf.sizeOf cs, fun s' h => ?_⟩
    have : s'.borrowAll cs = s.borrowAll cs := borrowAll_dep h
    simp only [Store.borrow, this]
  | tok g n off len =>
    refine ⟨SizeOf.sizeOf (AV.tok g n off len), fun s' h => ?_⟩
    have : s'.borrow1 (.tok g n off len) = s.borrow1 (.tok g n off len) := borrow1_dep fun k hk => h k (tokOf_lt hk)
    simp only [Store.borrow, this]
  | btok g n off len =>
    refine ⟨SizeOf.sizeOf (AV.btok g n off len), fun s' h => ?_⟩
    have : s'.borrow1 (.btok g n off len) = s.borrow1 (.btok g n off len) := borrow1_dep fun k hk => h k (tokOf_lt hk)
    simp only [Store.borrow, this]
  | _ => exact ⟨0, fun _ _ => rfl⟩

theorem borrow_ext (he : ExtS s s') {v : AV} {r} (h : s.borrow v = some r) : s'.borrow v = some r := by
  cases v with
  | fn f caps =>
    simp only [Store.borrow] at h ⊢
    cases h1 : s.borrowC caps with
    | none => rw [h1] at h; cases h
    | some p => rw [h1] at h; rw [borrowC_ext he h1]; exact h
  | ptr g off =>
    simp only [Store.borrow] at h ⊢
    cases h1 : s.immB g off with
    | none => rw [h1] at h; cases h
    | some p => rw [h1] at h; rw [immB_ext he h1]; exact h
  | agg cs =>
    simp only [Store.borrow] at h ⊢
    cases h1 : s.borrowAll cs with
    | none => rw [h1] at h; cases h
    | some p => rw [h1] at h; rw [borrowAll_ext he h1]; exact h
  | tok g n off len =>
    simp only [Store.borrow] at h ⊢
    cases h1 : s.borrow1 (.tok g n off len) with
    | none => rw [h1] at h; cases h
    | some p => rw [h1] at h; rw [borrow1_ext h1 he]; exact h
  | btok g n off len =>
    simp only [Store.borrow] at h ⊢
    cases h1 : s.borrow1 (.btok g n off len) with
    | none => rw [h1] at h; cases h
    | some p => rw [h1] at h; rw [borrow1_ext h1 he]; exact h
  | _ => exact h

theorem borrows_dep (s : Store) : ∀ l : List AV, ∃ N, ∀ s', Upto N s s' → s'.borrows l = s.borrows l
  | [] => ⟨0, fun _ _ => rfl⟩
  | v :: r => by
    obtain ⟨N1, h1⟩ := borrow_dep s v
    obtain ⟨N2, h2⟩ := borrows_dep s r
    exact ⟨N1 + N2, fun s' h => by simp only [Store.borrows, h1 s' (h.le (by omega)), h2 s' (h.le (by omega))]⟩

theorem borrows_ext (he : ExtS s s') : ∀ {l : List AV} {r}, s.borrows l = some r → s'.borrows l = some r
  | [], r, h => h
  | v :: r, q, h => by
    simp only [Store.borrows] at h ⊢
    cases h1 : s.borrow v with
    | none => rw [h1] at h; cases h
    | some p =>
      cases h2 : s.borrows r with
      | none => rw [h1, h2] at h; cases h
      | some p2 =>
        rw [h1, h2] at h
        rw [borrow_ext he h1, borrows_ext he h2]
        exact h

theorem loadB_dep {T : TypeId} {x : AV} (h : ∀ g, tokOf x = some g → s'.view g = s.view g) : loadB C s' T x = loadB C s T x := by
  unfold loadB
  cases C.ty T with
  | none => rfl
  | some d =>
    cases x with
    | ptr g off =>
      have hg := h g rfl
      dsimp only
      cases h0 : s.f g with
      | none => rw [view_none hg h0]
      | some e => cases e with
        | row m l ro => obtain ⟨r, hr⟩ := view_row hg h0; rw [hr]
        | box cs ro => obtain ⟨r, hr⟩ := view_box hg h0; rw [hr]
    | eptr g n k off =>
      have hg := h g rfl
      dsimp only
      cases h0 : s.f g with
      | none => rw [view_none hg h0]
      | some e => cases e with
        | row m l ro => obtain ⟨r, hr⟩ := view_row hg h0; rw [hr]
        | box cs ro => obtain ⟨r, hr⟩ := view_box hg h0; rw [hr]
    | _ => rfl

theorem loadB_ext {T : TypeId} {x : AV} (h : (loadB C s T x).c) (he : ExtS s s') : loadB C s' T x = loadB C s T x := by
  refine loadB_dep fun g hg => he g fun h0 => ?_
  unfold loadB at h
  cases hd : C.ty T with
  | none => rw [hd] at h; exact h
  | some d => rw [hd] at h; cases x <;> simp [tokOf] at hg <;> subst hg <;> simp [h0] at h <;> exact h

theorem convB_dep' {T T' : TypeId} {x : AV} (h : ∀ g n off len, x = .tok g n off len ∨ x = .btok g n off len → s'.view g = s.view g) : convB C s' T T' x = convB C s T T' x := by
  unfold convB
  cases C.ty T with
  | none => rfl
  | some da =>
    cases C.ty T' with
    | none => rfl
    | some db =>
      cases x with
      | tok g n off len =>
        have hg := h g n off len (.inl rfl)
        obtain ⟨sha, q1, q2, q3⟩ := da
        obtain ⟨shb, r1, r2, r3⟩ := db
        cases sha <;> cases shb <;> try rfl
        next e =>
        dsimp only
        cases C.ty e with
        | none => rfl
        | some de =>
          obtain ⟨she, t1, t2, t3⟩ := de
          dsimp only
          cases she <;> try rfl
          next k =>
          cases k <;> try rfl
          rcases n with _ | _ | n <;> try rfl
          simp only [Nat.zero_add]
          cases h0 : s.f g with
          | none => rw [view_none hg h0]
          | some e => cases e with
            | row m l ro => obtain ⟨r, hr⟩ := view_row hg h0; rw [hr]; rcases m with _ | _ | m <;> rfl
            | box cs ro => obtain ⟨r, hr⟩ := view_box hg h0; rw [hr]
      | btok g n off len =>
        have hb : s'.borrow1 (.btok g n off len) = s.borrow1 (.btok g n off len) := borrow1_dep fun k hk => by cases hk; exact h g n off len (.inr rfl)
        obtain ⟨sha, q1, q2, q3⟩ := da
        obtain ⟨shb, r1, r2, r3⟩ := db
        cases sha <;> cases shb <;> try rfl
        next e =>
        dsimp only
        cases C.ty e with
        | none => rfl
        | some de =>
          obtain ⟨she, t1, t2, t3⟩ := de
          dsimp only
          cases she <;> try rfl
          next k =>
          cases k <;> try rfl
          rcases n with _ | _ | n <;> try rfl
          simp only [Nat.zero_add] at hb ⊢
          rw [hb]
      | t y =>
        obtain ⟨sha, q1, q2, q3⟩ := da
        obtain ⟨shb, r1, r2, r3⟩ := db
        cases sha <;> cases shb <;> cases y <;> try rfl
        all_goals
          dsimp only
          generalize C.ty _ = oe
          rcases oe with _ | ⟨she, t1, t2, t3⟩
          · rfl
          dsimp only
          cases she <;> try rfl
          next k =>
          cases k <;> try rfl
          try (next n l => rcases n with _ | _ | n <;> rfl)
      | _ =>
        obtain ⟨sha, q1, q2, q3⟩ := da
        obtain ⟨shb, r1, r2, r3⟩ := db
        cases sha <;> cases shb <;> first
          | rfl
          | (dsimp only
             generalize C.ty _ = oe
             rcases oe with _ | ⟨she, t1, t2, t3⟩
             · rfl
             · cases she <;> first | rfl | (next k => cases k <;> rfl))

theorem convB_dep {T T' : TypeId} {x : AV} (h : ∀ g, tokOf x = some g → s'.view g = s.view g) : convB C s' T T' x = convB C s T T' x :=
  convB_dep' fun g n off len e => h g (by rcases e with e | e <;> (rw [e]; rfl))

theorem convB_ext {T T' : TypeId} {x : AV} (h : (convB C s T T' x).c) (he : ExtS s s') : convB C s' T T' x = convB C s T T' x := by
  by_cases hx : ∃ g, tokOf x = some g ∧ s.f g = none
  · obtain ⟨g, hg, h0⟩ := hx
    exfalso
    unfold convB at h
    cases hd : C.ty T with
    | none => rw [hd] at h; exact h
    | some da =>
      cases hd' : C.ty T' with
      | none => rw [hd, hd'] at h; exact h
      | some db =>
        rw [hd, hd'] at h
        cases x <;> simp [tokOf] at hg <;> subst hg <;> dsimp only at h <;> (repeat' split at h) <;> first | exact h | (simp_all; done) | (simp_all [Store.borrow1]; done)
  · exact convB_dep fun g hg => he g fun h0 => hx ⟨g, hg, h0⟩

theorem rowsOf_dep (n : Nat) : ∀ {l : List (Nat × AV)} {k : Nat}, (∀ p ∈ l, Upto (SizeOf.sizeOf p.2.cells) s s') → rowsOf s' n k l = rowsOf s n k l
  | [], _, _ => rfl
  | (i, v) :: r, k, h => by
    have h1 : s'.borrowAll v.cells = s.borrowAll v.cells := borrowAll_dep (h (i, v) (by simp))
    have h2 : rowsOf s' n (k + 1) r = rowsOf s n (k + 1) r := rowsOf_dep n fun p hp => h p (by simp [hp])
    simp only [rowsOf, h1, h2]

theorem rowsOf_ext (he : ExtS s s') (n : Nat) : ∀ {l : List (Nat × AV)} {k : Nat} {r}, rowsOf s n k l = some r → rowsOf s' n k l = some r
  | [], _, _, h => h
  | (i, v) :: r, k, q, h => by
    simp only [rowsOf] at h ⊢
    split at h
    · next hik =>
      rw [if_pos hik]
      cases h1 : s.borrowAll v.cells with
      | none => rw [h1] at h; cases h
      | some p =>
        cases h2 : rowsOf s n (k + 1) r with
        | none => rw [h1, h2] at h; cases h
        | some p2 =>
          rw [h1, h2] at h
          rw [borrowAll_ext he h1, rowsOf_ext he n h2]
          exact h
    · cases h

end
end Go.Eng

namespace Go.Eng
section
variable {C : Ctx} {s s' : Store}

theorem okey {α : Type} {o : Option α} (h : o.isSome = true) : o ≠ none := by intro h0; rw [h0] at h; cases h

theorem map_ev {l : List Operand} {ev ev' : Operand → AV} (h : ∀ x ∈ l, ev' x = ev x) : l.map ev' = l.map ev := List.map_congr_left h

theorem opt_map_ev {x : Option Operand} {ev ev' : Operand → AV} (h : ∀ o, x = some o → ev' o = ev o) : x.map ev' = x.map ev := by
  cases x with
  | none => rfl
  | some o => simp [h o rfl]

theorem parts_ev {ps : Array (Nat × Operand)} {ev ev' : Operand → AV} (h : ∀ p ∈ ps, ev' p.2 = ev p.2) : ps.toList.map (fun p => (p.1, ev' p.2)) = ps.toList.map (fun p => (p.1, ev p.2)) :=
  List.map_congr_left fun p hp => by rw [h p (by simpa using hp)]

theorem opB_slots {ev ev' : Operand → AV} {o : Op} (h : ∀ x ∈ o.operands, ev' x = ev x) : opB C ev' s o = opB C ev s o := by
  cases o <;> simp only [opB] <;> try rfl
  case move x => rw [h x (by simp [Op.operands])]
  case assign x => rw [h x (by simp [Op.operands])]
  case pick c a b => rw [h c (by simp [Op.operands]), h a (by simp [Op.operands]), h b (by simp [Op.operands])]
  case box t x => rw [h x (by simp [Op.operands])]
  case build t ps => rw [parts_ev fun p hp => h p.2 (by simp only [Op.operands]; simpa using ⟨p.1, by simpa using hp⟩)]
  case buildSlice t n ps => rw [parts_ev fun p hp => h p.2 (by simp only [Op.operands]; simpa using ⟨p.1, by simpa using hp⟩)]
  case load t x => rw [h x (by simp [Op.operands])]
  case nilCheck x => rw [h x (by simp [Op.operands])]
  case binOp op T x y u => rw [h x (by simp [Op.operands]), h y (by simp [Op.operands])]
  case unOp op T x => rw [h x (by simp [Op.operands])]
  case convert a b x => rw [h x (by simp [Op.operands])]
  case makeFunc fn first caps => rw [map_ev (l := caps.toList) fun x hx => h x (by simp only [Op.operands]; simp; right; simpa using hx)]
  case makeSlice t l c => rw [h l (by simp [Op.operands]), h c (by simp [Op.operands])]
  case slice t x lo hi mx =>
    rw [h x (by simp [Op.operands]), opt_map_ev (x := lo) fun o ho => h o (by subst ho; simp [Op.operands]), opt_map_ev (x := hi) fun o ho => h o (by subst ho; simp [Op.operands]), opt_map_ev (x := mx) fun o ho => h o (by subst ho; simp [Op.operands])]
  case fieldAddr t x f => rw [h x (by simp [Op.operands])]
  case field t x f => rw [h x (by simp [Op.operands])]
  case indexAddr t x i => rw [h x (by simp [Op.operands]), h i (by simp [Op.operands])]
  case index t x i => rw [h x (by simp [Op.operands]), h i (by simp [Op.operands])]
  case extract x i => rw [h x (by simp [Op.operands])]
  case call c =>
    obtain ⟨callee, args, argTypes⟩ := c
    have ha : ∀ x ∈ args.toList, ev' x = ev x := fun x hx => h x (by simp only [Op.operands, Call.operands]; simp; right; simpa using hx)
    cases callee with
    | value q => dsimp only; rw [map_ev ha, h q (by simp [Op.operands, Call.operands])]
    | invoke r m => rfl
    | builtin b =>
      cases b <;> try rfl
      all_goals
        dsimp only
        split <;> first
          | rfl
          | (next hx => rw [ha _ (by rw [hx]; simp)])
          | (next hx => rw [ha _ (by rw [hx]; simp), ha _ (by rw [hx]; simp)])
          | (next _ hx => rw [ha _ (by rw [hx]; simp)])

theorem live_slots {ev ev' : Operand → AV} {o : Op} (h : ∀ x ∈ o.operands, ev' x = ev x) : liveB ev' s o = liveB ev s o := by
  cases o <;> simp only [liveB]
  case load t x => rw [h x (by simp [Op.operands])]
  case convert a b x => rw [h x (by simp [Op.operands])]
  case buildSlice t n ps =>
    have : ∀ p ∈ ps.toList, ev' p.2 = ev p.2 := fun p hp => h p.2 (by simp only [Op.operands]; simpa using ⟨p.1, by simpa using hp⟩)
    apply propext
    exact ⟨fun q p hp => by rw [← this p hp]; exact q p hp, fun q p hp => by rw [this p hp]; exact q p hp⟩
  case call c =>
    obtain ⟨callee, args, argTypes⟩ := c
    have ha : ∀ x ∈ args.toList, ev' x = ev x := fun x hx => h x (by simp only [Op.operands, Call.operands]; simp; right; simpa using hx)
    cases callee with
    | value q => dsimp only; rw [map_ev ha, h q (by simp [Op.operands, Call.operands])]
    | _ => rfl

theorem borrows_none {l : List AV} (he : ExtS s s') (h : (s.borrows l).isSome = true) : s'.borrows l = s.borrows l := by
  obtain ⟨r, hr⟩ := Option.isSome_iff_exists.1 h
  rw [hr, borrows_ext he hr]

theorem rowsOf_live (he : ExtS s s') (n : Nat) : ∀ {l : List (Nat × AV)} {k : Nat}, (∀ p ∈ l, (s.borrowAll p.2.cells).isSome = true) → rowsOf s' n k l = rowsOf s n k l
  | [], _, _ => rfl
  | (i, v) :: r, k, h => by
    obtain ⟨q, hq⟩ := Option.isSome_iff_exists.1 (h (i, v) (by simp))
    have h1 : s'.borrowAll v.cells = s.borrowAll v.cells := by rw [hq, borrowAll_ext he hq]
    have h2 : rowsOf s' n (k + 1) r = rowsOf s n (k + 1) r := rowsOf_live he n fun p hp => h p (by simp [hp])
    simp only [rowsOf, h1, h2]

theorem opB_live {ev : Operand → AV} {o : Op} (h : liveB ev s o) (he : ExtS s s') : opB C ev s' o = opB C ev s o := by
  cases o <;> simp only [opB] <;> try rfl
  case load t x =>
    simp only [liveB] at h
    generalize ev x = y at h
    cases y with
    | ptr g off => exact loadB_dep fun k hk => (by cases hk; exact he g (okey h))
    | eptr g n i off => exact loadB_dep fun k hk => (by cases hk; exact he g (okey h))
    | tok g n off len => unfold loadB; cases C.ty t <;> rfl
    | btok g n off len => unfold loadB; cases C.ty t <;> rfl
    | _ => exact loadB_dep fun k hk => (by cases hk)
  case convert a b x =>
    simp only [liveB] at h
    exact convB_dep' fun g n off len e => (by rcases e with e | e <;> (rw [e] at h; exact he g (okey h)))
  case buildSlice t n ps =>
    have : ∀ m k, rowsOf s' m k (ps.toList.map fun p => (p.1, ev p.2)) = rowsOf s m k (ps.toList.map fun p => (p.1, ev p.2)) := fun m k => rowsOf_live he m fun p hp => by
      obtain ⟨q, hq, rfl⟩ := List.mem_map.1 hp
      exact h q hq
    simp only [buildSliceB, this]
  case call c =>
    simp only [liveB] at h
    cases hc : c.callee with
    | value q =>
      rw [hc] at h
      dsimp only at h ⊢
      unfold calleeB
      cases hq : ev q with
      | fn f caps =>
        rw [hq] at h
        dsimp only at h ⊢
        simp only [callB, borrows_none he h]
      | _ => rfl
    | invoke r m => rfl
    | builtin b => cases b <;> rfl

theorem opB_bound (ev : Operand → AV) (s : Store) (o : Op) : ∃ N, ∀ s', Upto N s s' → opB C ev s' o = opB C ev s o := by
  cases o <;> simp only [opB] <;> first | exact ⟨0, fun _ _ => rfl⟩ | exact ⟨0, fun _ _ => trivial⟩ | skip
  case load t x => exact ⟨SizeOf.sizeOf (ev x), fun s' h => loadB_dep fun g hg => h g (tokOf_lt hg)⟩
  case convert a b x => exact ⟨SizeOf.sizeOf (ev x), fun s' h => convB_dep fun g hg => h g (tokOf_lt hg)⟩
  case buildSlice t n ps =>
    have hb : ∀ (l : List (Nat × AV)), ∃ N, ∀ p ∈ l, SizeOf.sizeOf p.2.cells ≤ N := by
      intro l
      induction l with
      | nil => exact ⟨0, fun p hp => by simp at hp⟩
      | cons q r ih =>
        obtain ⟨N, hN⟩ := ih
        refine ⟨max N (SizeOf.sizeOf q.2.cells), fun p hp => ?_⟩
        rcases List.mem_cons.1 hp with rfl | hp
        · omega
        · have := hN p hp; omega
    obtain ⟨N, hN⟩ := hb (ps.toList.map fun p => (p.1, ev p.2))
    refine ⟨N, fun s' h => ?_⟩
    have : ∀ m k, rowsOf s' m k (ps.toList.map fun p => (p.1, ev p.2)) = rowsOf s m k (ps.toList.map fun p => (p.1, ev p.2)) := fun m k => rowsOf_dep m fun p hp g hg => h g (by have := hN p hp; omega)
    simp only [buildSliceB, this]
  case call c =>
    cases hc : c.callee with
    | value q =>
      dsimp only
      unfold calleeB
      cases hq : ev q with
      | fn f caps =>
        dsimp only
        obtain ⟨N, h1⟩ := borrows_dep s (c.args.toList.map ev ++ caps)
        refine ⟨N, fun s' h => ?_⟩
        simp only [callB, h1 s' h]
      | _ => exact ⟨0, fun _ _ => rfl⟩
    | invoke r m => exact ⟨0, fun _ _ => rfl⟩
    | builtin b => cases b <;> exact ⟨0, fun _ _ => rfl⟩

theorem borrow1_ros {v : AV} {r} (h : s.borrow1 v = some r) : ∀ g ∈ r.2, s.f g ≠ none := by
  unfold Store.borrow1 at h
  split at h
  · cases h; intro g hg; simp at hg
  · split at h
    · next hg =>
      split at h
      · cases h; intro k hk; simp at hk; subst hk; rw [hg]; simp
      · cases h
    · cases h
  · split at h
    · next cs ro hg =>
      split at h
      · cases ht : tvs? ((cs.drop _).take _) with
        | none => rw [ht] at h; cases h
        | some c => rw [ht] at h; cases h; intro k hk; simp at hk; subst hk; rw [hg]; simp
      · cases h
    · cases h
  · cases h

theorem borrowAll_ros : ∀ {l : List AV} {r}, s.borrowAll l = some r → ∀ g ∈ r.2, s.f g ≠ none
  | [], r, h => by cases h; intro g hg; simp at hg
  | v :: l, r, h => by
    simp only [Store.borrowAll] at h
    cases h1 : s.borrow1 v with
    | none => rw [h1] at h; cases h
    | some p =>
      cases h2 : s.borrowAll l with
      | none => rw [h1, h2] at h; cases h
      | some q =>
        rw [h1, h2] at h
        cases h
        intro g hg
        rcases List.mem_append.1 hg with hg | hg
        · exact borrow1_ros h1 g hg
        · exact borrowAll_ros h2 g hg

theorem immB_ros {g off : Nat} {r} (h : s.immB g off = some r) : ∀ g ∈ r.2, s.f g ≠ none := by
  unfold Store.immB at h
  split at h
  · next cs ro hg =>
    cases h1 : s.borrowAll cs with
    | none => rw [h1] at h; cases h
    | some p =>
      rw [h1] at h; cases h
      intro k hk
      rcases List.mem_cons.1 hk with rfl | hk
      · rw [hg]; simp
      · exact borrowAll_ros h1 k hk
  · cases h

theorem borrowC_ros : ∀ {l : List AV} {r}, s.borrowC l = some r → ∀ g ∈ r.2, s.f g ≠ none
  | [], r, h => by cases h; intro g hg; simp at hg
  | v :: l, r, h => by
    simp only [Store.borrowC] at h
    split at h
    · next g off q hq =>
      cases h1 : s.immB g off with
      | none => rw [h1] at h; cases h
      | some p =>
        rw [h1] at h
        cases h
        intro g hg
        rcases List.mem_append.1 hg with hg | hg
        · exact immB_ros h1 g hg
        · exact borrowC_ros hq g hg
    · next q hq => cases h; exact borrowC_ros (r := q) hq
    · next q hq => cases h; exact borrowC_ros (r := q) hq
    · cases h

theorem borrow_ros {v : AV} {r} (h : s.borrow v = some r) : ∀ g ∈ r.2, s.f g ≠ none := by
  unfold Store.borrow at h
  split at h
  · next cs =>
    cases h1 : s.borrowAll cs with
    | none => rw [h1] at h; cases h
    | some p => rw [h1] at h; cases h; exact borrowAll_ros h1
  · next g n off len =>
    cases h1 : s.borrow1 (.tok g n off len) with
    | none => rw [h1] at h; cases h
    | some p => rw [h1] at h; cases h; exact borrow1_ros h1
  · next g n off len =>
    cases h1 : s.borrow1 (.btok g n off len) with
    | none => rw [h1] at h; cases h
    | some p => rw [h1] at h; cases h; exact borrow1_ros h1
  · cases h; intro g hg; simp at hg
  · next f caps =>
    cases h1 : s.borrowC caps with
    | none => rw [h1] at h; cases h
    | some p => rw [h1] at h; cases h; exact borrowC_ros h1
  · next g off =>
    cases h1 : s.immB g off with
    | none => rw [h1] at h; cases h
    | some p => rw [h1] at h; cases h; exact immB_ros h1
  · cases h; intro g hg; simp at hg
  · cases h

theorem borrows_ros : ∀ {l : List AV} {r}, s.borrows l = some r → ∀ g ∈ r.2, s.f g ≠ none
  | [], r, h => by cases h; intro g hg; simp at hg
  | v :: l, r, h => by
    simp only [Store.borrows] at h
    cases h1 : s.borrow v with
    | none => rw [h1] at h; cases h
    | some p =>
      cases h2 : s.borrows l with
      | none => rw [h1, h2] at h; cases h
      | some q =>
        rw [h1, h2] at h
        cases h
        intro g hg
        rcases List.mem_append.1 hg with hg | hg
        · exact borrow_ros h1 g hg
        · exact borrows_ros h2 g hg

theorem rowsOf_ros (n : Nat) : ∀ {l : List (Nat × AV)} {k : Nat} {r}, rowsOf s n k l = some r → ∀ g ∈ r.2, s.f g ≠ none
  | [], _, r, h => by cases h; intro g hg; simp at hg
  | (i, v) :: l, k, r, h => by
    simp only [rowsOf] at h
    split at h
    · cases h1 : s.borrowAll v.cells with
      | none => rw [h1] at h; cases h
      | some p =>
        cases h2 : rowsOf s n (k + 1) l with
        | none => rw [h1, h2] at h; cases h
        | some q =>
          rw [h1, h2] at h
          dsimp only at h
          split at h
          · cases h
            intro g hg
            rcases List.mem_append.1 hg with hg | hg
            · exact borrowAll_ros h1 g hg
            · exact rowsOf_ros n h2 g hg
          · cases h
    · cases h

theorem idxB_ros {T : TypeId} {x y : AV} : (idxB C T x y).ros = [] := by
  unfold idxB
  (repeat' split) <;> rfl

theorem fieldAddrB_ros {T : TypeId} {x : AV} {n : Nat} : (fieldAddrB C T x n).ros = [] := by
  unfold fieldAddrB
  (repeat' split) <;> rfl

theorem partB_ros0 {d : TyD} {cs : List AV} : (partB d cs).ros = [] := by
  unfold partB
  split <;> rfl

theorem loadB_ros {T : TypeId} {x : AV} : (loadB C s T x).ros = [] := by
  unfold loadB
  (repeat' split) <;> first | rfl | exact partB_ros0

theorem fieldB_ros {T : TypeId} {x : AV} {n : Nat} : (fieldB C T x n).ros = [] := by
  unfold fieldB
  (repeat' split) <;> first | rfl | exact partB_ros0

theorem indexB_ros {T : TypeId} {x y : AV} : (indexB C T x y).ros = [] := by
  unfold indexB
  (repeat' split) <;> rfl

theorem lenB_ros {T : TypeId} {x : AV} : (lenB C T x).ros = [] := by
  unfold lenB
  (repeat' split) <;> rfl

theorem convB_ros {T T' : TypeId} {x : AV} : (convB C s T T' x).ros = [] := by
  unfold convB
  (repeat' split) <;> rfl

theorem sliceB_ros {T : TypeId} {x : AV} {lo hi mx : Option AV} : (sliceB C T x lo hi mx).ros = [] := by
  unfold sliceB
  (repeat' split) <;> rfl

theorem unB_ros {op : UnOp} {x : AV} : (unB op x).ros = [] := by
  unfold unB
  (repeat' split) <;> rfl

theorem extB_ros {x : AV} {n : Nat} : (extB x n).ros = [] := by
  unfold extB
  (repeat' split) <;> rfl

theorem nilB_ros {x : AV} : (nilB x).ros = [] := by
  unfold nilB
  (repeat' split) <;> rfl

theorem buildB_ros {T : TypeId} {ps : List (Nat × AV)} : (buildB C T ps).ros = [] := by
  unfold buildB
  (repeat' split) <;> rfl

theorem makeSliceB_ros {T : TypeId} {x y : AV} : (makeSliceB C T x y).ros = [] := by
  unfold makeSliceB
  (repeat' split) <;> rfl

theorem minB_ros {x y : AV} : (minB x y).ros = [] := by
  unfold minB
  (repeat' split) <;> rfl

theorem maxB_ros {x y : AV} : (maxB x y).ros = [] := by
  unfold maxB
  (repeat' split) <;> rfl

theorem allocB_ros {T : TypeId} : (allocB C T).ros = [] := by
  unfold allocB
  (repeat' split) <;> rfl

theorem partB_ros {d : TyD} {cs : List AV} : (partB d cs).ros = [] := by
  unfold partB
  split <;> rfl

theorem orNone_ros {o : Option (Prop × TV)} : (orNone o).ros = [] := by cases o <;> rfl

theorem binB_ros {T : TypeId} {op : BinOp} {x y : AV} : (binB C T op x y).ros = [] := by
  unfold binB
  (repeat' split) <;> first | rfl | exact orNone_ros

theorem opB_ros {ev : Operand → AV} {o : Op} : ∀ g ∈ (opB C ev s o).ros, s.f g ≠ none := by
  have nil : ∀ {b : B}, b.ros = [] → ∀ g ∈ b.ros, s.f g ≠ none := fun h g hg => by rw [h] at hg; simp at hg
  cases o <;> simp only [opB] <;> try exact nil rfl
  case alloc t => exact nil allocB_ros
  case build t ps => exact nil buildB_ros
  case buildSlice t n ps =>
    intro g hg
    unfold buildSliceB at hg
    (repeat' split at hg) <;> first
      | (simp [B.no] at hg; done)
      | (next hr => exact rowsOf_ros _ hr g hg)
  case load t x => exact nil loadB_ros
  case nilCheck x => exact nil nilB_ros
  case binOp op T x y u => exact nil binB_ros
  case unOp op T x => exact nil unB_ros
  case convert a b x => exact nil convB_ros
  case makeFunc fn first caps => split <;> exact nil rfl
  case makeSlice t l c => exact nil makeSliceB_ros
  case slice t x lo hi mx => exact nil sliceB_ros
  case fieldAddr t x f => exact nil fieldAddrB_ros
  case field t x f => exact nil fieldB_ros
  case indexAddr t x i => exact nil idxB_ros
  case index t x i => exact nil indexB_ros
  case extract x i => exact nil extB_ros
  case call c =>
    cases hc : c.callee with
    | value q =>
      dsimp only
      unfold calleeB
      split
      · next f caps hq =>
        intro g hg
        unfold callB at hg
        split at hg
        · next hb => exact borrows_ros hb g hg
        · simp [B.val] at hg
        · simp [B.no] at hg
      · exact nil rfl
    | invoke r m => exact nil rfl
    | builtin b =>
      cases b <;> try exact nil rfl
      all_goals
        dsimp only
        split <;> first | exact nil rfl | exact nil lenB_ros | exact nil minB_ros | exact nil maxB_ros

end
end Go.Eng

namespace Go.Eng
section
variable {C : Ctx}

/-- The slots at which an operation looks. -/
def looks (x : GOp) : List Nat := (x.op.operands.toList.filterMap fun | .tmp t => some t | _ => none) ++ (match x.g with | some (d, _) => [d] | none => [])

/-- Alike at these slots, over one store. -/
def SameAt (x : GOp) (σ σ' : St) : Prop := ∀ t ∈ looks x, σ'.get t = σ.get t

theorem SameAt.ev {x : GOp} {σ σ' : St} (h : SameAt x σ σ') : ∀ o ∈ x.op.operands, σ'.ev o = σ.ev o := by
  intro o ho
  cases o with
  | tmp t => exact h t (List.mem_append_left _ (List.mem_filterMap.2 ⟨.tmp t, by simpa using ho, rfl⟩))
  | _ => rfl

theorem SameAt.g {x : GOp} {σ σ' : St} (h : SameAt x σ σ') {d : Nat} {want : Bool} (hg : x.g = some (d, want)) : σ'.get d = σ.get d :=
  h d (List.mem_append_right _ (by rw [hg]; simp))

theorem okAll_ev {ev ev' : Operand → AV} : ∀ {l : List Operand}, (∀ x ∈ l, ev' x = ev x) → okAll ev' l = okAll ev l
  | [], _ => rfl
  | x :: r, h => by
    have ih : okAll ev' r = okAll ev r := okAll_ev fun y hy => h y (List.mem_cons_of_mem _ hy)
    simp only [okAll, h x (by simp), ih]

theorem opBg_slots {s : Store} {ev ev' : Operand → AV} {o : Op} (h : ∀ x ∈ o.operands, ev' x = ev x) : opBg C ev' s o = opBg C ev s o := by
  unfold opBg
  split
  · next t n ps => rw [parts_ev fun p hp => h p.2 (by simp only [Op.operands]; simpa using ⟨p.1, by simpa using hp⟩)]
  · rw [h _ (by simp [Op.operands]), h _ (by simp [Op.operands])]
  · exact opB_slots h

theorem gB_slots {x : GOp} {σ σ' : St} (h : SameAt x σ σ') (hs : σ'.st = σ.st) : gB C x σ' = gB C x σ := by
  have hev := h.ev
  have hst : ∀ o ∈ x.op.operands, (fun o => (σ'.ev o).strip) o = (fun o => (σ.ev o).strip) o := fun o ho => by dsimp only; rw [hev o ho]
  unfold gB
  cases hg : x.g with
  | none => dsimp only; rw [hs, opB_slots hev]
  | some p =>
    obtain ⟨d, want⟩ := p
    dsimp only
    rw [h.g hg, hs]
    cases (σ.get d).wanted want with
    | none => rfl
    | some wb =>
      cases wb with
      | false => rfl
      | true =>
      dsimp only
      rw [opB_slots hev, opBg_slots hst, live_slots hst, okAll_ev (l := x.op.operands.toList) fun o ho => hev o (by simpa using ho)]

/-- Put at a slot that an operation does not touch. -/
def Clear (d : Option Nat) (x : GOp) : Prop := (∀ k, d = some k → k ∉ looks x) ∧ (∀ k, d = some k → x.dst ≠ some k)

theorem put_get {σ : St} {d : Option Nat} {v : AV} {t : Nat} (h : ∀ k, d = some k → t ≠ k) : (σ.put d v).get t = σ.get t := by
  cases d with
  | none => rfl
  | some k => simp [St.put, h k rfl]

theorem put_st (σ : St) (d : Option Nat) (v : AV) : (σ.put d v).st = σ.st := by cases d <;> rfl

theorem put_comm {σ : St} {d e : Option Nat} {v u : AV} (h : ∀ k, d = some k → e ≠ some k) : (σ.put d v).put e u = (σ.put e u).put d v := by
  cases d with
  | none => rfl
  | some k =>
    cases e with
    | none => rfl
    | some m =>
      have hne : m ≠ k := fun q => h k rfl (by rw [q])
      simp only [St.put]
      congr 1
      funext n
      by_cases h1 : n = m
      · subst h1; simp [hne]
      · simp [h1]

theorem put_same {x : GOp} {σ : St} {d : Option Nat} {v : AV} (h : ∀ k, d = some k → k ∉ looks x) : SameAt x σ (σ.put d v) :=
  fun _ ht => put_get fun k hk e => h k hk (e ▸ ht)

theorem eff_put {σ : St} {d : Option Nat} {v : AV} {ros gs : List Nat} {es : List Entry} : (σ.put d v).eff ros gs es = (σ.eff ros gs es).put d v := by cases d <;> rfl

theorem st_put {σ : St} {d : Option Nat} {v : AV} {s : Store} : ({ σ.put d v with st := s } : St) = ({ σ with st := s } : St).put d v := by cases d <;> rfl

def barOps : Bar → List Operand
  | .store _ a v => [a, v]
  | .append _ x y => [x, y]
  | .copy _ x y => [x, y]
  | .gen _ args => args

theorem barT_slots {ev ev' : Operand → AV} {b : Bar} {dst : Option Nat} {K : St → Prop} {σ : St} (h : ∀ o ∈ barOps b, ev' o = ev o) :
    barT C ev' b dst K σ = barT C ev b dst K σ := by
  cases b with
  | store t a v => simp only [barT]; rw [h a (by simp [barOps]), h v (by simp [barOps])]
  | append t x y => simp only [barT]; rw [h x (by simp [barOps]), h y (by simp [barOps])]
  | copy t x y => simp only [barT]; rw [h x (by simp [barOps]), h y (by simp [barOps])]
  | gen f args => simp only [barT]; rw [map_ev (l := args) fun o ho => h o ho]

theorem bar_operands {o : Op} {b : Bar} (h : barOf C o = some b) : ∀ x ∈ barOps b, x ∈ o.operands := by
  unfold barOf at h
  split at h
  · cases h; intro x hx; simpa [Op.operands, barOps] using hx
  · next c =>
    split at h
    · split at h
      · next hargs =>
        split at h
        · cases h
          intro x hx
          have : x ∈ c.args := by
            have h2 : x ∈ c.args.toList := by rw [hargs]; exact hx
            simpa using h2
          simp [Op.operands, Call.operands, this]
        · cases h
      · cases h
    · split at h
      · next hargs =>
        split at h
        · cases h
          intro x hx
          have : x ∈ c.args := by
            have h2 : x ∈ c.args.toList := by rw [hargs]; exact hx
            simpa using h2
          simp [Op.operands, Call.operands, this]
        · cases h
      · cases h
    · split at h
      · cases h
        intro x hx
        have : x ∈ c.args := by simpa [barOps] using hx
        simp [Op.operands, Call.operands, this]
      · cases h
    · cases h
  · cases h

/-- The states that an operation hands on. -/
def After (dst : Option Nat) (σ σ' : St) : Prop := ∃ s v, σ' = ({ σ with st := s } : St).put dst v

theorem storeT_mono {T : TypeId} {a v : AV} {K K' : Store → Prop} {s : Store} (h : ∀ s, K s → K' s) (hc : storeT C T a v K s) : storeT C T a v K' s := by
  unfold storeT at hc ⊢
  (repeat' split at hc) <;> first
    | exact hc.elim
    | exact ⟨hc.1, hc.2.1, hc.2.2.1, hc.2.2.2.1, h _ hc.2.2.2.2⟩
    | exact ⟨hc.1, hc.2.1, hc.2.2.1, hc.2.2.2.1, hc.2.2.2.2.1, hc.2.2.2.2.2.1, h _ hc.2.2.2.2.2.2⟩

theorem appendT_mono {T : TypeId} {x y : AV} {K K' : Nat → Store → Nat → Nat → Prop} {s : Store} (h : ∀ a b c d, K a b c d → K' a b c d) (hc : appendT C T x y K s) : appendT C T x y K' s := by
  unfold appendT at hc ⊢
  cases h1 : C.ty T with
  | none => rw [h1] at hc; exact hc.elim
  | some d =>
    rw [h1] at hc
    dsimp only at hc ⊢
    split at hc
    · next e hsh =>
      split at hc
      · next de hde =>
        split at hc
        · next l2 hl2 =>
          refine ⟨hc.1, hc.2.1, ?_⟩
          have hc := hc.2.2
          split at hc
          · next g n off len =>
            split at hc
            · next m l ro hg =>
              obtain ⟨a1, a2, a3, a4, a5, a6, a7⟩ := hc
              exact ⟨a1, a2, a3, a4, a5, a6, fun g' hg' => h _ _ _ _ (a7 g' hg')⟩
            · exact hc.elim
          · obtain ⟨a1, a2, a3, a4⟩ := hc
            exact ⟨a1, a2, a3, fun g' hg' => h _ _ _ _ (a4 g' hg')⟩
        · exact hc.elim
      · exact hc.elim
    · exact hc.elim

theorem copyT_mono {T : TypeId} {x y : AV} {K K' : Store → Nat → Prop} {s : Store} (h : ∀ a b, K a b → K' a b) (hc : copyT C T x y K s) : copyT C T x y K' s := by
  unfold copyT at hc ⊢
  (repeat' split at hc) <;> first
    | exact hc.elim
    | exact hc.2.elim
    | exact ⟨hc.1, hc.2.1, hc.2.2.1, hc.2.2.2.1, hc.2.2.2.2.1, h _ _ hc.2.2.2.2.2⟩

theorem copyT_ex {T : TypeId} {x y : AV} {K : Store → Nat → Prop} {s : Store} (hc : copyT C T x y K s) : ∃ a b, K a b := by
  unfold copyT at hc
  (repeat' split at hc) <;> first
    | exact hc.elim
    | exact hc.2.elim
    | exact ⟨_, _, hc.2.2.2.2.2⟩

/-- What is asked of contracts that write. -/
def ConMono (C : Ctx) : Prop := ∀ f modes G, C.con f = some (.gen modes G) → (∀ as s Q Q', (∀ r t, Q r t → Q' r t) → G as s Q → G as s Q') ∧ (∀ as s Q, G as s Q → ∃ r t, Q r t)

theorem barT_mono (hm : ConMono C) {ev : Operand → AV} {b : Bar} {dst : Option Nat} {K K' : St → Prop} {σ : St} (h : ∀ σ', After dst σ σ' → K σ' → K' σ') (hc : barT C ev b dst K σ) : barT C ev b dst K' σ := by
  cases b with
  | store t a v =>
    refine ⟨hc.1, storeT_mono (fun s hk => h _ ⟨s, .unk, ?_⟩ hk) hc.2⟩
    rw [hc.1]; rfl
  | append t x y =>
    simp only [barT] at hc ⊢
    exact appendT_mono (fun g s n len hk => h _ ⟨s, _, rfl⟩ hk) hc
  | copy t x y =>
    simp only [barT] at hc ⊢
    exact copyT_mono (fun s n hk => h _ ⟨s, _, rfl⟩ hk) hc
  | gen f args =>
    simp only [barT] at hc ⊢
    split at hc
    · next modes G hk =>
      unfold genT at hc ⊢
      split at hc
      · exact (hm f modes G hk).1 _ _ _ _ (fun r t hk => h _ ⟨t, r, rfl⟩ hk) hc
      · exact hc.elim
    · exact hc.elim

theorem gT_mono {b : B} {dst : Option Nat} {K K' : St → Prop} {σ : St} (h : ∀ σ', After dst σ σ' → K σ' → K' σ') (hc : gT b dst K σ) : gT b dst K' σ :=
  ⟨hc.1, fun gs hgs => h _ ⟨_, _, rfl⟩ (hc.2 gs hgs)⟩

theorem after_put (σ : St) (d : Option Nat) (v : AV) : After d σ (σ.put d v) := ⟨σ.st, v, rfl⟩

theorem aOp_mono (hm : ConMono C) {x : GOp} {K K' : St → Prop} {σ : St} (h : ∀ σ', After x.dst σ σ' → K σ' → K' σ') (hc : aOp C x K σ) : aOp C x K' σ := by
  unfold aOp at hc ⊢
  split at hc
  · next b hb =>
    split at hc
    · exact barT_mono hm h hc
    · split at hc
      · exact ⟨fun hw => ⟨(hc.1 hw).1, barT_mono hm h (hc.1 hw).2⟩, fun hw => h _ (after_put _ _ _) (hc.2 hw)⟩
      · exact hc.elim
  · exact gT_mono h hc

/-! ### There are always new tokens -/

theorem fresh_exists : ∀ (es : List Entry) (s : Store) (N : Nat), ∃ gs, Fresh s gs es ∧ ∀ g ∈ gs, N ≤ g
  | [], _, _ => ⟨[], trivial, fun g hg => by simp at hg⟩
  | e :: es, s, N => by
    obtain ⟨M, hM⟩ := s.fin
    obtain ⟨gs, h1, h2⟩ := fresh_exists es (s.set (max M N) (some e)) N
    refine ⟨max M N :: gs, ⟨hM _ (by omega), h1⟩, fun g hg => ?_⟩
    rcases List.mem_cons.1 hg with rfl | hg
    · omega
    · exact h2 g hg

theorem storeT_ex {T : TypeId} {a v : AV} {K : Store → Prop} {s : Store} (hc : storeT C T a v K s) : ∃ s', K s' := by
  unfold storeT at hc
  (repeat' split at hc) <;> first
    | exact hc.elim
    | exact ⟨_, hc.2.2.2.2⟩
    | exact ⟨_, hc.2.2.2.2.2.2⟩

theorem appendT_ex {T : TypeId} {x y : AV} {K : Nat → Store → Nat → Nat → Prop} {s : Store} (hc : appendT C T x y K s) : ∃ a b c d, K a b c d := by
  obtain ⟨M, hM⟩ := s.fin
  unfold appendT at hc
  split at hc
  · split at hc
    · split at hc
      · split at hc
        · have hc := hc.2.2
          split at hc
          · split at hc
            · exact ⟨_, _, _, _, hc.2.2.2.2.2.2 M (hM M (Nat.le_refl _))⟩
            · exact hc.elim
          · exact ⟨_, _, _, _, hc.2.2.2 M (hM M (Nat.le_refl _))⟩
        · exact hc.elim
      · exact hc.elim
    · exact hc.elim
  · exact hc.elim

theorem barT_ex (hm : ConMono C) {ev : Operand → AV} {b : Bar} {dst : Option Nat} {K : St → Prop} {σ : St} (hc : barT C ev b dst K σ) : ∃ σ', K σ' := by
  cases b with
  | store t a v => obtain ⟨s, h⟩ := storeT_ex hc.2; exact ⟨_, h⟩
  | append t x y =>
    simp only [barT] at hc
    obtain ⟨_, _, _, _, h⟩ := appendT_ex hc
    exact ⟨_, h⟩
  | copy t x y =>
    simp only [barT] at hc
    obtain ⟨_, _, h⟩ := copyT_ex hc
    exact ⟨_, h⟩
  | gen f args =>
    simp only [barT] at hc
    split at hc
    · next modes G hk =>
      unfold genT at hc
      split at hc
      · obtain ⟨_, _, h⟩ := (hm f modes G hk).2 _ _ _ hc; exact ⟨_, h⟩
      · exact hc.elim
    · exact hc.elim

theorem aOp_ex (hm : ConMono C) {x : GOp} {K : St → Prop} {σ : St} (hc : aOp C x K σ) : ∃ σ', K σ' := by
  unfold aOp at hc
  split at hc
  · split at hc
    · exact barT_ex hm hc
    · split at hc
      · next wb _ =>
        cases wb with
        | true => exact barT_ex hm (hc.1 rfl).2
        | false => exact ⟨_, hc.2 rfl⟩
      · exact hc.elim
  · obtain ⟨gs, h1, _⟩ := fresh_exists (gB C x σ).es (σ.st.marks (gB C x σ).ros) 0
    exact ⟨_, hc.2 gs h1⟩

/-! ### A slot that an operation does not touch -/

theorem aOp_frame {x : GOp} {K : St → Prop} {σ : St} {d : Option Nat} {v : AV} (hd : Clear d x) : aOp C x K (σ.put d v) = aOp C x (fun σ' => K (σ'.put d v)) σ := by
  have hs := put_same (v := v) (σ := σ) hd.1
  have hcm : ∀ (τ : St) (u : AV), (τ.put d v).put x.dst u = (τ.put x.dst u).put d v := fun τ u => put_comm fun k hk => hd.2 k hk
  have hbar : ∀ (ev ev' : Operand → AV) (b : Bar), barOf C x.op = some b → (∀ o ∈ x.op.operands, ev' o = ev o) → barT C ev' b x.dst K (σ.put d v) = barT C ev b x.dst (fun σ' => K (σ'.put d v)) σ := fun ev ev' b hb he => by
    rw [barT_slots (ev := ev) (ev' := ev') fun o ho => he o (bar_operands hb o ho)]
    cases b with
    | store t a v' =>
      by_cases h0 : x.dst = none
      · simp only [barT, put_st, st_put]
      · simp only [barT, h0, false_and]
    | append t p q => simp only [barT, put_st, st_put, hcm]
    | copy t p q => simp only [barT, put_st, st_put, hcm]
    | gen f args =>
      simp only [barT, put_st, st_put, hcm]
  unfold aOp
  cases hb : barOf C x.op with
  | none =>
    dsimp only
    unfold gT
    rw [gB_slots hs (put_st _ _ _)]
    simp only [put_st, eff_put, hcm]
  | some b =>
    dsimp only
    cases hg : x.g with
    | none => dsimp only; exact hbar _ _ b hb hs.ev
    | some p =>
      obtain ⟨j, want⟩ := p
      dsimp only
      rw [hs.g hg]
      cases (σ.get j).wanted want with
      | none => rfl
      | some wb =>
        dsimp only
        rw [hbar (fun o => (σ.ev o).strip) (fun o => ((σ.put d v).ev o).strip) b hb fun o ho => (by rw [hs.ev o ho]), okAll_ev (l := x.op.operands.toList) fun o ho => hs.ev o (by simpa using ho), hcm]

/-! ### Operations that hang on slots alone -/

/-- It hangs on slots alone, and makes nothing. -/
def Plain (C : Ctx) (x : GOp) : Prop := barOf C x.op = none ∧ ∀ σ σ', SameAt x σ σ' → gB C x σ' = gB C x σ ∧ (gB C x σ).ros = [] ∧ (gB C x σ).es = []

theorem plain_iff {x : GOp} (h : Plain C x) {K : St → Prop} {σ : St} : aOp C x K σ ↔ (gB C x σ).c ∧ K (σ.put x.dst ((gB C x σ).av [])) := by
  obtain ⟨_, h2, h3⟩ := h.2 σ σ fun _ _ => rfl
  unfold aOp gT
  rw [h.1]
  dsimp only
  rw [h2, h3]
  constructor
  · exact fun ⟨q1, q2⟩ => ⟨q1, q2 [] trivial⟩
  · exact fun ⟨q1, q2⟩ => ⟨q1, fun gs hgs => by cases gs with | nil => exact q2 | cons _ _ => exact hgs.elim⟩

theorem after_same {x y : GOp} {σ σ' : St} (h : After y.dst σ σ') (hc : ∀ k, y.dst = some k → k ∉ looks x) : SameAt x σ σ' := by
  obtain ⟨s, v, rfl⟩ := h
  intro t ht
  exact put_get (σ := { σ with st := s }) fun k hk e => hc k hk (e ▸ ht)

/-- The places of two operations may be changed. -/
def Comm (C : Ctx) (x y : GOp) : Prop := ∀ K σ, aOp C x (aOp C y K) σ → aOp C y (aOp C x K) σ

/-- Apart: neither looks at, nor writes, what the other writes. -/
structure Apart (x y : GOp) : Prop where
  a : ∀ k, x.dst = some k → k ∉ looks y
  b : ∀ k, y.dst = some k → k ∉ looks x
  c : ∀ k, x.dst = some k → y.dst ≠ some k

theorem comm_plain_left (hm : ConMono C) {x y : GOp} (hp : Plain C x) (ha : Apart x y) : Comm C x y := by
  intro K σ h
  obtain ⟨h1, h2⟩ := (plain_iff hp).1 h
  rw [aOp_frame ⟨ha.a, ha.c⟩] at h2
  refine aOp_mono hm (fun σ' hσ' hk => ?_) h2
  rw [plain_iff hp, (hp.2 σ σ' (after_same hσ' ha.b)).1]
  exact ⟨h1, hk⟩

theorem comm_plain_right (hm : ConMono C) {x y : GOp} (hp : Plain C y) (ha : Apart x y) : Comm C x y := by
  intro K σ h
  have h' : aOp C x (fun σ' => (gB C y σ).c ∧ K (σ'.put y.dst ((gB C y σ).av []))) σ := aOp_mono hm (fun σ' hσ' hk => by
    rw [plain_iff hp, (hp.2 σ σ' (after_same hσ' ha.a)).1] at hk
    exact hk) h
  rw [plain_iff hp]
  obtain ⟨_, q, _⟩ := aOp_ex hm h'
  refine ⟨q, ?_⟩
  rw [aOp_frame ⟨ha.b, fun k hk e => ha.c k e hk⟩]
  exact aOp_mono hm (fun σ' _ hk => hk.2) h'

end
end Go.Eng

namespace Go.Eng
section
variable {C : Ctx}

theorem noRo_mark (e : Entry) : noRo e.mark = noRo e := by cases e <;> rfl

theorem view_marks (s : Store) (ros : List Nat) (g : Nat) : (s.marks ros).view g = s.view g := by
  unfold Store.view
  rw [Store.marks_f]
  split
  · cases s.f g with
    | none => rfl
    | some e => simp [noRo_mark]
  · rfl

theorem ext_eff {s : Store} {ros gs : List Nat} {es : List Entry} (h : Fresh (s.marks ros) gs es) : ExtS s ((s.marks ros).adds gs es) := by
  intro g hg
  have hn : g ∉ gs := fun hm => by
    have h0 := fresh_notin gs es h g hm
    rw [Store.marks_f] at h0
    split at h0
    · cases h1 : s.f g with
      | none => exact hg h1
      | some e => rw [h1] at h0; cases h0
    · exact hg h0
  have : ((s.marks ros).adds gs es).view g = (s.marks ros).view g := by unfold Store.view; rw [adds_other gs es g hn]
  rw [this, view_marks]

theorem upto_eff {s : Store} {ros gs : List Nat} {es : List Entry} {N : Nat} (h : ∀ g ∈ gs, N ≤ g) : Upto N s ((s.marks ros).adds gs es) := by
  intro g hg
  have hn : g ∉ gs := fun hm => by have := h g hm; omega
  have : ((s.marks ros).adds gs es).view g = (s.marks ros).view g := by unfold Store.view; rw [adds_other gs es g hn]
  rw [this, view_marks]

structure Gentle (C : Ctx) (x : GOp) : Prop where
  bar : barOf C x.op = none
  ext : ∀ σ σ', SameAt x σ σ' → ExtS σ.st σ'.st → (gB C x σ).c → gB C x σ' = gB C x σ
  bound : ∀ σ, ∃ N, ∀ σ', SameAt x σ σ' → Upto N σ.st σ'.st → gB C x σ' = gB C x σ
  ros : ∀ σ, ∀ g ∈ (gB C x σ).ros, σ.st.f g ≠ none

theorem fresh_other {s t : Store} {gs : List Nat} {es : List Entry} (h : Fresh s gs es) (hn : ∀ g ∈ gs, t.f g = none) : Fresh t gs es := fresh_of gs es h hn

/-- Two effects in either order. -/
theorem eff_comm {s : Store} {r1 r2 g1 g2 : List Nat} {e1 e2 : List Entry} (h1 : ∀ g ∈ g1, g ∉ r2) (h2 : ∀ g ∈ g2, g ∉ r1) (h3 : ∀ g ∈ g1, g ∉ g2) (l1 : g1.length = e1.length) (l2 : g2.length = e2.length) :
    ((((s.marks r1).adds g1 e1).marks r2).adds g2 e2) = ((((s.marks r2).adds g2 e2).marks r1).adds g1 e1) := by
  apply Store.ext'
  intro k
  by_cases k1 : k ∈ g1
  · have n2 := h3 k k1
    rw [adds_other g2 e2 k n2, Store.marks_f, if_neg (h1 k k1)]
    exact adds_same g1 e1 k l1 k1
  · by_cases k2 : k ∈ g2
    · rw [adds_other (s := ((s.marks r2).adds g2 e2).marks r1) g1 e1 k k1, Store.marks_f, if_neg (h2 k k2)]
      exact adds_same g2 e2 k l2 k2
    · simp only [adds_other g2 e2 k k2, Store.marks_f, adds_other g1 e1 k k1]
      cases s.f k with
      | none => simp
      | some e => by_cases m1 : k ∈ r1 <;> by_cases m2 : k ∈ r2 <;> simp [m1, m2, mark_mark]

theorem comm_gentle {x y : GOp} (hx : Gentle C x) (hy : Gentle C y) (ha : Apart x y) : Comm C x y := by
  intro K σ h
  have hX : ∀ (σ : St) (K : St → Prop), aOp C x K σ = gT (gB C x σ) x.dst K σ := fun σ K => by unfold aOp; rw [hx.bar]
  have hY : ∀ (σ : St) (K : St → Prop), aOp C y K σ = gT (gB C y σ) y.dst K σ := fun σ K => by unfold aOp; rw [hy.bar]
  rw [hX] at h
  obtain ⟨cx, h⟩ := h
  have same : ∀ (z : GOp) (d : Option Nat) (s : Store) (v : AV), (∀ k, d = some k → k ∉ looks z) → SameAt z σ (({ σ with st := s } : St).put d v) := fun z d s v hd t ht =>
    put_get (σ := { σ with st := s }) fun k hk e => hd k hk (e ▸ ht)
  -- y's own condition
  obtain ⟨N, hN⟩ := hy.bound σ
  obtain ⟨g0, f0, b0⟩ := fresh_exists (gB C x σ).es (σ.st.marks (gB C x σ).ros) N
  have cy : (gB C y σ).c := by
    have h0 := h g0 f0
    rw [hY] at h0
    have e0 := hN _ (same y x.dst ((σ.st.marks (gB C x σ).ros).adds g0 (gB C x σ).es) ((gB C x σ).av g0) ha.a) (by rw [put_st]; exact upto_eff b0)
    rw [← e0]
    exact h0.1
  rw [hY]
  refine ⟨cy, fun gy fy => ?_⟩
  rw [hX]
  have ex : gB C x ((σ.eff (gB C y σ).ros gy (gB C y σ).es).put y.dst ((gB C y σ).av gy)) = gB C x σ :=
    hx.ext σ _ (same x y.dst _ _ ha.b) (by rw [put_st]; exact ext_eff fy) cx
  rw [ex]
  refine ⟨cx, fun gx fx => ?_⟩
  rw [put_st] at fx
  -- the tokens are apart
  have lx := fresh_len _ _ fx
  have ly := fresh_len _ _ fy
  have nxy : ∀ g ∈ gx, g ∉ gy := fun g hg hg' => by
    have h0 := fresh_notin _ _ fx g hg
    have : ((σ.eff (gB C y σ).ros gy (gB C y σ).es).st).f g ≠ none := by
      have h1 := adds_same (s := σ.st.marks (gB C y σ).ros) (t := σ.st.marks (gB C y σ).ros) gy _ g ly hg'
      have h2 : ∀ (s : Store) (gs : List Nat) (es : List Entry), gs.length = es.length → g ∈ gs → (s.adds gs es).f g ≠ none := by
        intro s gs
        induction gs generalizing s with
        | nil => intro es _ h; simp at h
        | cons a gs ih =>
          intro es hl hm
          cases es with
          | nil => simp at hl
          | cons e es =>
            simp only [Store.adds]
            by_cases hm2 : g ∈ gs
            · exact ih _ es (by simpa using hl) hm2
            · rw [adds_other gs es g hm2]
              rcases List.mem_cons.1 hm with rfl | h
              · rw [Store.set_same]; simp
              · exact absurd h hm2
      exact h2 _ gy _ ly hg'
    rw [Store.marks_f] at h0
    split at h0
    · cases hq : (σ.eff (gB C y σ).ros gy (gB C y σ).es).st.f g with
      | none => exact this hq
      | some e => rw [hq] at h0; cases h0
    · exact this h0
  have domX : ∀ g ∈ gx, σ.st.f g = none := fun g hg => by
    have h0 := fresh_notin _ _ fx g hg
    have h1 : ((σ.st.marks (gB C y σ).ros).adds gy (gB C y σ).es).f g = (σ.st.marks (gB C y σ).ros).f g := adds_other _ _ g (nxy g hg)
    rw [Store.marks_f] at h0
    have h2 : (σ.eff (gB C y σ).ros gy (gB C y σ).es).st.f g = none := by
      split at h0
      · cases hq : (σ.eff (gB C y σ).ros gy (gB C y σ).es).st.f g with
        | none => rfl
        | some e => rw [hq] at h0; cases h0
      · exact h0
    have h3 : (σ.st.marks (gB C y σ).ros).f g = none := by rw [← h1]; exact h2
    rw [Store.marks_f] at h3
    split at h3
    · cases hq : σ.st.f g with
      | none => rfl
      | some e => rw [hq] at h3; cases h3
    · exact h3
  have domY : ∀ g ∈ gy, σ.st.f g = none := fun g hg => by
    have h3 := fresh_notin _ _ fy g hg
    rw [Store.marks_f] at h3
    split at h3
    · cases hq : σ.st.f g with
      | none => rfl
      | some e => rw [hq] at h3; cases h3
    · exact h3
  have mnone : ∀ (s : Store) (r : List Nat) (g : Nat), s.f g = none → (s.marks r).f g = none := fun s r g h0 => by rw [Store.marks_f, h0]; split <;> rfl
  have fx' : Fresh (σ.st.marks (gB C x σ).ros) gx (gB C x σ).es := fresh_other fx fun g hg => mnone _ _ _ (domX g hg)
  have h1 := h gx fx'
  rw [hY] at h1
  have ey : gB C y ((σ.eff (gB C x σ).ros gx (gB C x σ).es).put x.dst ((gB C x σ).av gx)) = gB C y σ :=
    hy.ext σ _ (same y x.dst _ _ ha.a) (by rw [put_st]; exact ext_eff fx') cy
  rw [ey] at h1
  have fy' : Fresh ((σ.eff (gB C x σ).ros gx (gB C x σ).es).st.marks (gB C y σ).ros) gy (gB C y σ).es := fresh_other fy fun g hg => mnone _ _ _ (by
    have : (σ.eff (gB C x σ).ros gx (gB C x σ).es).st.f g = (σ.st.marks (gB C x σ).ros).f g := adds_other _ _ g (fun hm => nxy g hm hg)
    rw [this]
    exact mnone _ _ _ (domY g hg))
  have h2 := h1.2 gy (by rw [put_st]; exact fy')
  have est : (((σ.eff (gB C x σ).ros gx (gB C x σ).es).put x.dst ((gB C x σ).av gx)).eff (gB C y σ).ros gy (gB C y σ).es).put y.dst ((gB C y σ).av gy) =
      (((σ.eff (gB C y σ).ros gy (gB C y σ).es).put y.dst ((gB C y σ).av gy)).eff (gB C x σ).ros gx (gB C x σ).es).put x.dst ((gB C x σ).av gx) := by
    rw [eff_put, eff_put, put_comm (d := x.dst) (e := y.dst) fun k hk => ha.c k hk]
    congr 2
    unfold St.eff
    dsimp only
    rw [eff_comm (fun g hg hr => hy.ros σ g hr (domX g hg)) (fun g hg hr => hx.ros σ g hr (domY g hg)) nxy lx ly]
  rw [← est]
  exact h2

end
end Go.Eng

namespace Go.Eng
section
variable {C : Ctx} {s s' : Store}

theorem view_some {g : Nat} (h : s'.view g = s.view g) : (s'.f g).isSome = (s.f g).isSome := by
  unfold Store.view at h
  have := congrArg Option.isSome h
  simpa using this

theorem isSome_iff {α : Type} {o : Option α} (h : o ≠ none) : o.isSome = true := by cases o with | none => exact absurd rfl h | some _ => rfl

theorem ext_some {g : Nat} (he : ExtS s s') (h : (s.f g).isSome = true) : (s'.f g).isSome = true := by
  rw [view_some (he g (okey h))]; exact h

theorem live_ext {ev : Operand → AV} {o : Op} (h : liveB ev s o) (he : ExtS s s') : liveB ev s' o := by
  cases o <;> simp only [liveB] at h ⊢
  case load t x => split at h <;> first | exact ext_some he h | trivial
  case convert a b x => split at h <;> first | exact ext_some he h | trivial
  case buildSlice t n ps =>
    intro p hp
    obtain ⟨q, hq⟩ := Option.isSome_iff_exists.1 (h p hp)
    rw [borrowAll_ext he hq]; rfl
  case call c =>
    split at h
    · split at h
      · obtain ⟨q, hq⟩ := Option.isSome_iff_exists.1 h
        rw [borrows_ext he hq]; rfl
      · trivial
    · trivial

theorem sizes_bound : ∀ (l : List (Nat × AV)), ∃ N, ∀ p ∈ l, SizeOf.sizeOf p.2.cells ≤ N
  | [] => ⟨0, fun p hp => by simp at hp⟩
  | q :: r => by
    obtain ⟨N, hN⟩ := sizes_bound r
    refine ⟨max N (SizeOf.sizeOf q.2.cells), fun p hp => ?_⟩
    rcases List.mem_cons.1 hp with rfl | hp
    · omega
    · have := hN p hp; omega

theorem live_bound (ev : Operand → AV) (s : Store) (o : Op) : ∃ N, ∀ s', Upto N s s' → liveB ev s' o = liveB ev s o := by
  cases o <;> simp only [liveB] <;> first | exact ⟨0, fun _ _ => rfl⟩ | exact ⟨0, fun _ _ => trivial⟩ | skip
  case load t x =>
    refine ⟨SizeOf.sizeOf (ev x), fun s' h => ?_⟩
    generalize ev x = y at h ⊢
    cases y <;> first | rfl | (dsimp only; rw [view_some (h _ (by simp; omega))])
  case convert a b x =>
    refine ⟨SizeOf.sizeOf (ev x), fun s' h => ?_⟩
    generalize ev x = y at h ⊢
    cases y <;> first | rfl | (dsimp only; rw [view_some (h _ (by simp; omega))])
  case buildSlice t n ps =>
    obtain ⟨N, hN⟩ := sizes_bound (ps.toList.map fun p => (p.1, ev p.2))
    refine ⟨N, fun s' h => ?_⟩
    have : ∀ p ∈ ps.toList, s'.borrowAll (ev p.2).cells = s.borrowAll (ev p.2).cells := fun p hp => borrowAll_dep fun g hg => h g (by
      have := hN (p.1, ev p.2) (List.mem_map.2 ⟨p, hp, rfl⟩)
      dsimp only at this; omega)
    apply propext
    exact ⟨fun q p hp => by rw [← this p hp]; exact q p hp, fun q p hp => by rw [this p hp]; exact q p hp⟩
  case call c =>
    cases hc : c.callee with
    | value q =>
      dsimp only
      cases hq : ev q with
      | fn f caps =>
        dsimp only
        obtain ⟨N, h1⟩ := borrows_dep s (c.args.toList.map ev ++ caps)
        exact ⟨N, fun s' h => by rw [h1 s' h]⟩
      | _ => exact ⟨0, fun _ _ => rfl⟩
    | _ => exact ⟨0, fun _ _ => rfl⟩

theorem c_live {ev : Operand → AV} {o : Op} (h : (opB C ev s o).c) : liveB ev s o := by
  cases o <;> simp only [liveB]
  case load t x =>
    simp only [opB, loadB] at h
    split at h
    · split at h
      · next hx => rw [hx]; trivial
      · next hx =>
        rw [hx]; dsimp only
        split at h
        · next hg => rw [hg]; rfl
        · exact h.elim
      · next hx =>
        rw [hx]; dsimp only
        split at h
        · next hg => rw [hg]; rfl
        · exact h.elim
      · exact h.elim
    · exact h.elim
  case convert a b x =>
    simp only [opB] at h
    split
    · next g n off len hx =>
      rw [hx] at h
      unfold convB at h
      (repeat' split at h) <;> first
        | exact h.elim
        | (next hg _ _ => rw [hg]; rfl)
        | (simp_all; done)
    · next g n off len hx =>
      rw [hx] at h
      cases hf : s.f g with
      | some _ => rfl
      | none =>
        exfalso
        unfold convB at h
        (repeat' split at h) <;> first
          | exact h.elim
          | (simp_all [Store.borrow1]; done)
    · trivial
  case buildSlice t n ps =>
    simp only [opB, buildSliceB] at h
    intro p hp
    have key : ∀ (m : Nat) (l : List (Nat × AV)) (k : Nat) (r : List (List TV) × List Nat), rowsOf s m k l = some r → ∀ p ∈ l, (s.borrowAll p.2.cells).isSome = true := by
      intro m l
      induction l with
      | nil => intro k r _ p hp; simp at hp
      | cons q l ih =>
        obtain ⟨i, v⟩ := q
        intro k r hr p hp
        simp only [rowsOf] at hr
        split at hr
        · cases h1 : s.borrowAll v.cells with
          | none => rw [h1] at hr; cases hr
          | some a =>
            cases h2 : rowsOf s m (k + 1) l with
            | none => rw [h1, h2] at hr; cases hr
            | some b =>
              rcases List.mem_cons.1 hp with rfl | hp
              · rw [h1]; rfl
              · exact ih _ _ h2 p hp
        · cases hr
    (repeat' split at h) <;> first
      | exact h.elim
      | (next hr => exact key _ _ _ _ hr (p.1, ev p.2) (List.mem_map.2 ⟨p, hp, rfl⟩))
  case call c =>
    simp only [opB] at h
    split
    · next q hq =>
      rw [hq] at h
      dsimp only at h
      split
      · next f caps hf =>
        rw [hf] at h
        unfold calleeB callB at h
        dsimp only at h
        split at h
        · next hb => rw [hb]; rfl
        · next hb => rw [hb]; rfl
        · exact h.elim
      · trivial
    · trivial

theorem opBg_live {ev : Operand → AV} {o : Op} (h : liveB ev s o) (he : ExtS s s') : opBg C ev s' o = opBg C ev s o := by
  unfold opBg
  split
  · next t n ps =>
    have : ∀ m k, rowsOf s' m k (ps.toList.map fun p => (p.1, ev p.2)) = rowsOf s m k (ps.toList.map fun p => (p.1, ev p.2)) := fun m k => rowsOf_live he m fun p hp => by
      obtain ⟨q, hq, rfl⟩ := List.mem_map.1 hp
      exact h q hq
    simp only [litB, this]
  · rfl
  · exact opB_live h he

theorem opBg_bound (ev : Operand → AV) (s : Store) (o : Op) : ∃ N, ∀ s', Upto N s s' → opBg C ev s' o = opBg C ev s o := by
  unfold opBg
  split
  · next t n ps =>
    obtain ⟨N, hN⟩ := sizes_bound (ps.toList.map fun p => (p.1, ev p.2))
    refine ⟨N, fun s' h => ?_⟩
    have : ∀ m k, rowsOf s' m k (ps.toList.map fun p => (p.1, ev p.2)) = rowsOf s m k (ps.toList.map fun p => (p.1, ev p.2)) := fun m k => rowsOf_dep m fun p hp g hg => h g (by have := hN p hp; omega)
    simp only [litB, this]
  · exact ⟨0, fun _ _ => rfl⟩
  · exact opB_bound ev s o

theorem pick_st {ev : Operand → AV} {o : Op} (h : isPick o = true) : opB C ev s' o = opB C ev s o := by
  cases o <;> first | rfl | (simp [isPick] at h)

theorem gB_ext {x : GOp} {τ : St} (he : ExtS s s') (hc : (gB C x { τ with st := s }).c) : gB C x { τ with st := s' } = gB C x { τ with st := s } := by
  unfold gB at hc ⊢
  cases hg : x.g with
  | none =>
    rw [hg] at hc
    dsimp only at hc ⊢
    exact opB_live (c_live hc) he
  | some p =>
    obtain ⟨d, want⟩ := p
    rw [hg] at hc
    dsimp only at hc ⊢
    cases hw : (τ.get d).wanted want with
    | none => rfl
    | some wb =>
      cases wb with
      | false => rfl
      | true =>
      rw [hw] at hc
      dsimp only at hc ⊢
      obtain ⟨_, hl⟩ := hc
      have hl' := live_ext hl he
      have e1 : opBg C (fun x => (({ τ with st := s' } : St).ev x).strip) s' x.op = opBg C (fun x => (({ τ with st := s } : St).ev x).strip) s x.op := opBg_live hl he
      have e2 : liveB (fun x => (({ τ with st := s' } : St).ev x).strip) s' x.op = liveB (fun x => (({ τ with st := s } : St).ev x).strip) s x.op := propext ⟨fun _ => hl, fun _ => hl'⟩
      have e3 : isPick x.op = true → opB C ({ τ with st := s' } : St).ev s' x.op = opB C ({ τ with st := s } : St).ev s x.op := fun h => pick_st h
      have e4 : okAll ({ τ with st := s' } : St).ev x.op.operands.toList = okAll ({ τ with st := s } : St).ev x.op.operands.toList := rfl
      rw [e1, e2, e4]
      cases hp : isPick x.op with
      | true => simp only [if_true, e3 hp]
      | false => rfl

theorem gB_bound {x : GOp} {τ : St} (s : Store) : ∃ N, ∀ s', Upto N s s' → gB C x { τ with st := s' } = gB C x { τ with st := s } := by
  obtain ⟨N1, h1⟩ := opB_bound (C := C) τ.ev s x.op
  obtain ⟨N2, h2⟩ := opBg_bound (C := C) (fun o => (τ.ev o).strip) s x.op
  obtain ⟨N3, h3⟩ := live_bound (fun o => (τ.ev o).strip) s x.op
  refine ⟨max N1 (max N2 N3), fun s' h => ?_⟩
  have u1 : Upto N1 s s' := fun g hg => h g (by omega)
  have u2 : Upto N2 s s' := fun g hg => h g (by omega)
  have u3 : Upto N3 s s' := fun g hg => h g (by omega)
  have f1 : opB C ({ τ with st := s' } : St).ev s' x.op = opB C ({ τ with st := s } : St).ev s x.op := h1 s' u1
  have f2 : opBg C (fun o => (({ τ with st := s' } : St).ev o).strip) s' x.op = opBg C (fun o => (({ τ with st := s } : St).ev o).strip) s x.op := h2 s' u2
  have f3 : liveB (fun o => (({ τ with st := s' } : St).ev o).strip) s' x.op = liveB (fun o => (({ τ with st := s } : St).ev o).strip) s x.op := h3 s' u3
  unfold gB
  cases hg : x.g with
  | none => exact f1
  | some p =>
    obtain ⟨d, want⟩ := p
    dsimp only
    cases hw : (τ.get d).wanted want with
    | none => rfl
    | some wb =>
      cases wb with
      | false => rfl
      | true =>
      dsimp only
      rw [f1, f2, f3]
      rfl

theorem litB_ros {T : TypeId} {n : Nat} {l : List (Nat × AV)} : (litB C s T n l).ros = [] := by
  unfold litB
  (repeat' split) <;> rfl

theorem opBg_ros {ev : Operand → AV} {s : Store} {op : Op} : ∀ g ∈ (opBg C ev s op).ros, s.f g ≠ none := by
  unfold opBg
  split
  · intro g hg; rw [litB_ros] at hg; cases hg
  · intro g hg
    have z : ∀ (T : TypeId) (x y : AV), (madeB C T x y).ros = [] := fun T x y => by
      unfold madeB
      (repeat' split) <;> rfl
    rw [z] at hg; cases hg
  · exact opB_ros

theorem gB_ros {x : GOp} {σ : St} : ∀ g ∈ (gB C x σ).ros, σ.st.f g ≠ none := by
  unfold gB
  cases x.g with
  | none => exact opB_ros
  | some p =>
    dsimp only
    cases (σ.get p.1).wanted p.2 with
    | none => intro g hg; simp [B.no] at hg
    | some wb =>
      cases wb with
      | false => intro g hg; simp [B.val] at hg
      | true =>
        dsimp only
        cases isPick x.op with
        | true => rw [if_pos rfl]; exact opB_ros
        | false => rw [if_neg (by simp)]; exact opBg_ros

theorem gentle_of {x : GOp} (h : barOf C x.op = none) : Gentle C x where
  bar := h
  ext σ σ' hs he hc := by
    have e1 : gB C x { σ' with st := σ.st } = gB C x σ := gB_slots (fun t ht => hs t ht) rfl
    have e2 : gB C x { σ' with st := σ'.st } = gB C x { σ' with st := σ.st } := gB_ext he (by rw [e1]; exact hc)
    exact e2.trans e1
  bound σ := by
    obtain ⟨N, hN⟩ := gB_bound (C := C) (x := x) (τ := σ) σ.st
    refine ⟨N, fun σ' hs hu => ?_⟩
    have e1 : gB C x σ' = gB C x { σ with st := σ'.st } := gB_slots (σ := { σ with st := σ'.st }) (fun t ht => hs t ht) rfl
    exact e1.trans (hN _ hu)
  ros σ := gB_ros

end
end Go.Eng

namespace Go.Eng
section
variable {C : Ctx} {P : Program} {N : Nat}

theorem sliceB_es {T : TypeId} {x : AV} {lo hi mx : Option AV} : (sliceB C T x lo hi mx).es = [] := by
  unfold sliceB
  (repeat' split) <;> rfl
theorem idxB_es {T : TypeId} {x y : AV} : (idxB C T x y).es = [] := by unfold idxB; (repeat' split) <;> rfl
theorem fieldAddrB_es {T : TypeId} {x : AV} {n : Nat} : (fieldAddrB C T x n).es = [] := by unfold fieldAddrB; (repeat' split) <;> rfl
theorem partB_es {d : TyD} {cs : List AV} : (partB d cs).es = [] := by unfold partB; split <;> rfl
theorem fieldB_es {T : TypeId} {x : AV} {n : Nat} : (fieldB C T x n).es = [] := by unfold fieldB; (repeat' split) <;> first | rfl | exact partB_es
theorem indexB_es {T : TypeId} {x y : AV} : (indexB C T x y).es = [] := by unfold indexB; (repeat' split) <;> rfl
theorem lenB_es {T : TypeId} {x : AV} : (lenB C T x).es = [] := by unfold lenB; (repeat' split) <;> rfl
theorem unB_es {op : UnOp} {x : AV} : (unB op x).es = [] := by unfold unB; (repeat' split) <;> rfl
theorem extB_es {x : AV} {n : Nat} : (extB x n).es = [] := by unfold extB; (repeat' split) <;> rfl
theorem nilB_es {x : AV} : (nilB x).es = [] := by unfold nilB; (repeat' split) <;> rfl
theorem buildB_es {T : TypeId} {ps : List (Nat × AV)} : (buildB C T ps).es = [] := by unfold buildB; (repeat' split) <;> rfl
theorem minB_es {x y : AV} : (minB x y).es = [] := by unfold minB; (repeat' split) <;> rfl
theorem maxB_es {x y : AV} : (maxB x y).es = [] := by unfold maxB; (repeat' split) <;> rfl
theorem orNone_es {o : Option (Prop × TV)} : (orNone o).es = [] := by cases o <;> rfl
theorem binB_es {T : TypeId} {op : BinOp} {x y : AV} : (binB C T op x y).es = [] := by unfold binB; (repeat' split) <;> first | rfl | exact orNone_es

theorem opB_plain {ev : Operand → AV} {s s' : Store} {o : Op} (h : isPlain o = true) : opB C ev s' o = opB C ev s o ∧ (opB C ev s o).ros = [] ∧ (opB C ev s o).es = [] ∧ (∀ ev' s, liveB ev' s o) ∧ opBg C ev s o = opB C ev s o ∧ barOf C o = none := by
  cases o <;> first | (simp [isPlain] at h; done) | skip
  case call c =>
    obtain ⟨callee, args, argTypes⟩ := c
    cases callee with
    | value q => simp [isPlain] at h
    | invoke r m => simp [isPlain] at h
    | builtin b =>
      cases b <;> first | (simp [isPlain] at h; done) | skip
      all_goals
        refine ⟨rfl, ?_, ?_, fun _ _ => trivial, rfl, rfl⟩
        · simp only [opB]; split <;> first | rfl | exact lenB_ros | exact minB_ros | exact maxB_ros
        · simp only [opB]; split <;> first | rfl | exact lenB_es | exact minB_es | exact maxB_es
  case makeFunc fn first caps =>
    refine ⟨rfl, ?_, ?_, fun _ _ => trivial, rfl, rfl⟩
    · simp only [opB]; split <;> rfl
    · simp only [opB]; split <;> rfl
  all_goals
    refine ⟨rfl, ?_, ?_, fun _ _ => trivial, rfl, rfl⟩ <;> simp only [opB] <;> first
      | rfl
      | exact buildB_ros | exact buildB_es | exact nilB_ros | exact nilB_es | exact binB_ros | exact binB_es | exact unB_ros | exact unB_es | exact sliceB_ros | exact sliceB_es
      | exact fieldAddrB_ros | exact fieldAddrB_es | exact fieldB_ros | exact fieldB_es | exact idxB_ros | exact idxB_es | exact indexB_ros | exact indexB_es | exact extB_ros | exact extB_es

theorem plain_of {x : GOp} (h : isPlain x.op = true) : Plain C x := by
  have hp := fun (ev : Operand → AV) (s s' : Store) => opB_plain (C := C) (ev := ev) (s := s) (s' := s') h
  refine ⟨(hp (fun _ => .unk) .empty .empty).2.2.2.2.2, fun σ σ' hs => ?_⟩
  have e1 : gB C x { σ' with st := σ.st } = gB C x σ := gB_slots (fun t ht => hs t ht) rfl
  refine ⟨?_, ?_, ?_⟩
  · rw [← e1]
    unfold gB
    cases x.g with
    | none => exact (hp _ _ _).1
    | some p =>
      obtain ⟨d, want⟩ := p
      dsimp only
      cases (σ'.get d).wanted want with
      | none => rfl
      | some wb =>
        cases wb with
        | false => rfl
        | true =>
        dsimp only
        have q1 : opB C σ'.ev σ'.st x.op = opB C ({ σ' with st := σ.st } : St).ev σ.st x.op := (hp _ _ _).1
        have q2 : opBg C (fun o => (σ'.ev o).strip) σ'.st x.op = opBg C (fun o => (({ σ' with st := σ.st } : St).ev o).strip) σ.st x.op := by
          rw [(hp _ σ'.st σ'.st).2.2.2.2.1, (hp _ σ.st σ.st).2.2.2.2.1]; exact (hp _ _ _).1
        have q3 : liveB (fun o => (σ'.ev o).strip) σ'.st x.op = liveB (fun o => (({ σ' with st := σ.st } : St).ev o).strip) σ.st x.op :=
          propext ⟨fun _ => (hp (fun _ => .unk) .empty .empty).2.2.2.1 _ _, fun _ => (hp (fun _ => .unk) .empty .empty).2.2.2.1 _ _⟩
        rw [q1, q2, q3]
        rfl
  · unfold gB
    cases x.g with
    | none => exact (hp _ _ σ.st).2.1
    | some p =>
      dsimp only
      cases (σ.get p.1).wanted p.2 with
      | none => rfl
      | some wb =>
        cases wb with
        | false => rfl
        | true =>
          dsimp only
          cases isPick x.op with
          | true => rw [if_pos rfl]; exact (hp _ _ σ.st).2.1
          | false => rw [if_neg (by simp), (hp _ _ σ.st).2.2.2.2.1]; exact (hp _ _ σ.st).2.1
  · unfold gB
    cases x.g with
    | none => exact (hp _ _ σ.st).2.2.1
    | some p =>
      dsimp only
      cases (σ.get p.1).wanted p.2 with
      | none => rfl
      | some wb =>
        cases wb with
        | false => rfl
        | true =>
          dsimp only
          cases isPick x.op with
          | true => rw [if_pos rfl]; exact (hp _ _ σ.st).2.2.1
          | false => rw [if_neg (by simp), (hp _ _ σ.st).2.2.2.2.1]; exact (hp _ _ σ.st).2.2.1

theorem looks_eq {ops : Array Oper} {o : Oper} (h : dstOk N ops o = true) : ∀ t, t ∈ looks (opToG ops o) ↔ t ∈ o.looksAt ops := by
  intro t
  unfold looks Oper.looksAt opToG
  dsimp only
  cases hg : o.guard with
  | none => simp; rfl
  | some p =>
    obtain ⟨j, want⟩ := p
    obtain ⟨d, hd, _⟩ := (dst_ok h).2 j want hg
    simp only [hd, List.mem_append]
    simp; rfl

/-! ### What is appended first may be appended later: any gentle operation may go ahead of it -/

def Store.dropO (s : Store) : Option Nat → Store
  | some g => s.set g none
  | none => s

theorem rowsAt_ext {s s' : Store} (he : ExtS s s') {y : AV} {l : List (List TV)} (h : s.rowsAt y = some l) : s'.rowsAt y = some l := by
  unfold Store.rowsAt at h ⊢
  split at h
  · exact h
  · exact h
  · exact h
  · exact h
  · rw [Option.bind_eq_some_iff] at h
    obtain ⟨p, h1, h2⟩ := h
    rw [borrow1_ext h1 he]
    exact h2
  · rw [Option.bind_eq_some_iff] at h
    obtain ⟨p, h1, h2⟩ := h
    rw [borrow1_ext h1 he]
    exact h2
  · cases h

theorem append_spec {T : TypeId} {x y : AV} {K : Nat → Store → Nat → Nat → Prop} {s : Store} (h : appendT C T x y K s) :
    ∃ (o : Option Nat) (e : Entry) (n len : Nat), (∀ g, o = some g → s.f g ≠ none) ∧ (∀ g', s.f g' = none → K g' ((s.dropO o).set g' (some e)) n len) ∧
      ∀ (s2 : Store) (K2 : Nat → Store → Nat → Nat → Prop), ExtS s s2 → (∀ g, o = some g → s2.f g = s.f g) → (∀ g', s2.f g' = none → K2 g' ((s2.dropO o).set g' (some e)) n len) → appendT C T x y K2 s2 := by
  unfold appendT at h
  split at h
  · next d hd =>
    split at h
    · next el hsh =>
      split at h
      · next de hde =>
        split at h
        · next l2 hl2 =>
          obtain ⟨h1, h2, h3⟩ := h
          split at h3
          · next g n off len =>
            split at h3
            · next m l ro hg =>
              obtain ⟨a1, a2, a3, a4, a5, a6, a7⟩ := h3
              refine ⟨some g, _, _, _, fun k hk => by cases hk; rw [hg]; simp, a7, fun s2 K2 he hk hK => ?_⟩
              unfold appendT
              simp only [hd, hsh, hde, rowsAt_ext he hl2]
              refine ⟨h1, h2, ?_⟩
              rw [hk g rfl, hg]
              exact ⟨a1, a2, a3, a4, a5, a6, hK⟩
            · exact h3.elim
          · next hnt =>
            obtain ⟨a1, a2, a3, a4⟩ := h3
            refine ⟨none, .row de.size l2 false, de.size, l2.length, (fun k hk => by cases hk), a4, fun s2 K2 he hk hK => ?_⟩
            unfold appendT
            simp only [hd, hsh, hde, rowsAt_ext he hl2]
            refine ⟨h1, h2, ?_⟩
            cases x with
            | tok g n off len => exact (hnt _ _ _ _ rfl).elim
            | t v => cases v <;> first | exact ⟨a1, a2, a3, hK⟩ | cases a1
            | _ => cases a1
        · exact h.elim
      · exact h.elim
    · exact h.elim
  · exact h.elim

theorem dropO_other {s : Store} {o : Option Nat} {k : Nat} (h : o ≠ some k) : (s.dropO o).f k = s.f k := by
  cases o with
  | none => rfl
  | some g => exact Store.set_other _ _ fun e => h (by rw [e])
theorem dropO_none {s : Store} {o : Option Nat} {k : Nat} (h : s.f k = none) : (s.dropO o).f k = none := by
  cases o with
  | none => exact h
  | some g =>
    by_cases hk : k = g
    · subst hk; exact Store.set_same _ _ _
    · exact (Store.set_other _ _ hk).trans h
theorem dropO_same {s : Store} {g : Nat} : (s.dropO (some g)).f g = none := Store.set_same _ _ _

theorem live_adds : ∀ (gs : List Nat) (es : List Entry) (s : Store) (g : Nat), gs.length = es.length → g ∈ gs → (s.adds gs es).f g ≠ none
  | [], _, _, _, _, h => by simp at h
  | a :: gs, [], _, _, hl, _ => by simp at hl
  | a :: gs, e :: es, s, g, hl, hm => by
    simp only [Store.adds]
    by_cases hm2 : g ∈ gs
    · exact live_adds gs es _ g (by simpa using hl) hm2
    · rw [adds_other gs es g hm2]
      rcases List.mem_cons.1 hm with rfl | h
      · rw [Store.set_same]; simp
      · exact absurd h hm2

theorem comm_append_core {x y : GOp} (hy : Gentle C y) (ha : Apart x y) {T : TypeId} {u v : AV} {K : St → Prop} {σ : St}
    (h : appendT C T u v (fun g s n len => aOp C y K (({ σ with st := s } : St).put x.dst (.tok g n 0 len))) σ.st) :
    gT (gB C y σ) y.dst (fun σ' => ∃ s2 w, σ' = ({ σ with st := s2 } : St).put y.dst w ∧ appendT C T u v (fun g s n len => K ((({ σ with st := s } : St).put x.dst (.tok g n 0 len)).put y.dst w)) s2) σ := by
  have hY : ∀ (σ : St) (K : St → Prop), aOp C y K σ = gT (gB C y σ) y.dst K σ := fun σ K => by unfold aOp; rw [hy.bar]
  obtain ⟨o, e, n, len, h1, h2, h3⟩ := append_spec h
  have same : ∀ (d : Option Nat) (s s' : Store) (v : AV), (∀ k, d = some k → k ∉ looks y) → SameAt y { σ with st := s } (({ σ with st := s' } : St).put d v) := fun d s s' v hd t ht =>
    put_get (σ := { σ with st := s' }) fun k hk e => hd k hk (e ▸ ht)
  -- at the store without the old list
  obtain ⟨N, hN⟩ := hy.bound { σ with st := σ.st.dropO o }
  obtain ⟨M, hM⟩ := σ.st.fin
  have ct : (gB C y { σ with st := σ.st.dropO o }).c := by
    have h0 := h2 (max N M) (hM _ (Nat.le_max_right _ _))
    rw [hY] at h0
    have e0 := hN _ (same x.dst (σ.st.dropO o) ((σ.st.dropO o).set (max N M) (some e)) (.tok (max N M) n 0 len) ha.a) (by
      rw [put_st]
      intro g hg
      have : g ≠ max N M := by omega
      unfold Store.view
      rw [Store.set_other _ _ this])
    rw [← e0]
    exact h0.1
  have e1 : ∀ g', σ.st.f g' = none → gB C y (({ σ with st := (σ.st.dropO o).set g' (some e) } : St).put x.dst (.tok g' n 0 len)) = gB C y { σ with st := σ.st.dropO o } := fun g' hg' =>
    hy.ext _ _ (same x.dst _ _ _ ha.a) (by
      rw [put_st]
      intro g hg
      have : g ≠ g' := fun hh => hg (by rw [hh]; exact dropO_none hg')
      unfold Store.view
      rw [Store.set_other _ _ this]) ct
  have e2 : gB C y σ = gB C y { σ with st := σ.st.dropO o } := hy.ext { σ with st := σ.st.dropO o } σ (fun _ _ => rfl) (by
    intro g hg
    have : o ≠ some g := fun hh => hg (by
      change (σ.st.dropO o).f g = none
      rw [hh]; exact dropO_same)
    unfold Store.view
    change (σ.st.f g).map noRo = ((σ.st.dropO o).f g).map noRo
    rw [dropO_other this]) ct
  have ros := hy.ros { σ with st := σ.st.dropO o }
  generalize hb : gB C y { σ with st := σ.st.dropO o } = b at *
  rw [e2]
  refine ⟨ct, fun gs fs => ⟨_, _, rfl, ?_⟩⟩
  have ll := fresh_len _ _ fs
  have hgs : ∀ g ∈ gs, σ.st.f g = none := fun g hg => by
    have h0 := fresh_notin _ _ fs g hg
    rw [Store.marks_f] at h0
    split at h0
    · cases hq : σ.st.f g with
      | none => rfl
      | some e => rw [hq] at h0; cases h0
    · exact h0
  have ho : ∀ g, o = some g → g ∉ b.ros ∧ g ∉ gs := fun g hg => ⟨fun hr => ros g hr (by
    change (σ.st.dropO o).f g = none
    rw [hg]; exact dropO_same), fun hm => h1 g hg (hgs g hm)⟩
  refine h3 _ _ (ext_eff fs) (fun g hg => ?_) fun g' hg' => ?_
  · rw [adds_other gs _ g (ho g hg).2, Store.marks_f, if_neg (ho g hg).1]
  · have hng : g' ∉ gs := fun hm => live_adds gs _ _ g' ll hm hg'
    have hsg : σ.st.f g' = none := by
      rw [adds_other gs _ g' hng, Store.marks_f] at hg'
      split at hg'
      · cases hq : σ.st.f g' with
        | none => rfl
        | some e => rw [hq] at hg'; cases hg'
      · exact hg'
    have hr' : g' ∉ b.ros := fun hm => ros g' hm (dropO_none hsg)
    have h4 := h2 g' hsg
    rw [hY, e1 g' hsg] at h4
    have h5 := h4.2 gs (by
      rw [put_st]
      refine fresh_other fs fun g hg => ?_
      rw [Store.marks_f]
      have hgg : g ≠ g' := fun hh => hng (hh ▸ hg)
      have : ((σ.st.dropO o).set g' (some e)).f g = none := by rw [Store.set_other _ _ hgg]; exact dropO_none (hgs g hg)
      split
      · rw [this]; rfl
      · exact this)
    have hst : (((σ.st.dropO o).set g' (some e)).marks b.ros).adds gs b.es = (((σ.st.marks b.ros).adds gs b.es).dropO o).set g' (some e) := by
      apply Store.ext'
      intro k
      by_cases hk : k = g'
      · subst hk
        rw [adds_other gs _ k hng, Store.marks_f, if_neg hr', Store.set_same, Store.set_same]
      · rw [Store.set_other (((σ.st.marks b.ros).adds gs b.es).dropO o) _ hk]
        by_cases hks : k ∈ gs
        · have hok : o ≠ some k := fun hh => (ho k hh).2 hks
          rw [dropO_other hok]
          exact adds_same gs _ k ll hks
        · rw [adds_other gs _ k hks, Store.marks_f, Store.set_other _ _ hk]
          by_cases hok : o = some k
          · rw [hok, dropO_same, dropO_same]
            split <;> rfl
          · rw [dropO_other hok, dropO_other hok, adds_other gs _ k hks, Store.marks_f]
    rw [eff_put] at h5
    have e5 : (({ σ with st := (σ.st.dropO o).set g' (some e) } : St).eff b.ros gs b.es) = { σ with st := (((σ.st.marks b.ros).adds gs b.es).dropO o).set g' (some e) } := by
      unfold St.eff
      rw [← hst]
    rw [e5] at h5
    exact h5

/-- **An append, and a gentle operation behind it in the text: the other order follows.** -/
theorem comm_append (hm : ConMono C) {x y : GOp} {T : TypeId} {p q : Operand} (hx : barOf C x.op = some (.append T p q)) (hy : Gentle C y) (ha : Apart x y) : Comm C x y := by
  intro K σ h
  have hY : ∀ (σ : St) (K : St → Prop), aOp C y K σ = gT (gB C y σ) y.dst K σ := fun σ K => by unfold aOp; rw [hy.bar]
  have hop := bar_operands hx
  have core : ∀ (ev : St → Operand → AV), (∀ σ s, ev { σ with st := s } = ev σ) → (∀ (σ : St) d v o, (∀ k, d = some k → k ∉ looks x) → o ∈ x.op.operands → ev (σ.put d v) o = ev σ o) →
      appendT C T (ev σ p) (ev σ q) (fun g s n len => aOp C y K (({ σ with st := s } : St).put x.dst (.tok g n 0 len))) σ.st →
      gT (gB C y σ) y.dst (fun σ' => (∃ s2 w, σ' = ({ σ with st := s2 } : St).put y.dst w) ∧ appendT C T (ev σ' p) (ev σ' q) (fun g s n len => K (({ σ' with st := s } : St).put x.dst (.tok g n 0 len))) σ'.st) σ := by
    intro ev hev1 hev2 hc
    refine gT_mono (fun σ' _ hk => ?_) (comm_append_core hy ha hc)
    obtain ⟨s2, w, rfl, h2⟩ := hk
    refine ⟨⟨s2, w, rfl⟩, ?_⟩
    rw [hev2 _ _ _ _ ha.b (hop p (by simp [barOps])), hev2 _ _ _ _ ha.b (hop q (by simp [barOps])), hev1, put_st]
    refine appendT_mono (fun a b c d hk => ?_) h2
    rw [st_put, put_comm fun k hk e => ha.c k e hk]
    exact hk
  have hsame : ∀ (σ : St) d v o, (∀ k, d = some k → k ∉ looks x) → o ∈ x.op.operands → (σ.put d v).ev o = σ.ev o := fun σ d v o hd ho => (put_same (x := x) (σ := σ) (v := v) hd).ev o ho
  rw [hY]
  cases hg : x.g with
  | none =>
    have hgo : ∀ (K : St → Prop) (σ' : St), aOp C x K σ' = barT C σ'.ev (.append T p q) x.dst K σ' := fun K σ' => by
      unfold aOp
      simp only [hx, hg]
    rw [hgo] at h
    refine gT_mono (fun σ' _ hk => ?_) (core (fun σ => σ.ev) (fun _ _ => by funext o; cases o <;> rfl) hsame h)
    rw [hgo]
    exact hk.2
  | some jw =>
    obtain ⟨j, want⟩ := jw
    have hj : ∀ (σ' : St), (∃ s2 w, σ' = ({ σ with st := s2 } : St).put y.dst w) → σ'.get j = σ.get j := by
      rintro σ' ⟨s2, w, rfl⟩
      exact (put_same (x := x) (σ := { σ with st := s2 }) (v := w) ha.b).g hg
    have hgo : ∀ (K : St → Prop) (σ' : St), aOp C x K σ' = match (σ'.get j).wanted want with
      | some wb => (wb = true → okAll σ'.ev x.op.operands.toList ∧ barT C (fun x => (σ'.ev x).strip) (.append T p q) x.dst K σ') ∧ (wb = false → K (σ'.put x.dst (.opt false .unk)))
      | none => False := fun K σ' => by
      unfold aOp
      simp only [hx, hg]
      cases (σ'.get j).wanted want <;> rfl
    rw [hgo] at h
    cases hw : (σ.get j).wanted want with
    | none => rw [hw] at h; exact h.elim
    | some wb =>
      rw [hw] at h
      dsimp only at h
      cases wb with
      | true =>
        obtain ⟨hok, h⟩ := h.1 rfl
        dsimp only [barT] at h
        refine gT_mono (fun σ' _ hk => ?_) (core (fun σ o => (σ.ev o).strip) (fun _ _ => by funext o; cases o <;> rfl) (fun σ d v o hd ho => congrArg AV.strip (hsame σ d v o hd ho)) h)
        rw [hgo, hj σ' hk.1, hw]
        refine ⟨fun _ => ⟨?_, hk.2⟩, fun h => by cases h⟩
        obtain ⟨s2, w, rfl⟩ := hk.1
        have e6 : okAll (({ σ with st := s2 } : St).put y.dst w).ev x.op.operands.toList = okAll σ.ev x.op.operands.toList :=
          okAll_ev fun o ho => (hsame { σ with st := s2 } _ _ o ha.b (by simpa using ho)).trans (by cases o <;> rfl)
        rw [e6]
        exact hok
      | false =>
        have h := h.2 rfl
        rw [aOp_frame ⟨ha.a, ha.c⟩, hY] at h
        refine gT_mono (fun σ' ⟨s2, w, e⟩ hk => ?_) h
        rw [hgo, hj σ' ⟨s2, w, e⟩, hw]
        exact ⟨(fun h => by cases h), fun _ => hk⟩

theorem comm_of (hm : ConMono C) {ops : Array Oper} {x y : Oper} (hx : dstOk N ops x = true) (hy : dstOk N ops y = true) (h : okPair C ops x y = true) : Comm C (opToG ops x) (opToG ops y) := by
  unfold okPair at h
  rw [Bool.and_eq_true] at h
  obtain ⟨h1, h2⟩ := h
  obtain ⟨a1, a2, a3⟩ := Oper.apart_spec h1
  have ha : Apart (opToG ops x) (opToG ops y) := ⟨fun k hk hl => a1 k hk ((looks_eq hy k).1 hl), fun k hk hl => a3 k hk ((looks_eq hx k).1 hl), a2⟩
  simp only [Bool.or_eq_true, Bool.and_eq_true] at h2
  rcases h2 with ((h2 | h2) | ⟨h2, h3⟩) | ⟨h2, h3⟩
  · exact comm_plain_left hm (plain_of h2) ha
  · exact comm_plain_right hm (plain_of h2) ha
  · have q2 : barOf C x.op = none := Option.isNone_iff_eq_none.1 h2
    have q3 : barOf C y.op = none := Option.isNone_iff_eq_none.1 h3
    exact comm_gentle (gentle_of (x := opToG ops x) q2) (gentle_of (x := opToG ops y) q3) ha
  · have q3 : barOf C y.op = none := Option.isNone_iff_eq_none.1 h3
    cases hb : barOf C x.op with
    | none => rw [hb] at h2; cases h2
    | some b =>
      cases b with
      | append T p q => exact comm_append hm (x := opToG ops x) hb (gentle_of (x := opToG ops y) q3) ha
      | store t a v => rw [hb] at h2; cases h2
      | copy t a v => rw [hb] at h2; cases h2
      | gen f args => rw [hb] at h2; cases h2

/-! ### Whatever order -/

def aIdx (C : Ctx) (ops : Array Oper) (i : Nat) (K : St → Prop) (σ : St) : Prop :=
  match ops[i]? with
  | none => K σ
  | some o => aOp C (opToG ops o) K σ

def aAny (C : Ctx) (ops : Array Oper) (K : St → Prop) : Nat → Array Bool → St → Prop
  | 0, _, σ => K σ
  | n + 1, listed, σ => (Region.ready .any ops listed = [] → K σ) ∧ ∀ i ∈ Region.ready .any ops listed, aIdx C ops i (aAny C ops K n (listed.setIfInBounds i true)) σ

theorem aIdx_mono (hm : ConMono C) {ops : Array Oper} {i : Nat} {K K' : St → Prop} {σ : St} (h : ∀ σ, K σ → K' σ) (hc : aIdx C ops i K σ) : aIdx C ops i K' σ := by
  unfold aIdx at hc ⊢
  split at hc
  · exact h _ hc
  · exact aOp_mono hm (fun σ' _ => h σ') hc

/-- So many are left. -/
def Left (ops : Array Oper) (listed : Array Bool) (n : Nat) : Prop := ∃ l : List Nat, l.Nodup ∧ l.length = n ∧ ∀ j, j ∈ l ↔ (j < ops.size ∧ listed.getD j true = false)

/-- What is waited for is listed. -/
def Down (ops : Array Oper) (listed : Array Bool) : Prop := listed.size = ops.size ∧ ∀ j o, ops[j]? = some o → listed.getD j true = true → ∀ e ∈ o.after, Region.binds .any e = true → listed.getD e.on false = true

theorem getD_set {listed : Array Bool} {i j : Nat} {d : Bool} : (listed.setIfInBounds i true).getD j d = if i = j ∧ j < listed.size then true else listed.getD j d := by
  simp only [Array.getD_eq_getD_getElem?, Array.getElem?_setIfInBounds]
  by_cases h : i = j
  · subst h
    by_cases h2 : i < listed.size
    · simp [h2]
    · simp [h2]
  · simp [h]

theorem Left.set {ops : Array Oper} {listed : Array Bool} {n i : Nat} (h : Left ops listed (n + 1)) (hi : i < ops.size) (hl : listed.getD i true = false) (hsz : listed.size = ops.size) : Left ops (listed.setIfInBounds i true) n := by
  obtain ⟨l, h1, h2, h3⟩ := h
  have him : i ∈ l := (h3 i).2 ⟨hi, hl⟩
  refine ⟨l.erase i, h1.erase i, by rw [List.length_erase_of_mem him, h2]; rfl, fun j => ?_⟩
  rw [h1.mem_erase_iff, h3, getD_set]
  constructor
  · rintro ⟨hj, hj2, hj3⟩
    exact ⟨hj2, by rw [if_neg (fun h => hj h.1.symm)]; exact hj3⟩
  · rintro ⟨hj, hj2⟩
    by_cases hij : i = j
    · subst hij; rw [if_pos ⟨rfl, by rw [hsz]; exact hj⟩] at hj2; cases hj2
    · rw [if_neg (fun h => hij h.1)] at hj2; exact ⟨fun e => hij e.symm, hj, hj2⟩

theorem ready_lt {ops : Array Oper} {listed : Array Bool} {i : Nat} (h : i ∈ Region.ready .any ops listed) : i < ops.size ∧ listed.getD i true = false ∧ ∃ o, ops[i]? = some o ∧ ∀ e ∈ o.after, Region.binds .any e = true → listed.getD e.on false = true := by
  obtain ⟨h1, o, h2, h3⟩ := mem_ready.1 h
  exact ⟨(Array.getElem?_eq_some_iff.1 h2).1, h1, o, h2, h3⟩

theorem Down.set {ops : Array Oper} {listed : Array Bool} {i : Nat} (h : Down ops listed) (hi : i ∈ Region.ready .any ops listed) : Down ops (listed.setIfInBounds i true) := by
  obtain ⟨_, _, oi, hoi, hall⟩ := ready_lt hi
  refine ⟨by simp [h.1], fun j o ho hl e he hb => ?_⟩
  have keep : ∀ k, listed.getD k false = true → (listed.setIfInBounds i true).getD k false = true := fun k hk => by rw [getD_set]; split <;> first | rfl | exact hk
  rw [getD_set] at hl
  split at hl
  · next hij =>
    obtain ⟨rfl, _⟩ := hij
    rw [hoi] at ho
    cases ho
    exact keep _ (hall e he hb)
  · exact keep _ (h.2 j o ho hl e he hb)

/-- **An operation that may come up now may be taken first.** -/
theorem aAny_first (hm : ConMono C) {ops : Array Oper} {K : St → Prop} {i : Nat}
    (hw : ∀ listed, Down ops listed → (∀ m, m < i → listed.getD m false = true) → ∀ j, j ∈ Region.ready .any ops listed → listed.getD i true = false → j ≠ i → ∀ (K : St → Prop) (σ : St), aIdx C ops i (aIdx C ops j K) σ → aIdx C ops j (aIdx C ops i K) σ) :
    ∀ (n : Nat) (listed : Array Bool) (σ : St), Down ops listed → (∀ m, m < i → listed.getD m false = true) → Left ops listed (n + 1) → i ∈ Region.ready .any ops listed → aIdx C ops i (aAny C ops K n (listed.setIfInBounds i true)) σ → aAny C ops K (n + 1) listed σ := by
  intro n
  induction n with
  | zero =>
    intro listed σ hd hb hl hr H
    refine ⟨fun h => (by rw [h] at hr; cases hr), fun j hj => ?_⟩
    obtain ⟨l, h1, h2, h3⟩ := hl
    obtain ⟨q1, q2, _⟩ := ready_lt hr
    obtain ⟨r1, r2, _⟩ := ready_lt hj
    have hi := (h3 i).2 ⟨q1, q2⟩
    have hj' := (h3 j).2 ⟨r1, r2⟩
    have : j = i := by
      match l, h2 with
      | [a], _ => simp at hi hj'; rw [hi, hj']
    subst this
    exact H
  | succ n ih =>
    intro listed σ hd hb hl hr H
    refine ⟨fun h => (by rw [h] at hr; cases hr), fun j hj => ?_⟩
    by_cases hji : j = i
    · subst hji; exact H
    · obtain ⟨q1, q2, oi, hoi, qall⟩ := ready_lt hr
      obtain ⟨r1, r2, oj, hoj, rall⟩ := ready_lt hj
      have keepf : ∀ (a k : Nat), listed.getD k false = true → (listed.setIfInBounds a true).getD k false = true := fun a k hk => by rw [getD_set]; split <;> first | rfl | exact hk
      have hj2 : j ∈ Region.ready .any ops (listed.setIfInBounds i true) := mem_ready.2 ⟨by rw [getD_set, if_neg (fun h => hji h.1.symm)]; exact r2, oj, hoj, fun e he hb => keepf _ _ (rall e he hb)⟩
      have hi2 : i ∈ Region.ready .any ops (listed.setIfInBounds j true) := mem_ready.2 ⟨by rw [getD_set, if_neg (fun h => hji h.1)]; exact q2, oi, hoi, fun e he hb => keepf _ _ (qall e he hb)⟩
      have h1 : aIdx C ops i (aIdx C ops j (aAny C ops K n ((listed.setIfInBounds i true).setIfInBounds j true))) σ := aIdx_mono hm (fun σ' hk => hk.2 j hj2) H
      have h2 := hw listed hd hb j hj q2 hji _ _ h1
      refine aIdx_mono hm (fun σ' hk => ih (listed.setIfInBounds j true) σ' (hd.set hj) (fun m hm => keepf _ _ (hb m hm)) (hl.set r1 r2 hd.1) hi2 ?_) h2
      rw [Array.setIfInBounds_comm _ _ hji]
      exact hk

end
end Go.Eng

namespace Go.Eng
section
variable {C : Ctx} {P : Program} {N : Nat}

theorem gd_l {l r : List Nat} {j : Nat} (h : j < l.length) : (l ++ r).getD j 0 = l.getD j 0 := by
  simp only [List.getD_eq_getElem?_getD, List.getElem?_append_left h]
theorem gd_r {l r : List Nat} {j : Nat} (h : l.length ≤ j) : (l ++ r).getD j 0 = r.getD (j - l.length) 0 := by
  simp only [List.getD_eq_getElem?_getD, List.getElem?_append_right h]

theorem nodup_shift (k : Nat) : ∀ l : List Nat, l.Nodup → (l.map (k + ·)).Nodup := by
  intro l
  induction l with
  | nil => intro _; simp
  | cons a r ih =>
    intro h
    rw [List.nodup_cons] at h
    rw [List.map_cons, List.nodup_cons]
    exact ⟨fun hm => by simp at hm; exact h.1 hm, ih h.2⟩

/-- Every bit of a word stands for something waited for. -/
def WaitsOk (ops : List Oper) (ws : List Nat) : Prop := ws.length = ops.length ∧ ∀ j o, ops[j]? = some o → ∀ t, (ws.getD j 0).testBit t = true →
  ∃ e ∈ o.after, Region.binds .any e = true ∧ (t = e.on ∨ (e.on < j ∧ (ws.getD e.on 0).testBit t = true))

theorem waits_bit {acc : List Nat} {t : Nat} : ∀ (l : List _) (s : Nat), (l.foldl (fun s (e : Edge) => if Region.binds .any e then s ||| 2 ^ e.on ||| acc.getD e.on 0 else s) s).testBit t = true →
    s.testBit t = true ∨ ∃ e ∈ l, Region.binds .any e = true ∧ (t = e.on ∨ (acc.getD e.on 0).testBit t = true) := by
  intro l
  induction l with
  | nil => intro s h; exact .inl h
  | cons e r ih =>
    intro s h
    rw [List.foldl_cons] at h
    rcases ih _ h with h | ⟨e', he, h1, h2⟩
    · split at h
      · next hb =>
        rw [Nat.testBit_or, Nat.testBit_or, Bool.or_eq_true, Bool.or_eq_true, Nat.testBit_two_pow] at h
        rcases h with (h | h) | h
        · exact .inl h
        · exact .inr ⟨e, by simp, hb, .inl (by simpa using (of_decide_eq_true h).symm)⟩
        · exact .inr ⟨e, by simp, hb, .inr h⟩
      · exact .inl h
    · exact .inr ⟨e', List.mem_cons_of_mem _ he, h1, h2⟩

theorem waitsOk_snoc {ops : List Oper} {ws : List Nat} {o : Oper} (h : WaitsOk ops ws) : WaitsOk (ops ++ [o]) (ws ++ [waits ws o]) := by
  have hlen := h.1
  refine ⟨by simp [hlen], fun j oj hj t ht => ?_⟩
  by_cases hjl : j < ops.length
  · rw [List.getElem?_append_left hjl] at hj
    rw [gd_l (by omega)] at ht
    obtain ⟨e, he, hb, q⟩ := h.2 j oj hj t ht
    refine ⟨e, he, hb, ?_⟩
    rcases q with q | ⟨q1, q2⟩
    · exact .inl q
    · exact .inr ⟨q1, by rw [gd_l (by omega)]; exact q2⟩
  · have hjeq : j = ops.length := by
      have := (List.getElem?_eq_some_iff.1 hj).1
      simp at this
      omega
    subst hjeq
    simp at hj
    subst hj
    rw [gd_r (by omega)] at ht
    rw [hlen, Nat.sub_self] at ht
    change (waits ws _).testBit t = true at ht
    unfold waits at ht
    rcases waits_bit _ _ ht with h0 | ⟨e, he, hb, q⟩
    · simp at h0
    · refine ⟨e, by simpa using he, hb, ?_⟩
      rcases q with q | q
      · exact .inl q
      · have hlt : e.on < ws.length := by
          by_cases hl : e.on < ws.length
          · exact hl
          · rw [List.getD_eq_getElem?_getD, List.getElem?_eq_none (by omega)] at q; simp at q
        exact .inr ⟨by omega, by rw [gd_l hlt]; exact q⟩

theorem allWaits_ok : ∀ (l pre : List Oper) (acc : List Nat), WaitsOk pre acc → WaitsOk (pre ++ l) (allWaits l acc) := by
  intro l
  induction l with
  | nil => intro pre acc h; simpa [allWaits] using h
  | cons o r ih =>
    intro pre acc h
    have := ih (pre ++ [o]) _ (waitsOk_snoc (o := o) h)
    simpa [allWaits] using this

theorem waits_listed {ops : Array Oper} {ws : List Nat} {listed : Array Bool} (h : WaitsOk ops.toList ws) (hd : Down ops listed) :
    ∀ (j : Nat) (o : Oper), ops[j]? = some o → (∀ e ∈ o.after, Region.binds .any e = true → listed.getD e.on false = true) → ∀ t, (ws.getD j 0).testBit t = true → listed.getD t false = true := by
  intro j
  induction j using Nat.strongRecOn with
  | _ j ih =>
    intro o ho hall t ht
    obtain ⟨e, he, hb, q⟩ := h.2 j o (by simpa using ho) t ht
    rcases q with rfl | ⟨q1, q2⟩
    · exact hall e he hb
    · have hl := hall e he hb
      have hlt : e.on < ops.size := by
        have := (Array.getElem?_eq_some_iff.1 ho).1
        omega
      have hl' : listed.getD e.on true = true := by
        have hs : e.on < listed.size := by rw [hd.1]; exact hlt
        simp only [Array.getD_eq_getD_getElem?, Array.getElem?_eq_getElem hs, Option.getD_some] at hl ⊢
        exact hl
      obtain ⟨oe, hoe⟩ : ∃ oe, ops[e.on]? = some oe := ⟨_, Array.getElem?_eq_getElem hlt⟩
      exact ih e.on q1 oe hoe (fun e' he' hb' => hd.2 e.on oe hoe hl' e' he' hb') t q2

theorem orderOk_spec {ops : Array Oper} (h : orderOk C ops = true) : Region.noSelect ops = true ∧ ∀ j oj, ops[j]? = some oj →
    (∀ e ∈ oj.after, Region.binds .any e = true → e.on < j) ∧
    ∀ i oi, i < j → ops[i]? = some oi → ((allWaits ops.toList []).getD j 0).testBit i = true ∨ okPair C ops oi oj = true := by
  unfold orderOk at h
  rw [Bool.and_eq_true, List.all_eq_true] at h
  refine ⟨h.1, fun j oj hj => ?_⟩
  have hlt := (Array.getElem?_eq_some_iff.1 hj).1
  have := h.2 j (List.mem_range.2 hlt)
  simp only [hj, Bool.and_eq_true, Array.all_eq_true_iff_forall_mem, Bool.or_eq_true, Bool.not_eq_true', decide_eq_true_eq, List.all_eq_true, List.mem_range] at this
  refine ⟨fun e he hb => (this.1 e he).resolve_left (by simp [hb]), fun i oi hij hi => ?_⟩
  have q := this.2 i hij
  rw [hi] at q
  simpa using q

theorem aIdx_some {ops : Array Oper} {i : Nat} {o : Oper} {K : St → Prop} {σ : St} (h : ops[i]? = some o) : aIdx C ops i K σ = aOp C (opToG ops o) K σ := by unfold aIdx; rw [h]

/-- **The text's order stands for every order.** -/
theorem aAny_of (hm : ConMono C) {ops : Array Oper} (hds : ops.all (dstOk N ops) = true) (h : orderOk C ops = true) {K : St → Prop} :
    ∀ (n k : Nat) (listed : Array Bool) (σ : St), k + n = ops.size → Down ops listed → (∀ m, listed.getD m true = false ↔ (k ≤ m ∧ m < ops.size)) →
    aOps C ((ops.toList.drop k).map (opToG ops)) K σ → aAny C ops K n listed σ := by
  obtain ⟨hns, hord⟩ := orderOk_spec h
  have hw : WaitsOk ops.toList (allWaits ops.toList []) := by
    have := allWaits_ok ops.toList [] [] ⟨rfl, fun j o hj => by simp at hj⟩
    simpa using this
  have hdk : ∀ i o, ops[i]? = some o → dstOk N ops o = true := fun i o ho => by
    rw [Array.all_eq_true_iff_forall_mem] at hds
    exact hds o (Array.mem_of_getElem? ho)
  intro n
  induction n with
  | zero =>
    intro k listed σ hk hd hl hc
    have : ops.toList.drop k = [] := List.drop_eq_nil_of_le (by simp; omega)
    rw [this] at hc
    exact hc
  | succ n ih =>
    intro k listed σ hk hd hl hc
    have hkl : k < ops.size := by omega
    obtain ⟨ok, hok⟩ : ∃ o, ops[k]? = some o := ⟨_, Array.getElem?_eq_getElem hkl⟩
    have hdrop : ops.toList.drop k = ok :: ops.toList.drop (k + 1) := by
      have : k < ops.toList.length := by simpa using hkl
      rw [List.drop_eq_getElem_cons this]
      congr 1
      have := hok
      rw [Array.getElem?_eq_getElem hkl] at this
      simpa using this
    rw [hdrop] at hc
    have hlist : ∀ m, m < k → listed.getD m false = true := fun m hmk => by
      have hs : m < listed.size := by rw [hd.1]; omega
      have q : ¬ listed.getD m true = false := fun q => by have := (hl m).1 q; omega
      simp only [Array.getD_eq_getD_getElem?, Array.getElem?_eq_getElem hs, Option.getD_some] at q ⊢
      simpa using q
    have hkr : k ∈ Region.ready .any ops listed := mem_ready.2 ⟨(hl k).2 ⟨Nat.le_refl _, hkl⟩, ok, hok, fun e he hb => hlist _ ((hord k ok hok).1 e he hb)⟩
    have hleft : Left ops listed (n + 1) := ⟨(List.range (n + 1)).map (k + ·), nodup_shift _ _ List.nodup_range, by simp, fun j => by
      rw [hl j]
      simp only [List.mem_map, List.mem_range]
      constructor
      · rintro ⟨a, ha, rfl⟩; omega
      · rintro ⟨h1, h2, _⟩; exact ⟨j - k, by omega, by omega⟩⟩
    refine aAny_first hm (i := k) (fun li hdl hbl j hj hlk hjk K' σ' hh => ?_) n listed σ hd hlist hleft hkr ?_
    · obtain ⟨r1, r2, oj, hoj, rall⟩ := ready_lt hj
      have hkj : k < j := by
        rcases Nat.lt_trichotomy k j with h1 | h1 | h1
        · exact h1
        · exact absurd h1.symm hjk
        · have q := hbl j h1
          have hs : j < li.size := by rw [hdl.1]; exact r1
          simp only [Array.getD_eq_getD_getElem?, Array.getElem?_eq_getElem hs, Option.getD_some] at q r2
          rw [q] at r2; cases r2
      rcases (hord j oj hoj).2 k ok hkj hok with q | q
      · have q2 := waits_listed hw hdl j oj hoj rall k q
        have hs : k < li.size := by rw [hdl.1]; exact hkl
        simp only [Array.getD_eq_getD_getElem?, Array.getElem?_eq_getElem hs, Option.getD_some] at q2 hlk
        rw [q2] at hlk; cases hlk
      · have hcm := comm_of hm (hdk k ok hok) (hdk j oj hoj) q
        have hh' : aOp C (opToG ops ok) (aOp C (opToG ops oj) K') σ' := by
          rw [aIdx_some hok] at hh
          refine aOp_mono hm (fun σ _ hk => ?_) hh
          rw [aIdx_some hoj] at hk
          exact hk
        rw [aIdx_some hoj]
        refine aOp_mono hm (fun σ _ hk => ?_) (hcm _ _ hh')
        rw [aIdx_some hok]
        exact hk
    · rw [aIdx_some hok]
      refine aOp_mono hm (fun σ' _ hk' => ih (k + 1) _ σ' (by omega) (hd.set hkr) (fun m => ?_) hk') hc
      rw [getD_set, hd.1]
      by_cases hkm : k = m
      · subst hkm; simp [hkl]
      · rw [if_neg (fun q => hkm q.1), hl m]; omega

/-- `aAny_first`, with whatever is kept by listing more. -/
theorem aAny_first' (hm : ConMono C) {ops : Array Oper} {K : St → Prop} {i : Nat} {B : Array Bool → Prop} (hB : ∀ listed j, B listed → B (listed.setIfInBounds j true))
    (hw : ∀ listed, Down ops listed → B listed → ∀ j, j ∈ Region.ready .any ops listed → listed.getD i true = false → j ≠ i → ∀ (K : St → Prop) (σ : St), aIdx C ops i (aIdx C ops j K) σ → aIdx C ops j (aIdx C ops i K) σ) :
    ∀ (n : Nat) (listed : Array Bool) (σ : St), Down ops listed → B listed → Left ops listed (n + 1) → i ∈ Region.ready .any ops listed → aIdx C ops i (aAny C ops K n (listed.setIfInBounds i true)) σ → aAny C ops K (n + 1) listed σ := by
  intro n
  induction n with
  | zero =>
    intro listed σ hd hb hl hr H
    refine ⟨fun h => (by rw [h] at hr; cases hr), fun j hj => ?_⟩
    obtain ⟨l, h1, h2, h3⟩ := hl
    obtain ⟨q1, q2, _⟩ := ready_lt hr
    obtain ⟨r1, r2, _⟩ := ready_lt hj
    have hi := (h3 i).2 ⟨q1, q2⟩
    have hj' := (h3 j).2 ⟨r1, r2⟩
    have : j = i := by
      match l, h2 with
      | [a], _ => simp at hi hj'; rw [hi, hj']
    subst this
    exact H
  | succ n ih =>
    intro listed σ hd hb hl hr H
    refine ⟨fun h => (by rw [h] at hr; cases hr), fun j hj => ?_⟩
    by_cases hji : j = i
    · subst hji; exact H
    · obtain ⟨q1, q2, oi, hoi, qall⟩ := ready_lt hr
      obtain ⟨r1, r2, oj, hoj, rall⟩ := ready_lt hj
      have keepf : ∀ (a k : Nat), listed.getD k false = true → (listed.setIfInBounds a true).getD k false = true := fun a k hk => by rw [getD_set]; split <;> first | rfl | exact hk
      have hj2 : j ∈ Region.ready .any ops (listed.setIfInBounds i true) := mem_ready.2 ⟨by rw [getD_set, if_neg (fun h => hji h.1.symm)]; exact r2, oj, hoj, fun e he hb => keepf _ _ (rall e he hb)⟩
      have hi2 : i ∈ Region.ready .any ops (listed.setIfInBounds j true) := mem_ready.2 ⟨by rw [getD_set, if_neg (fun h => hji h.1)]; exact q2, oi, hoi, fun e he hb => keepf _ _ (qall e he hb)⟩
      have h1 : aIdx C ops i (aIdx C ops j (aAny C ops K n ((listed.setIfInBounds i true).setIfInBounds j true))) σ := aIdx_mono hm (fun σ' hk => hk.2 j hj2) H
      have h2 := hw listed hd hb j hj q2 hji _ _ h1
      refine aIdx_mono hm (fun σ' hk => ih (listed.setIfInBounds j true) σ' (hd.set hj) (hB _ _ hb) (hl.set r1 r2 hd.1) hi2 ?_) h2
      rw [Array.setIfInBounds_comm _ _ hji]
      exact hk

theorem avpT_nd {ops : Array Oper} {i : Nat} {t : OTree} {K : St → Prop} {σ : St} : avpT C (ndT ops i t) K σ = aIdx C ops i (avpT C t K) σ := by
  unfold ndT aIdx
  split <;> simp_all [avpT]

theorem avpT_bothL {K : St → Prop} {σ : St} : ∀ {l : List OTree}, avpT C (bothL l) K σ → (l = [] → K σ) ∧ ∀ t ∈ l, avpT C t K σ
  | [], h => ⟨fun _ => h, fun t ht => (by cases ht)⟩
  | [a], h => ⟨fun h => (by cases h), fun t ht => (List.mem_singleton.1 ht) ▸ h⟩
  | a :: b :: r, h => by
    refine ⟨fun h => (by cases h), fun t ht => ?_⟩
    rcases List.mem_cons.1 ht with rfl | ht
    · exact h.1
    · exact (avpT_bothL h.2).2 t ht

theorem gd_ft {listed : Array Bool} {j : Nat} (h : listed.getD j true = false) : listed.getD j false = false := by
  simp only [Array.getD_eq_getD_getElem?] at h ⊢
  cases hl : listed[j]? with
  | none => rfl
  | some b => rw [hl] at h; exact h

/-- **The tree stands for every order.** -/
theorem aAny_tree (hm : ConMono C) {ops : Array Oper} (hds : ops.all (dstOk N ops) = true) {ws : List Nat} (hw : WaitsOk ops.toList ws) {K : St → Prop} :
    ∀ (n : Nat) (listed : Array Bool) (σ : St), Down ops listed → Left ops listed n → avpT C (orders C ops ws n listed) K σ → aAny C ops K n listed σ := by
  have hdk : ∀ i o, ops[i]? = some o → dstOk N ops o = true := fun i o ho => by
    rw [Array.all_eq_true_iff_forall_mem] at hds
    exact hds o (Array.mem_of_getElem? ho)
  intro n
  induction n with
  | zero => intro listed σ hd hl h; exact h
  | succ n ih =>
    intro listed σ hd hl h
    unfold orders at h
    split at h
    · next i hi =>
      have hir := List.mem_of_find?_eq_some hi
      have hs := List.find?_some hi
      obtain ⟨q1, q2, oi, hoi, qall⟩ := ready_lt hir
      rw [avpT_nd] at h
      refine aAny_first' hm (i := i) (B := fun l => ∀ m, listed.getD m false = true → l.getD m false = true) (fun l j hb m hm => by rw [getD_set]; split <;> first | rfl | exact hb m hm) (fun li hdl hbl j hj hlk hji K' σ' hh => ?_) n listed σ hd (fun _ h => h) hl hir ?_
      · obtain ⟨r1, r2, oj, hoj, rall⟩ := ready_lt hj
        unfold safeAt at hs
        rw [hoi] at hs
        have hs' := List.all_eq_true.1 hs j (List.mem_range.2 r1)
        rw [hoj] at hs'
        simp only [Bool.or_eq_true, beq_iff_eq] at hs'
        have hnl := gd_ft r2
        rcases hs' with ((hs' | hs') | hs') | hs'
        · have := hbl j hs'
          rw [hnl] at this; cases this
        · exact absurd hs' hji
        · have := waits_listed hw hdl j oj hoj rall i hs'
          rw [gd_ft hlk] at this; cases this
        · rw [aIdx_some hoi] at hh
          rw [aIdx_some hoj]
          have e1 : (aIdx C ops j K') = aOp C (opToG ops oj) K' := funext fun _ => aIdx_some hoj
          have e2 : (aIdx C ops i K') = aOp C (opToG ops oi) K' := funext fun _ => aIdx_some hoi
          rw [e1] at hh
          rw [e2]
          exact comm_of hm (hdk i oi hoi) (hdk j oj hoj) hs' _ _ hh
      · exact aIdx_mono hm (fun σ' hk => ih _ σ' (hd.set hir) (hl.set q1 q2 hd.1) hk) h
    · obtain ⟨h1, h2⟩ := avpT_bothL h
      refine ⟨fun hr => h1 (by rw [hr]; rfl), fun i hi => ?_⟩
      have := h2 _ (List.mem_map_of_mem hi)
      rw [avpT_nd] at this
      obtain ⟨q1, q2, _⟩ := ready_lt hi
      exact aIdx_mono hm (fun σ' hk => ih _ σ' (hd.set hi) (hl.set q1 q2 hd.1) hk) this

end
end Go.Eng

namespace Go.Eng
section
variable {C : Ctx} {P : Program} {N : Nat} {F : Addr → Prop} {s₀ : Store} {β₀ β : Bt} {w₀ w : World} {σ : St} {a : Act}

def PostE (F : Addr → Prop) (s₀ : Store) (β₀ : Bt) (w₀ : World) (N : Nat) (Q : Exit → St → Prop) : Exit → Act → World → Prop := fun e a' w' => ∃ β' σ', Q e σ' ∧ Inv F s₀ β₀ w₀ N β' σ' a' w'

theorem aIdx_sound (S : Sys P C) {Q : Exit → Act → World → Prop} {ops : Array Oper} (hds : ops.all (dstOk N ops) = true) {i : Nat} {K : St → Prop} (h : Inv F s₀ β₀ w₀ N β σ a w) (hi : i < ops.size) (hc : aIdx C ops i K σ) :
    wpOp P ops Q i (Post F s₀ β₀ w₀ N K) a w := by
  have ho : ops[i]? = some ops[i] := Array.getElem?_eq_getElem hi
  rw [aIdx_some ho] at hc
  refine aOp_sound S h ho ?_ hc
  rw [Array.all_eq_true_iff_forall_mem] at hds
  exact hds _ (Array.mem_of_getElem? ho)

theorem any_wp (S : Sys P C) {Q : Exit → St → Prop} {ops : Array Oper} (hds : ops.all (dstOk N ops) = true) :
    ∀ (n : Nat) (listed : Array Bool) (β : Bt) (σ : St) (a : Act) (w : World), listed.size = ops.size → Left ops listed n → Inv F s₀ β₀ w₀ N β σ a w → aAny C ops (Q .normal) n listed σ →
      wpAny P .any ops (PostE F s₀ β₀ w₀ N Q) n listed a w := by
  intro n
  induction n with
  | zero =>
    intro listed β σ a w hs hl h hc
    refine ⟨?_, β, σ, hc, h⟩
    obtain ⟨l, h1, h2, h3⟩ := hl
    cases hr : Region.ready .any ops listed with
    | nil => rfl
    | cons x xs =>
      exfalso
      obtain ⟨r1, r2, _⟩ := ready_lt (by rw [hr]; exact List.mem_cons_self : x ∈ Region.ready .any ops listed)
      have := (h3 x).2 ⟨r1, r2⟩
      rw [List.length_eq_zero_iff.1 h2] at this
      cases this
  | succ n ih =>
    intro listed β σ a w hs hl h hc
    refine ⟨fun hr => ⟨β, σ, hc.1 hr, h⟩, fun i hi => ?_⟩
    obtain ⟨r1, r2, _⟩ := ready_lt hi
    refine wpOp_mono (fun a' w' hp => ?_) (aIdx_sound S hds h r1 (hc.2 i hi))
    obtain ⟨β', σ', hk, h'⟩ := hp
    exact ih _ β' σ' a' w' (by simp [hs]) (hl.set r1 r2 hs) h' hk

theorem ops_wp (S : Sys P C) {Q : Exit → St → Prop} {ops : Array Oper} (hds : ops.all (dstOk N ops) = true) :
    ∀ (n k : Nat) (β : Bt) (σ : St) (a : Act) (w : World), k + n = ops.size → Inv F s₀ β₀ w₀ N β σ a w → aOps C ((ops.toList.drop k).map (opToG ops)) (Q .normal) σ →
      wpOps P ops (PostE F s₀ β₀ w₀ N Q) (List.range' k n) a w := by
  intro n
  induction n with
  | zero =>
    intro k β σ a w hk h hc
    have : ops.toList.drop k = [] := List.drop_eq_nil_of_le (by simp; omega)
    rw [this] at hc
    exact ⟨β, σ, hc, h⟩
  | succ n ih =>
    intro k β σ a w hk h hc
    have hkl : k < ops.size := by omega
    have hdrop : ops.toList.drop k = ops[k] :: ops.toList.drop (k + 1) := by
      have : k < ops.toList.length := by simpa using hkl
      rw [List.drop_eq_getElem_cons this]
      simp
    rw [hdrop] at hc
    rw [List.range'_succ, wpOps_cons]
    have ho : ops[k]? = some ops[k] := Array.getElem?_eq_getElem hkl
    refine wpOp_mono (fun a' w' hp => ?_) (aIdx_sound S hds h hkl (by rw [aIdx_some ho]; exact hc))
    obtain ⟨β', σ', hk', h'⟩ := hp
    exact ih (k + 1) β' σ' a' w' (by omega) h' hk'

theorem region_sound (S : Sys P C) (hm : ConMono C) (hmix : P.follows .mixedOrders = true) {Q : Exit → St → Prop} {id : Nat} {ops : Array Oper} {draw : Bool} (hds : ops.all (dstOk N ops) = true)
    (hord : draw = true → orderOk C ops = true) (h : Inv F s₀ β₀ w₀ N β σ a w) (hc : aOps C (ops.toList.map (opToG ops)) (Q .normal) σ) : (Code.region id ops draw).wp P (PostE F s₀ β₀ w₀ N Q) a w := by
  cases draw with
  | false =>
    refine wp_region ?_
    rw [List.range_eq_range']
    exact ops_wp S hds ops.size 0 β σ a w (by omega) h (by simpa using hc)
  | true =>
    refine wp_region_any hmix ?_
    have hsz : (Array.replicate ops.size false).size = ops.size := by simp
    have hl : ∀ m, (Array.replicate ops.size false).getD m true = false ↔ (0 ≤ m ∧ m < ops.size) := fun m => by
      simp only [Array.getD_eq_getD_getElem?, Array.getElem?_replicate]
      split
      · next h1 => simp [h1]
      · next h1 => simp [h1]
    refine any_wp S hds ops.size _ β σ a _ hsz ⟨List.range ops.size, List.nodup_range, by simp, fun j => by rw [hl]; simp⟩ h.drew ?_
    refine aAny_of hm hds (hord rfl) ops.size 0 _ σ (by omega) ⟨hsz, fun j o ho hj => ?_⟩ hl (by simpa using hc)
    exfalso
    have hlt := (Array.getElem?_eq_some_iff.1 ho).1
    rw [(hl j).2 ⟨Nat.zero_le _, hlt⟩] at hj
    cases hj

theorem orders_sound (S : Sys P C) (hm : ConMono C) (hmix : P.follows .mixedOrders = true) {Q : Exit → St → Prop} {id : Nat} {ops : Array Oper} (hds : ops.all (dstOk N ops) = true)
    (h : Inv F s₀ β₀ w₀ N β σ a w) (hc : avpT C (orders C ops (allWaits ops.toList []) ops.size (Array.replicate ops.size false)) (Q .normal) σ) : (Code.region id ops true).wp P (PostE F s₀ β₀ w₀ N Q) a w := by
  refine wp_region_any hmix ?_
  have hsz : (Array.replicate ops.size false).size = ops.size := by simp
  have hl : ∀ m, (Array.replicate ops.size false).getD m true = false ↔ (0 ≤ m ∧ m < ops.size) := fun m => by
    simp only [Array.getD_eq_getD_getElem?, Array.getElem?_replicate]
    split
    · next h1 => simp [h1]
    · next h1 => simp [h1]
  have hleft : Left ops (Array.replicate ops.size false) ops.size := ⟨List.range ops.size, List.nodup_range, by simp, fun j => by rw [hl]; simp⟩
  have hw : WaitsOk ops.toList (allWaits ops.toList []) := by
    have := allWaits_ok ops.toList [] [] ⟨rfl, fun j o hj => by simp at hj⟩
    simpa using this
  refine any_wp S hds ops.size _ β σ a _ hsz hleft h.drew ?_
  refine aAny_tree hm hds hw ops.size _ σ ⟨hsz, fun j o ho hj => ?_⟩ hleft hc
  exfalso
  have hlt := (Array.getElem?_eq_some_iff.1 ho).1
  rw [(hl j).2 ⟨Nat.zero_le _, hlt⟩] at hj
  cases hj

theorem least {p : Nat → Prop} (h : ∃ n, p n) : ∃ n, p n ∧ ∀ m, p m → n ≤ m := by
  obtain ⟨n, hn⟩ := h
  induction n using Nat.strongRecOn with
  | _ n ih =>
    by_cases hx : ∃ m, m < n ∧ p m
    · obtain ⟨m, h1, h2⟩ := hx
      exact ih m h1 h2
    · exact ⟨n, hn, fun m hm => Nat.le_of_not_lt fun hl => hx ⟨m, hl, hm⟩⟩

theorem then_of {Q : Exit → St → Prop} {next : St → Prop} {X : Act → World → Prop} (hx : ∀ a w, Post F s₀ β₀ w₀ N next a w → X a w) :
    ∀ e a w, PostE F s₀ β₀ w₀ N (Exit.thenA next Q) e a w → Exit.then X (PostE F s₀ β₀ w₀ N Q) e a w := by
  intro e a w h
  cases e <;> first | exact hx _ _ h | exact h

/-! ### Knowing less -/

theorem own_less {s s' : Store} (h : ∀ g e', s'.f g = some e' → ∃ e, s.f g = some e ∧ WE s s' e e') (ros : List Nat) (hr : ∀ g ∈ ros, s'.f g = none) (a : Addr) (ha : OwnOf β s' a) : OwnOf β (s.marks ros) a := by
  obtain ⟨g, b, h1, h2, h3⟩ := ha
  cases hf : s'.f g with
  | none => rw [hf] at h3; exact h3.elim
  | some e' =>
    obtain ⟨e, h4, h5⟩ := h g e' hf
    have hg : g ∉ ros := fun hm => by rw [hr g hm] at hf; cases hf
    refine ⟨g, b, h1, h2, ?_⟩
    rw [Store.marks_f, if_neg hg, h4]
    rw [hf] at h3
    rcases h5 with rfl | ⟨cs, us, ro, rfl, rfl, _⟩
    · exact h3
    · exact h3

theorem w1_sound {s s' : Store} (hs : StOk F β s w) (h : ∀ g e', s'.f g = some e' → ∃ e, s.f g = some e ∧ WE s s' e e') {v u : AV} {x : Value} (hw : W1 s s' v u) (hr : Rep β w (Or2 F (OwnOf β s)) v x) : Rep β w (Or2 F (OwnOf β s')) u x := by
  have h0 : ∀ a, Or2 F (OwnOf β s') a → Or2 F (OwnOf β s) a := fun a ha => ha.imp id (own_less h [] (fun g hg => by simp at hg) a)
  rcases hw with rfl | ⟨n, rfl, hv⟩ | ⟨y, ros, hb, rfl | ⟨z, rfl, hz⟩, hd⟩
  · exact hr.mono h0
  · have key : ∀ (a : Option Addr), RepT w (Or2 F (OwnOf β s')) (.seq n []) (.slice a 0 0) := fun a =>
      .seq _ _ a 0 0 0 0 (fun _ _ => default) rfl (Nat.zero_le _) (.inl rfl) (fun i hi => by simp at hi) (fun i j hi => by simp at hi) (fun i j hi => by simp at hi) fun i j hi => by simp at hi
    rcases hv with rfl | rfl
    · have := hr.t_inv; cases this; exact .t _ _ (key _)
    · have := hr.t_inv; cases this; exact .t _ _ (key _)
  · exact .t _ _ ((borrow1_sound hs hr hb (ros' := ros) fun _ h => h).mono fun a ha => ha.imp id (own_less h ros hd a))
  · exact .t _ _ (hz _ _ _ ((borrow1_sound hs hr hb (ros' := ros) fun _ h => h).mono fun a ha => ha.imp id (own_less h ros hd a)))

theorem wl_sound {s s' : Store} (hs : StOk F β s w) (h : ∀ g e', s'.f g = some e' → ∃ e, s.f g = some e ∧ WE s s' e e') : ∀ (vs us : List AV) (x : Nat → Value), WL s s' vs us → (∀ i, i < vs.length → Rep β w (Or2 F (OwnOf β s)) (vs.getD i .unk) (x i)) →
    us.length = vs.length ∧ ∀ i, i < us.length → Rep β w (Or2 F (OwnOf β s')) (us.getD i .unk) (x i)
  | [], [], _, _, _ => ⟨rfl, fun i hi => by simp at hi⟩
  | v :: vs, u :: us, x, ⟨h1, h2⟩, hr => by
    obtain ⟨g1, g2⟩ := wl_sound hs h vs us (fun i => x (i + 1)) h2 fun i hi => by simpa using hr (i + 1) (by simpa using hi)
    refine ⟨by simp [g1], fun i hi => ?_⟩
    cases i with
    | zero => exact w1_sound hs h h1 (hr 0 (by simp))
    | succ i => simpa using g2 i (by simpa using hi)
  | [], _ :: _, _, hw, _ => hw.elim
  | _ :: _, [], _, hw, _ => hw.elim

theorem all_one {us : List AV} (h : us.all AV.one = true) (i : Nat) (hi : i < us.length) : (us.getD i .unk).one = true := by
  rw [List.all_eq_true] at h
  simpa [List.getD_eq_getElem?_getD, hi] using h us[i] (List.getElem_mem hi)

theorem w2_sound {s s' : Store} (hs : StOk F β s w) (h : ∀ g e', s'.f g = some e' → ∃ e, s.f g = some e ∧ WE s s' e e') {v u : AV} {x : Value} (hw : W2 s s' v u) (hr : Rep β w (Or2 F (OwnOf β s)) v x) : Rep β w (Or2 F (OwnOf β s')) u x := by
  rcases hw with hw | rfl | ⟨g, off, cs, ro, l, rfl, hg, rfl, rfl, hd⟩ | ⟨cs, us, rfl, rfl, hl, ho⟩
  · exact w1_sound hs h hw hr
  · exact .unk _
  · cases hr with
    | ptr _ _ b hb =>
      obtain ⟨b', c, T, fr, q1, q2, q3, q4, q5⟩ := hs.ents g _ hg
      rw [hb] at q1
      cases q1
      simp only [List.length_map] at q4 q5
      have h0 : ∀ a, Or2 F (OwnOf β s') a → Or2 F (OwnOf β s) a := fun a ha => ha.imp id (own_less h [] (fun g hg => by simp at hg) a)
      refine .imm _ b off (fun j => c.getD (off + j) undef) (fun j hj => ?_) (fun j hj ha => ?_) fun j hj => ?_
      · simp only [List.length_drop] at hj
        simp only [World.cell?, q2]
        simp [Array.getD_eq_getD_getElem?, show off + j < c.size by omega]
      · rcases ha with ha | ⟨k, b', k1, k2, k3⟩
        · exact hs.apart _ ha g (by rw [hg]; simp) hb
        · have k2 : b = b' := k2
          subst k2
          cases hf : s'.f k with
          | none => rw [hf] at k3; exact k3.elim
          | some e' =>
            obtain ⟨e, h4, _⟩ := h k e' hf
            have := hs.inj k g b (by rw [h4]; simp) (by rw [hg]; simp) k1 hb
            subst this
            rw [hd] at hf; cases hf
      · simp only [List.length_drop] at hj
        have := (q5 (off + j) (by omega)).2
        rw [getD_map_t _ _ (by omega)] at this
        have e : (l.drop off).getD j default = l.getD (off + j) default := by simp [List.getD_eq_getElem?_getD, List.getElem?_drop]
        rw [e]
        exact this.t_inv.mono h0
  · cases hr with
    | agg _ vs hlen h1 h2 =>
      obtain ⟨g1, g2⟩ := wl_sound hs h cs us (fun i => vs.getD i undef) hl h2
      exact .agg _ vs (g1.trans hlen) (all_one ho) g2

theorem weak_sound {σ' : St} (h : Inv F s₀ β₀ w₀ N β σ a w) (hk : Wk σ σ') : Inv F s₀ β₀ w₀ N β σ' a w := by
  have hown : ∀ a, OwnOf β σ'.st a → OwnOf β σ.st a := own_less hk.st [] fun g hg => by simp at hg
  have hne : ∀ g, σ'.st.f g ≠ none → σ.st.f g ≠ none := fun g hg => by
    cases hf : σ'.st.f g with
    | none => exact absurd hf hg
    | some e' => obtain ⟨e, h1, _⟩ := hk.st g e' hf; rw [h1]; simp
  refine ⟨⟨fun g e' hg => ?_, fun g k b h1 h2 => h.st.inj g k b (hne g h1) (hne k h2), h.st.fin, h.st.dom, h.st.far, fun a ha g hg => h.st.apart a ha g (hne g hg)⟩,
    fun n => w2_sound h.st hk.st (hk.slots n) (h.slots n), ?_, fun g hg => h.grew g (hne g hg), h.size, h.defers⟩
  · obtain ⟨e, h1, h2⟩ := hk.st g e' hg
    have he := h.st.ents g e h1
    rcases h2 with rfl | ⟨cs, us, ro, rfl, rfl, hl, ho⟩
    · exact he.mono fun a ha => ha.imp id (hown a)
    · obtain ⟨b, c, T, fr, q1, q2, q3, q4, q5⟩ := he
      obtain ⟨g1, g2⟩ := wl_sound h.st hk.st cs us (fun i => c.getD i undef) hl fun i hi => (q5 i hi).2
      exact ⟨b, c, T, fr, q1, q2, q3, q4.trans g1.symm, fun i hi => ⟨all_one ho i hi, g2 i hi⟩⟩
  · exact ⟨h.fr.os, h.fr.tape, h.fr.output, h.fr.size, h.fr.block, h.fr.cell, h.fr.shape, fun b off hb ho => h.fr.own b off hb (hown _ ho), h.fr.ext, h.fr.new⟩

theorem toG_weak : ∀ c : Code, toG C N c ≠ some .weak := by
  intro c h
  cases c <;> simp only [toG] at h <;> first | (cases h; done) | ((repeat' split at h) <;> cases h; done) | (simp at h; done)

theorem toG_seq {c : Code} {x y : GCode} (h : toG C N c = some (.seq x y)) : ∃ a b, c = .seq a b ∧ toG C N a = some x ∧ toG C N b = some y := by
  cases c <;> simp only [toG] at h <;> first | (cases h; done) | skip
  case region => (repeat' split at h) <;> cases h
  case seq a b =>
    split at h
    · next p q hp hq => cases h; exact ⟨a, b, rfl, hp, hq⟩
    · cases h
  case cond => split at h <;> cases h
  case block => simp at h
  case loop => simp at h

theorem toG_cond {c : Code} {o : Operand} {x y : GCode} (h : toG C N c = some (.cond o x y)) : ∃ a b, c = .cond o a b ∧ toG C N a = some x ∧ toG C N b = some y := by
  cases c <;> simp only [toG] at h <;> first | (cases h; done) | skip
  case region => (repeat' split at h) <;> cases h
  case seq => split at h <;> cases h
  case cond a b =>
    split at h
    · next p q hp hq => cases h; exact ⟨_, _, rfl, hp, hq⟩
    · cases h
  case block => simp at h
  case loop => simp at h

theorem toG_block {c : Code} {id : Nat} {x : GCode} (h : toG C N c = some (.block id x)) : ∃ b, c = .block id b ∧ toG C N b = some x := by
  cases c <;> simp only [toG] at h <;> first | (cases h; done) | skip
  case region => (repeat' split at h) <;> cases h
  case seq => split at h <;> cases h
  case cond => split at h <;> cases h
  case block b =>
    simp only [Option.map_eq_some_iff] at h
    obtain ⟨g, hg, he⟩ := h
    cases he
    exact ⟨_, rfl, hg⟩
  case loop => simp at h

theorem toG_loop {c : Code} {x : GCode} (h : toG C N c = some (.loop x)) : ∃ b, c = .loop b ∧ toG C N b = some x := by
  cases c <;> simp only [toG] at h <;> first | (cases h; done) | skip
  case region => (repeat' split at h) <;> cases h
  case seq => split at h <;> cases h
  case cond => split at h <;> cases h
  case block => simp at h
  case loop b =>
    simp only [Option.map_eq_some_iff] at h
    obtain ⟨g, hg, he⟩ := h
    cases he
    exact ⟨_, rfl, hg⟩

theorem strip_seq {a b : GCode} (h : a ≠ .weak) : (GCode.seq a b).strip = .seq a.strip b.strip := by
  cases a <;> first | rfl | exact absurd rfl h

/-- **What the abstract machine allows, the model does.** -/
theorem code_sound (S : Sys P C) (hm : ConMono C) (hmix : P.follows .mixedOrders = true) : ∀ (G : GCode) (c : Code), toG C N c = some G.strip → ∀ (Q : Exit → St → Prop) (β : Bt) (σ : St) (a : Act) (w : World),
    Inv F s₀ β₀ w₀ N β σ a w → avp C G Q σ → c.wp P (PostE F s₀ β₀ w₀ N Q) a w := by
  intro G
  induction G with
  | weak => intro c hG; exact absurd hG (toG_weak c)
  | skip =>
    intro c hG Q β σ a w h hc
    cases c <;> simp only [toG, GCode.strip] at hG <;> first | (cases hG; done) | ((repeat' split at hG) <;> cases hG; done) | (simp at hG; done) | skip
    exact wp_skip ⟨β, σ, hc, h⟩
  | orders t =>
    intro c hG Q β σ a w h hc
    cases c <;> simp only [toG, GCode.strip] at hG <;> first | (cases hG; done) | skip
    case region id ops' draw =>
      split at hG
      · next hx =>
        split at hG
        · cases hG
        · next hy =>
          cases hG
          simp only [Bool.and_eq_true] at hx
          obtain rfl : draw = true := by cases draw <;> simp_all
          exact orders_sound S hm hmix hx.2 h hc
      · cases hG
    case seq => split at hG <;> cases hG
    case cond => split at hG <;> cases hG
    case block => simp at hG
    case loop => simp at hG
  | region ops =>
    intro c hG Q β σ a w h hc
    cases c <;> simp only [toG, GCode.strip] at hG <;> first | (cases hG; done) | skip
    case region id ops' draw =>
      split at hG
      · next hx =>
        split at hG
        · next hy =>
          cases hG
          simp only [Bool.and_eq_true, Bool.or_eq_true, Bool.not_eq_true'] at hx hy
          exact region_sound S hm hmix hx.2 (fun hd => hy.resolve_left (by simp [hd])) h hc
        · cases hG
      · cases hG
    case seq => split at hG <;> cases hG
    case cond => split at hG <;> cases hG
    case block => simp at hG
    case loop => simp at hG
  | seq x y ihx ihy =>
    intro c hG Q β σ a w h hc
    by_cases hxw : x = .weak
    · subst hxw
      obtain ⟨σ', hk, hq⟩ := hc
      exact ihy c hG Q β σ' a w (weak_sound h hk) hq
    · rw [strip_seq hxw] at hG
      obtain ⟨c1, c2, rfl, h1, h2⟩ := toG_seq hG
      refine wp_seq (wp_mono (ihx c1 h1 _ β σ a w h hc) (then_of fun a' w' hp => ?_))
      obtain ⟨β', σ', hk, h'⟩ := hp
      exact ihy c2 h2 _ β' σ' a' w' h' hk
  | cond o x y ihx ihy =>
    intro c hG Q β σ a w h hc
    obtain ⟨c1, c2, rfl, h1, h2⟩ := toG_cond hG
    simp only [avp] at hc
    split at hc
    · next b hb =>
      have hr := h.ev o
      rw [hb] at hr
      have hev : a.eval o = .bool b := by
        generalize a.eval o = v at hr ⊢
        cases hr with | t _ _ hr => cases hr; rfl
      exact wp_cond_split hev (fun ht => ihx c1 h1 _ β σ a w h (hc.1 ht)) (fun hf => ihy c2 h2 _ β σ a w h (hc.2 hf))
    · exact hc.elim
  | block id b ih =>
    intro c hG Q β σ a w h hc
    obtain ⟨c1, rfl, h1⟩ := toG_block hG
    refine wp_block (wp_mono (ih c1 h1 _ β σ a w h hc) fun e a' w' hp => ?_)
    obtain ⟨β', σ', hk, h'⟩ := hp
    cases e with
    | exit id' =>
      simp only [Exit.inBlockA] at hk
      simp only [Exit.inBlock]
      split
      · next hid => rw [if_pos hid] at hk; exact ⟨β', σ', hk, h'⟩
      · next hid => rw [if_neg hid] at hk; exact ⟨β', σ', hk, h'⟩
    | _ => exact ⟨β', σ', hk, h'⟩
  | loop b ih =>
    intro c hG Q β σ a w h hc
    obtain ⟨c1, rfl, h1⟩ := toG_loop hG
    obtain ⟨n, hn⟩ := hc
    let G' : Nat → Act → World → Prop := fun n a w => ∃ β σ, Rounds (avp C b) Q n σ ∧ Inv F s₀ β₀ w₀ N β σ a w
    have hex : ∀ a w, ∃ m, (∃ n, G' n a w) → G' m a w ∧ ∀ k, G' k a w → m ≤ k := fun a w => by
      by_cases hx : ∃ n, G' n a w
      · obtain ⟨m, h1⟩ := least hx
        exact ⟨m, fun _ => h1⟩
      · exact ⟨0, fun hy => absurd hy hx⟩
    refine wp_loop (fun a w => ∃ n, G' n a w) (fun a w => Classical.choose (hex a w)) ⟨n, β, σ, hn, h⟩ fun a w hI => ?_
    obtain ⟨hm1, hm2⟩ := Classical.choose_spec (hex a w) hI
    obtain ⟨β₁, σ₁, hr, h₁⟩ := hm1
    generalize hmm : Classical.choose (hex a w) = m at hr ⊢
    cases m with
    | zero => exact hr.elim
    | succ m =>
      refine wp_mono (ih c1 h1 _ β₁ σ₁ a w h₁ hr) (then_of fun a' w' hp => ?_)
      obtain ⟨β', σ', hk, h'⟩ := hp
      have hI' : ∃ n, G' n a' w' := ⟨m, β', σ', hk, h'⟩
      exact ⟨hI', Nat.lt_succ_of_le ((Classical.choose_spec (hex a' w') hI').2 m ⟨β', σ', hk, h'⟩)⟩
  | exit id =>
    intro c hG Q β σ a w h hc
    cases c <;> simp only [toG, GCode.strip] at hG <;> first | (cases hG; done) | ((repeat' split at hG) <;> cases hG; done) | (simp at hG; done) | skip
    cases hG
    exact wp_exit ⟨β, σ, hc, h⟩
  | ret =>
    intro c hG Q β σ a w h hc
    cases c <;> simp only [toG, GCode.strip] at hG <;> first | (cases hG; done) | ((repeat' split at hG) <;> cases hG; done) | (simp at hG; done) | skip
    exact wp_ret ⟨β, σ, hc, h⟩

end
end Go.Eng

namespace Go.Eng
section
variable {C : Ctx} {P : Program} {N : Nat} {F A : Addr → Prop} {β : Bt} {w : World} {σ : St} {a : Act} {s s' s'' : Store}

def Sub (s s' : Store) : Prop := ∀ g e, s.f g = some e → s'.f g = some e

theorem Sub.own (h : Sub s'' s') (a : Addr) (ha : OwnOf β s'' a) : OwnOf β s' a := by
  obtain ⟨g, b, h1, h2, h3⟩ := ha
  cases hf : s''.f g with
  | none => rw [hf] at h3; exact h3.elim
  | some e => exact ⟨g, b, h1, h2, by rw [h _ _ hf, ← hf]; exact h3⟩

theorem Sub.stOk (h : Sub s'' s') (hs : StOk F β s' w) : StOk F β s'' w := hs.shrink h.own fun g e he => ⟨e, h _ _ he, fun _ h => h⟩

theorem Frame.less {O₀ O O' : Addr → Prop} {β₀ : Bt} {w₀ : World} (h : Frame O₀ β₀ w₀ O β w) (ho : ∀ a, O' a → O a) : Frame O₀ β₀ w₀ O' β w :=
  ⟨h.os, h.tape, h.output, h.size, h.block, h.cell, h.shape, fun b off hb ha => h.own b off hb (ho _ ha), h.ext, h.new⟩

def resB (C : Ctx) (σ : St) : ResultVar → B
  | .tmp t => .val True (σ.get t)
  | .cell a t => loadB C σ.st t (σ.get a)

def packA : List AV → AV
  | [x] => x
  | xs => .tup xs

/-- What a function's end has to come to. -/
def Ret (C : Ctx) (rs : List ResultVar) (Q : AV → Store → Prop) : Exit → St → Prop
  | .normal, σ | .ret, σ => (∀ r ∈ rs, (resB C σ r).c) ∧ Q (packA (rs.map fun r => (resB C σ r).av [])) σ.st
  | _, _ => False

theorem mapM_list {α : Type} {f : α → Sem Value} (g : α → Value) : ∀ l : List α, (∀ x ∈ l, (f x).run P w = .ok (g x) w) → (l.mapM f).run P w = .ok (l.map g) w := by
  intro l
  induction l with
  | nil => intro _; simp
  | cons x r ih =>
    intro h
    rw [List.mapM_cons]
    simp [h x (by simp), ih fun y hy => h y (by simp [hy])]

theorem mapM_run {α : Type} {f : α → Sem Value} {as : Array α} (g : α → Value) (hf : ∀ x ∈ as, (f x).run P w = .ok (g x) w) : (as.mapM f).run P w = .ok (as.map g) w := by
  rw [Array.mapM_eq_mapM_toList]
  rw [map_eq_pure_bind]
  have := mapM_list (P := P) (w := w) (f := f) g as.toList fun x hx => hf x (by simpa using hx)
  simp only [Sem.run_bind, this, Result.andThen_ok]
  rw [← Array.toList_map, Array.toArray_toList]
  rfl

theorem sure_as {T : TypeId} {v u : Value} (h : (Instr.loadAt T v).run P w = .ok u w) : (do loadVar T (← asAddr v) : Sem Value).run P w = .ok u w := by
  unfold Instr.loadAt at h
  cases v with
  | pointer p =>
    cases p with
    | some a => simpa [asAddr, Instr.sureAddr] using h
    | none => simp [Instr.sureAddr, stuck] at h
  | _ => simp [Instr.sureAddr, stuck] at h

def resV (tmps : Array Value) : ResultVar → Sem Value
  | .tmp t => pure (tmps.getD t undef)
  | .cell b t => do loadVar t (← asAddr (tmps.getD b undef))

theorem results_eq (fn : Func) (tmps : Array Value) : results fn tmps = (do
  let vs ← fn.results.mapM (resV tmps)
  pure (if h : vs.size = 1 then vs[0] else .tuple vs)) := rfl

theorem pack_rep {A : Addr → Prop} (rs : Array ResultVar) (f : ResultVar → AV) (g : ResultVar → Value) (h : ∀ r ∈ rs.toList, Rep β w A (f r) (g r)) :
    Rep β w A (packA (rs.toList.map f)) (if h : (rs.map g).size = 1 then (rs.map g)[0] else .tuple (rs.map g)) := by
  obtain ⟨l⟩ := rs
  match l with
  | [x] => simpa [packA] using h x (by simp)
  | [] =>
    simp [packA]
    exact .tup _ _ rfl fun i hi => by simp at hi
  | x :: y :: r =>
    simp only [packA, List.map_cons, List.size_toArray, List.map_toArray, List.length_cons, List.length_map]
    rw [dif_neg (by omega)]
    refine .tup _ _ (by simp) fun i hi => ?_
    have hi' : i < (x :: y :: r).length := by simpa using hi
    have := h (x :: y :: r)[i] (List.getElem_mem hi')
    have e1 : (f x :: f y :: List.map f r).getD i .unk = f (x :: y :: r)[i] := by
      rw [show (f x :: f y :: List.map f r) = List.map f (x :: y :: r) from rfl]
      simp only [List.getD_eq_getElem?_getD, List.getElem?_map, List.getElem?_eq_getElem hi', Option.map_some, Option.getD_some]
    have e2 : (g x :: g y :: List.map g r).toArray.getD i undef = g (x :: y :: r)[i] := by
      rw [show (g x :: g y :: List.map g r) = List.map g (x :: y :: r) from rfl]
      simp only [Array.getD_eq_getD_getElem?, List.getElem?_toArray, List.getElem?_map, List.getElem?_eq_getElem hi', Option.map_some, Option.getD_some]
    rw [e1, e2]
    exact this

theorem results_sound (hT : TyOk P C.ty) {s₀ : Store} {β₀ : Bt} {w₀ : World} {fn : Func} (h : Inv F s₀ β₀ w₀ N β σ a w) (hc : ∀ r ∈ fn.results.toList, (resB C σ r).c) :
    ∃ v, (results fn a.tmps).run P w = .ok v w ∧ Rep β w (Or2 F (OwnOf β σ.st)) (packA (fn.results.toList.map fun r => (resB C σ r).av [])) v := by
  have one : ∀ r, r ∈ fn.results.toList → ∃ v, (resV a.tmps r).run P w = .ok v w ∧
      Rep β w (Or2 F (OwnOf β σ.st)) ((resB C σ r).av []) v := by
    intro r hr
    have hcr := hc r hr
    cases r with
    | tmp t => exact ⟨_, rfl, h.slots t⟩
    | cell b t =>
      obtain ⟨_, _, v, h1, h2⟩ := loadB_sound (P := P) hT h.st (h.slots b) hcr
      exact ⟨v, sure_as h1, h2⟩
  classical
  obtain ⟨g, hg⟩ : ∃ g : ResultVar → Value, ∀ r ∈ fn.results.toList, (resV a.tmps r).run P w = .ok (g r) w ∧ Rep β w (Or2 F (OwnOf β σ.st)) ((resB C σ r).av []) (g r) := by
    refine ⟨fun r => if hr : r ∈ fn.results.toList then Classical.choose (one r hr) else undef, fun r hr => ?_⟩
    have := Classical.choose_spec (one r hr)
    simp only [dif_pos hr]
    exact this
  have hm := mapM_run (P := P) (w := w) (as := fn.results) g fun r hr => (hg r (by simpa using hr)).1
  rw [results_eq]
  simp only [Sem.run_bind]
  refine ⟨if h : (fn.results.map g).size = 1 then (fn.results.map g)[0] else .tuple (fn.results.map g), ?_, ?_⟩
  · rw [hm]
    simp
  · exact pack_rep fn.results _ g fun r hr => (hg r hr).2

end
end Go.Eng

namespace Go.Eng
section
variable {C : Ctx} {P : Program} {N : Nat} {F A : Addr → Prop} {β : Bt} {w : World} {σ : St} {a : Act} {s s' s'' : Store}

/-- The state in which a function begins. -/
def entry (as : List AV) (s : Store) : St := ⟨fun n => as.getD n .unk, s⟩

theorem start_inv (hs : StOk F β s w) {as : List AV} {vs : Array Value} (ha : Args β w (Or2 F (OwnOf β s)) as vs) {n : Nat} (hn : as.length ≤ n) :
    Inv F s β w n β (entry as s) { tmps := vs ++ Array.replicate (n - vs.size) undef, defers := [] } w := by
  refine ⟨hs, fun k => ?_, Frame.refl _ _ _, .refl _ _, ?_, rfl⟩
  · by_cases hk : k < as.length
    · have := ha.2 k hk
      have e : (vs ++ Array.replicate (n - vs.size) undef).getD k undef = vs.getD k undef := by
        have : k < vs.size := by rw [← ha.1]; exact hk
        simp [Array.getD_eq_getD_getElem?, Array.getElem?_append_left this]
      change Rep β w _ (as.getD k .unk) _
      rw [e]
      exact this
    · have : (entry as s).get k = .unk := by
        change as.getD k .unk = .unk
        rw [List.getD_eq_getElem?_getD, List.getElem?_eq_none (by omega)]
        rfl
      rw [this]
      exact .unk _
  · have := ha.1
    simp
    omega

theorem fn_calls (S : Sys P C) (hm : ConMono C) (hmix : P.follows .mixedOrders = true) {f : FuncId} {fn : Func} {c : Code} {G : GCode} (hf : P.funcs[f]? = some fn) (hb : fn.body = some c) (hG : toG C fn.ntmps c = some G.strip)
    {as : List AV} {vs : Array Value} {Q : AV → Store → Prop} (hlen : as.length ≤ fn.ntmps) (hs : StOk F β s w) (ha : Args β w (Or2 F (OwnOf β s)) as vs)
    (hc : avp C G (Ret C fn.results.toList fun r s' => ∃ s'', Sub s'' s' ∧ Q r s'') (entry as s)) :
    Calls P f vs w fun e w' => ∃ β' r s' v, e = .returned v ∧ Q r s' ∧ StOk F β' s' w' ∧ Rep β' w' (Or2 F (OwnOf β' s')) r v ∧ Frame (OwnOf β s) β w (OwnOf β' s') β' w' ∧ Grew β s s' := by
  refine calls_of_wp hf hb (wp_mono (code_sound S hm hmix G c hG _ β _ _ w (start_inv hs ha hlen) hc) fun e a' w' hp => ?_)
  obtain ⟨β', σ', hq, h⟩ := hp
  have key : ∀ (hq : (∀ r ∈ fn.results.toList, (resB C σ' r).c) ∧ ∃ s'', Sub s'' σ'.st ∧ Q (packA (fn.results.toList.map fun r => (resB C σ' r).av [])) s''),
      a'.defers = [] ∧ ∃ v, (results fn a'.tmps).run P w' = .ok v w' ∧ ∃ β' r s' v', Ending.returned v = .returned v' ∧ Q r s' ∧ StOk F β' s' w' ∧ Rep β' w' (Or2 F (OwnOf β' s')) r v' ∧ Frame (OwnOf β s) β w (OwnOf β' s') β' w' ∧ Grew β s s' := by
    rintro ⟨h1, s'', h2, h3⟩
    obtain ⟨v, h4, h5⟩ := results_sound S.ty h h1
    refine ⟨h.defers, v, h4, β', _, s'', v, rfl, h3, h2.stOk h.st, h5.mono fun a ha => ha.imp id (h2.own a), h.fr.less h2.own, fun g hg => ?_⟩
    refine h.grew g fun h0 => ?_
    cases hx : s''.f g with
    | none => exact hg hx
    | some e => rw [h2 _ _ hx] at h0; cases h0
  cases e with
  | normal => exact key hq
  | ret => exact key hq
  | _ => exact hq.elim

theorem own_empty (a : Addr) : ¬ OwnOf β .empty a := fun ⟨g, b, _, _, h⟩ => h

theorem empty_ok (h1 : ∀ a, A a → a.block < w.heap.size) (h2 : ∃ N, ∀ g, N ≤ g → β g = none) (h3 : ∀ g b, β g = some (some b) → b < w.heap.size) : StOk A β .empty w :=
  ⟨fun g e h => (by cases h), fun g h b hg => absurd rfl hg, h2, h3, h1, fun a _ g hg => absurd rfl hg⟩

theorem adds_some : ∀ {s : Store} (gs : List Nat) (es : List Entry), Fresh s gs es → ∀ g ∈ gs, (s.adds gs es).f g ≠ none
  | _, [], _, _, g, hg => by simp at hg
  | _, _ :: _, [], h, _, _ => h.elim
  | s, g :: gs, e :: es, h, k, hk => by
    simp only [Store.adds]
    by_cases hk2 : k ∈ gs
    · exact adds_some gs es h.2 k hk2
    · rw [adds_other gs es k hk2]
      rcases List.mem_cons.1 hk with rfl | h3
      · rw [Store.set_same]; simp
      · exact absurd h3 hk2

theorem pure_of (S : Sys P C) (hm : ConMono C) (hmix : P.follows .mixedOrders = true) {f : FuncId} {fn : Func} {b : Code} {G : GCode} (hf : P.funcs[f]? = some fn) (hb : fn.body = some b) (hG : toG C fn.ntmps b = some G.strip)
    {c : List AV → Prop} {es : List AV → List Entry} {mk : List AV → List Nat → AV}
    (hc : ∀ as, c as → as.length ≤ fn.ntmps ∧ avp C G (Ret C fn.results.toList fun r s' => ∃ gs, Fresh .empty gs (es as) ∧ r = mk as gs ∧ Sub (Store.empty.adds gs (es as)) s') (entry as .empty)) : PureOk P f c es mk := by
  intro as vs β w A h1 h2 h3 ha hca
  obtain ⟨hl, hv⟩ := hc as hca
  have hs := empty_ok h1 h2 h3
  have ha' : Args β w (Or2 A (OwnOf β .empty)) as vs := ⟨ha.1, fun i hi => (ha.2 i hi).mono fun a h => h.elim id fun h => (own_empty a h).elim⟩
  refine (fn_calls S hm hmix hf hb hG (Q := fun r s' => ∃ gs, Fresh .empty gs (es as) ∧ r = mk as gs ∧ s' = Store.empty.adds gs (es as)) hl hs ha' ?_).mono ?_
  · have hq : (fun (r : AV) (s' : Store) => ∃ gs, Fresh .empty gs (es as) ∧ r = mk as gs ∧ Sub (Store.empty.adds gs (es as)) s') =
        fun r s' => ∃ s'', Sub s'' s' ∧ ∃ gs, Fresh .empty gs (es as) ∧ r = mk as gs ∧ s'' = Store.empty.adds gs (es as) := by
      funext r s'
      refine propext ⟨fun ⟨gs, q1, q2, q3⟩ => ⟨_, q3, gs, q1, q2, rfl⟩, fun ⟨s'', q3, gs, q1, q2, q4⟩ => ⟨gs, q1, q2, q4 ▸ q3⟩⟩
    rw [hq] at hv
    exact hv
  · rintro e w' ⟨β', r, s', v, rfl, ⟨gs, q1, rfl, rfl⟩, q4, q5, q6, q7⟩
    refine ⟨β', gs, v, rfl, q1, fun g hg => (q7 g (adds_some gs _ q1 g hg)).resolve_left (fun h => h rfl), q4, ?_, q5⟩
    have : OwnOf β .empty = Nothing := by funext a; exact propext ⟨fun h => own_empty a h, False.elim⟩
    rw [this] at q6
    exact q6

def AV.scal : AV → Bool
  | .t (.int _ _) => true
  | .t (.bool _) => true
  | .t (.str _) => true
  | .tup l => l.attach.all fun ⟨x, _⟩ => x.scal
  | .agg l => l.attach.all fun ⟨x, _⟩ => x.scal
  | _ => false

theorem scal_any {β' : Bt} {w' : World} {A' : Addr → Prop} {x : AV} {v : Value} (h : Rep β w A x v) (hx : x.scal = true) : Rep β' w' A' x v := by
  induction h with
  | t x v h =>
    cases h <;> first | (simp [AV.scal] at hx; done) | skip
    · exact .t _ _ (.int _ _)
    · exact .t _ _ (.bool _)
    · exact .t _ _ (.str _)
  | tup cs vs hl h ih =>
    refine .tup cs vs hl fun i hi => ih i hi ?_
    simp only [AV.scal, List.all_eq_true] at hx
    have := hx ⟨cs[i], List.getElem_mem hi⟩ (List.mem_attach _ _)
    simpa [List.getD_eq_getElem?_getD, hi] using this
  | agg cs vs hl h1 h ih =>
    refine .agg cs vs hl h1 fun i hi => ih i hi ?_
    simp only [AV.scal, List.all_eq_true] at hx
    have := hx ⟨cs[i], List.getElem_mem hi⟩ (List.mem_attach _ _)
    simpa [List.getD_eq_getElem?_getD, hi] using this
  | _ => simp [AV.scal] at hx

theorem scal_of (S : Sys P C) (hm : ConMono C) (hmix : P.follows .mixedOrders = true) {f : FuncId} {fn : Func} {b : Code} {G : GCode} (hf : P.funcs[f]? = some fn) (hb : fn.body = some b) (hG : toG C fn.ntmps b = some G.strip)
    {c : List AV → Prop} {r : List AV → AV}
    (hc : ∀ as, c as → (as.length ≤ fn.ntmps ∧ (r as).scal = true) ∧ avp C G (Ret C fn.results.toList fun x _ => x = r as) (entry as .empty)) : ScalOk P f c r := by
  intro as vs β w A h1 h2 h3 ha hca
  obtain ⟨⟨hl, hr⟩, hv⟩ := hc as hca
  have hs := empty_ok h1 h2 h3
  have ha' : Args β w (Or2 A (OwnOf β .empty)) as vs := ⟨ha.1, fun i hi => (ha.2 i hi).mono fun a h => h.elim id fun h => (own_empty a h).elim⟩
  refine (fn_calls S hm hmix hf hb hG (Q := fun x _ => x = r as) hl hs ha' ?_).mono ?_
  · have hq : (fun (x : AV) (_ : Store) => x = r as) = fun x s' => ∃ s'', Sub s'' s' ∧ x = r as := by
      funext x s'
      exact propext ⟨fun h => ⟨s', fun _ _ h => h, h⟩, fun ⟨_, _, h⟩ => h⟩
    rw [hq] at hv
    exact hv
  · rintro e w' ⟨β', x, s', v, rfl, rfl, q4, q5, q6, q7⟩
    have : OwnOf β .empty = Nothing := by funext a; exact propext ⟨fun h => own_empty a h, False.elim⟩
    rw [this] at q6
    exact ⟨_, β', v, rfl, q6, fun β w A => scal_any q5 hr⟩

theorem gen_of (S : Sys P C) (hm : ConMono C) (hmix : P.follows .mixedOrders = true) {f : FuncId} {fn : Func} {b : Code} {G : GCode} (hf : P.funcs[f]? = some fn) (hb : fn.body = some b) (hG : toG C fn.ntmps b = some G.strip)
    {T : List AV → Store → (AV → Store → Prop) → Prop} (h1 : ∀ as s Q Q', (∀ r t, Q r t → Q' r t) → T as s Q → T as s Q') (h2 : ∀ as s Q, T as s Q → ∃ r t, Q r t)
    (hc : ∀ as s Q, T as s Q → as.length ≤ fn.ntmps ∧ avp C G (Ret C fn.results.toList fun r s' => ∃ s'', Sub s'' s' ∧ Q r s'') (entry as s)) : GenOk P f T := by
  refine ⟨h1, h2, fun as vs β s w F Q hT hs ha => ?_⟩
  obtain ⟨hl, hv⟩ := hc as s Q hT
  exact fn_calls S hm hmix hf hb hG hl hs ha hv

end
end Go.Eng

namespace Go.Eng
section
variable {P : Program}

def shOf : TypeDesc → Option Sh
  | .int k => some (.int k)
  | .bool => some .bool
  | .string => some .str
  | .slice e => some (.slice e)
  | .array n e => some (.arr n e)
  | .struct fs => some (.struct (fs.toList.map fun f => (f.type, f.offset)))
  | .pointer e => some (.ptr e)
  | .func .. => some .fn
  | _ => none

theorem shOf_ok {u : TypeDesc} {s : Sh} (h : shOf u = some s) : shOk s u := by
  cases u <;> simp [shOf] at h <;> subst h <;> simp [shOk]

def allSome : List (Option TV) → Option (List TV)
  | [] => some []
  | some x :: r => (allSome r).map (x :: ·)
  | none :: _ => none

theorem allSome_ok : ∀ {l : List (Option TV)} {r : List TV}, allSome l = some r → l = r.map some
  | [], r, h => by simp [allSome] at h; subst h; rfl
  | some x :: t, r, h => by
    simp only [allSome, Option.map_eq_some_iff] at h
    obtain ⟨q, h1, rfl⟩ := h
    rw [allSome_ok h1]; rfl
  | none :: t, r, h => by simp [allSome] at h

def isAgg : Value → Bool
  | .agg _ => true
  | _ => false

def tyOf (P : Program) (t : TypeId) : Option TyD :=
  match P.info? t, P.underlying t with
  | some i, some u => match shOf u, i.zero with
    | some sh, some z => match allSome (z.cells.toList.map TV.ofValue) with
      | some zs => let d : TyD := ⟨sh, i.size, i.bytes, zs⟩
        if zs.length = i.size ∧ (if d.agg then isAgg z else z.oneCell') = true then some d else none
      | none => none
    | _, _ => none
  | _, _ => none

theorem tyOf_ok (P : Program) : TyOk P (tyOf P) := by
  intro t d h
  unfold tyOf at h
  split at h
  · next i u hi hu =>
    split at h
    · next sh z hsh hz =>
      split at h
      · next zs hzs =>
        dsimp only at h
        by_cases hc : zs.length = i.size ∧ (if (TyD.agg ⟨sh, i.size, i.bytes, zs⟩) then isAgg z else z.oneCell') = true
        · rw [if_pos hc] at h
          cases h
          refine ⟨i, u, z, hi, hu, shOf_ok hsh, rfl, rfl, hz, allSome_ok hzs, hc.1, fun ha => ?_, fun ha => ?_⟩
          · have := hc.2
            rw [if_pos ha] at this
            cases z <;> simp [isAgg] at this
            exact ⟨_, rfl⟩
          · have := hc.2
            rw [if_neg (by rw [ha]; simp)] at this
            exact this
        · rw [if_neg hc] at h; cases h
      · cases h
    · cases h
  · cases h

end
end Go.Eng

namespace Go.Eng

def gof (C : Ctx) (f : Func) : Option GCode := f.body.bind (toG C f.ntmps)

theorem gof_some {C : Ctx} {f : Func} {G : GCode} (h : gof C f = some G) : ∃ c, f.body = some c ∧ toG C f.ntmps c = some G := by
  unfold gof at h
  rw [Option.bind_eq_some_iff] at h
  exact h

end Go.Eng

namespace Go.Eng
section
variable {C : Ctx}

theorem aOps_mono (hm : ConMono C) : ∀ (l : List GOp) {K K' : St → Prop} {σ : St}, (∀ σ, K σ → K' σ) → aOps C l K σ → aOps C l K' σ
  | [], _, _, _, h, hc => h _ hc
  | _ :: r, _, _, _, h, hc => aOp_mono hm (fun _ _ hk => aOps_mono hm r h hk) hc

theorem thenA_mono {next next' : St → Prop} {Q Q' : Exit → St → Prop} (h1 : ∀ σ, next σ → next' σ) (h2 : ∀ e σ, Q e σ → Q' e σ) (e : Exit) (σ : St) (h : Exit.thenA next Q e σ) : Exit.thenA next' Q' e σ := by
  cases e <;> first | exact h1 _ h | exact h2 _ _ h

theorem inBlockA_mono {id : Nat} {Q Q' : Exit → St → Prop} (h2 : ∀ e σ, Q e σ → Q' e σ) (e : Exit) (σ : St) (h : Exit.inBlockA id Q e σ) : Exit.inBlockA id Q' e σ := by
  cases e with
  | exit k =>
    simp only [Exit.inBlockA] at h ⊢
    split
    · next hk => rw [if_pos hk] at h; exact h2 _ _ h
    · next hk => rw [if_neg hk] at h; exact h2 _ _ h
  | _ => exact h2 _ _ h

theorem rounds_mono {body : (Exit → St → Prop) → St → Prop} (hb : ∀ Q Q' σ, (∀ e σ, Q e σ → Q' e σ) → body Q σ → body Q' σ) {Q Q' : Exit → St → Prop} (h : ∀ e σ, Q e σ → Q' e σ) :
    ∀ n σ, Rounds body Q n σ → Rounds body Q' n σ
  | 0, _, hc => hc
  | n + 1, σ, hc => hb _ _ σ (thenA_mono (rounds_mono hb h n) h) hc

theorem avpT_mono (hm : ConMono C) {K K' : St → Prop} (h : ∀ σ, K σ → K' σ) : ∀ (t : OTree) {σ : St}, avpT C t K σ → avpT C t K' σ
  | .done, _, hc => h _ hc
  | .one _ t, _, hc => aOp_mono hm (fun _ _ hk => avpT_mono hm h t hk) hc
  | .both a b, _, hc => ⟨avpT_mono hm h a hc.1, avpT_mono hm h b hc.2⟩

theorem avp_mono (hm : ConMono C) : ∀ (G : GCode) (Q Q' : Exit → St → Prop) (σ : St), (∀ e σ, Q e σ → Q' e σ) → avp C G Q σ → avp C G Q' σ
  | .skip, _, _, _, h, hc => h _ _ hc
  | .region ops, _, _, _, h, hc => aOps_mono hm ops (h _) hc
  | .orders t, _, _, _, h, hc => avpT_mono hm (h _) t hc
  | .seq a b, _, _, _, h, hc => avp_mono hm a _ _ _ (thenA_mono (fun _ hk => avp_mono hm b _ _ _ h hk) h) hc
  | .cond c x y, Q, Q', σ, h, hc => by
    simp only [avp] at hc ⊢
    split at hc
    · exact ⟨fun hb => avp_mono hm x _ _ _ h (hc.1 hb), fun hb => avp_mono hm y _ _ _ h (hc.2 hb)⟩
    · exact hc.elim
  | .block id b, _, _, _, h, hc => avp_mono hm b _ _ _ (inBlockA_mono h) hc
  | .loop b, _, _, _, h, hc => let ⟨n, hn⟩ := hc; ⟨n, rounds_mono (fun Q Q' σ hq hk => avp_mono hm b Q Q' σ hq hk) h n _ hn⟩
  | .exit _, _, _, _, h, hc => h _ _ hc
  | .ret, _, _, _, h, hc => h _ _ hc
  | .weak, _, _, _, h, hc => let ⟨σ', hk, hq⟩ := hc; ⟨σ', hk, h _ _ hq⟩

/-- **Loops**: what holds at each round's beginning, and what goes down. -/
theorem loop_rule (hm : ConMono C) {b : GCode} {Q : Exit → St → Prop} {σ : St} (I : St → Prop) (μ : St → Nat) (h0 : I σ) (round : ∀ σ, I σ → avp C b (Exit.thenA (fun σ' => I σ' ∧ μ σ' < μ σ) Q) σ) :
    avp C (.loop b) Q σ := by
  have key : ∀ n σ, I σ → μ σ < n → Rounds (avp C b) Q n σ := by
    intro n
    induction n with
    | zero => intro σ _ h; omega
    | succ n ih =>
      intro σ hI hlt
      refine avp_mono hm b _ _ σ (thenA_mono (fun σ' hk => ih σ' hk.1 (by omega)) fun _ _ h => h) (round σ hI)
  exact ⟨μ σ + 1, key _ σ h0 (by omega)⟩

theorem conMono_of {P : Program} (h : ConOk P C) : ConMono C := fun f modes G hk => ⟨(h f _ hk).2.1, (h f _ hk).2.2.1⟩

theorem conOk_none {P : Program} (h : ∀ f, C.con f = none) : ConOk P C := fun f k hk => by rw [h f] at hk; cases hk

end
end Go.Eng

namespace Go.Eng
section
variable {C : Ctx}

theorem gT_val {c : Prop} {v : AV} {d : Option Nat} {K : St → Prop} {σ : St} : gT (.val c v) d K σ = (c ∧ K (σ.put d v)) := by
  refine propext ⟨fun ⟨h1, h2⟩ => ⟨h1, h2 [] trivial⟩, fun ⟨h1, h2⟩ => ⟨h1, fun gs hg => ?_⟩⟩
  cases gs with
  | nil => exact h2
  | cons _ _ => exact hg.elim

theorem gT_no {d : Option Nat} {K : St → Prop} {σ : St} : gT .no d K σ = False := propext ⟨fun h => h.1, False.elim⟩

theorem gT_new {c : Prop} {ros : List Nat} {e : Entry} {mk : Nat → AV} {d : Option Nat} {K : St → Prop} {σ : St} :
    gT (.new c ros e mk) d K σ = (c ∧ ∀ g, (σ.st.marks ros).f g = none → K (({ σ with st := (σ.st.marks ros).set g (some e) } : St).put d (mk g))) := by
  refine propext ⟨fun ⟨h1, h2⟩ => ⟨h1, fun g hg => h2 [g] ⟨hg, trivial⟩⟩, fun ⟨h1, h2⟩ => ⟨h1, fun gs hg => ?_⟩⟩
  match gs, hg with
  | [g], hg => exact h2 g hg.1
  | [], hg => exact hg.elim
  | _ :: _ :: _, hg => exact hg.2.elim

theorem get_puts {σ : St} {k n : Nat} {v : AV} : (σ.put (some k) v).get n = if n = k then v else σ.get n := rfl
theorem put_none {σ : St} {v : AV} : σ.put none v = σ := rfl
theorem st_puts {σ : St} {k : Nat} {v : AV} : (σ.put (some k) v).st = σ.st := rfl
theorem get_start {as : List AV} {s : Store} {n : Nat} : (entry as s).get n = as.getD n .unk := rfl
theorem st_start {as : List AV} {s : Store} : (entry as s).st = s := rfl

/-- An operation without a guard that no order has to respect. -/
theorem aOp_go {d : Option Nat} {o : Op} {K : St → Prop} {σ : St} (h : barOf C o = none) : aOp C ⟨d, none, o⟩ K σ = gT (opB C σ.ev σ.st o) d K σ := by
  unfold aOp
  rw [h]
  rfl

end
end Go.Eng
