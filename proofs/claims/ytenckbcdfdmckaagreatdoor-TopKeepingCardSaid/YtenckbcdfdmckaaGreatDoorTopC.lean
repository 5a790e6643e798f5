/-
  What Eng48 has (the whole fork builds now).
-/
import Derived.Test.YtenckbcdfdmckaaGreatDoorFnsB
import Derived.Lib.SliceRun
import Derived.Lib.SlicesDelete
import Derived.Deep.RegionLaw
import Derived.WalkKit
import Derived.Deep.MidRow
import Derived.Test.YtenckbcdfdmckaaGreatDoorProg
set_option linter.unusedSimpArgs false
set_option linter.unusedVariables false

namespace Go.Top
open Go Go.Eng
universe u
variable {α : Type u} {β : Type u}

/-! ### Whatever contracts -/
theorem bodyK_ctx (ty : TypeId → Option TyD) (eqk : TypeId → Option (List Nat)) (con con' : FuncId → Option Con) (O : Orc) (L : Nat) (G : GCode) (rs : List ResultVar) (args : List CV) (t : St) (nx : Nat) (k : CV → St → Nat → Option β) :
    bodyK ⟨ty, eqk, con⟩ O L G rs args t nx k = bodyK ⟨ty, eqk, con'⟩ O L G rs args t nx k := rfl

def isGen (k : Option Con) : Bool := match k with
  | some (.gen _ _) => true
  | _ => false
theorem barOf_con {C C' : Ctx} (h : ∀ f, isGen (C.con f) = isGen (C'.con f)) : barOf C = barOf C' := by
  funext o
  cases o <;> try rfl
  case call c =>
    obtain ⟨callee, args, argTypes⟩ := c
    cases callee with
    | value q =>
      cases q with
      | func f =>
        have := h f
        unfold barOf
        dsimp only
        cases h1 : C.con f with
        | none => rw [h1] at this; cases h2 : C'.con f with
          | none => rfl
          | some k => rw [h2] at this; cases k <;> first | rfl | (cases this)
        | some k =>
          rw [h1] at this
          cases h2 : C'.con f with
          | none => rw [h2] at this; cases k <;> first | rfl | (cases this)
          | some k' => rw [h2] at this; cases k <;> cases k' <;> first | rfl | (cases this)
      | _ => rfl
    | builtin b => cases b <;> rfl
    | invoke _ _ => rfl
theorem okPair_con {C C' : Ctx} (h : barOf C = barOf C') : okPair C = okPair C' := by
  funext ops x y; unfold okPair; rw [h]
theorem orderOk_con {C C' : Ctx} (h : barOf C = barOf C') : orderOk C = orderOk C' := by
  funext ops; unfold orderOk; rw [okPair_con h]
theorem safeAt_con {C C' : Ctx} (h : barOf C = barOf C') : safeAt C = safeAt C' := by
  funext ops ws listed i; unfold safeAt; rw [okPair_con h]
theorem orders_con {C C' : Ctx} (h : barOf C = barOf C') : ∀ (ops : Array Oper) (ws : List Nat) (n : Nat) (listed : Array Bool), orders C ops ws n listed = orders C' ops ws n listed
  | ops, ws, 0, listed => rfl
  | ops, ws, n + 1, listed => by
    have ih := orders_con h ops ws n
    simp only [orders, safeAt_con h, ih]
theorem toG_con {C C' : Ctx} (h : barOf C = barOf C') (N : Nat) : ∀ c : Code, toG C N c = toG C' N c
  | .region id ops draw => by simp only [toG, orderOk_con h, orders_con h]
  | .seq a b => by simp only [toG, toG_con h N a, toG_con h N b]
  | .cond c a b => by simp only [toG, toG_con h N a, toG_con h N b]
  | .block id b => by simp only [toG, toG_con h N b]
  | .loop b => by simp only [toG, toG_con h N b]
  | .skip | .exit _ | .ret | .rangeFunc .. | .scope _ | .label _ | .goto _ | .refuse _ => rfl

/-! ### There is always an end -/
theorem aOps_ex {C : Ctx} (hm : ConMono C) : ∀ (l : List GOp) {K : Eng.St → Prop} {σ : Eng.St}, aOps C l K σ → ∃ σ', K σ'
  | [], _, σ, h => ⟨σ, h⟩
  | _ :: r, _, _, h => by
    obtain ⟨σ', h1⟩ := aOp_ex hm h
    exact aOps_ex hm r h1
theorem avpT_ex {C : Ctx} (hm : ConMono C) : ∀ (t : OTree) {K : Eng.St → Prop} {σ : Eng.St}, avpT C t K σ → ∃ σ', K σ'
  | .done, _, σ, h => ⟨σ, h⟩
  | .one _ t, _, _, h => by
    obtain ⟨σ', h1⟩ := aOp_ex hm h
    exact avpT_ex hm t h1
  | .both a _, _, _, h => avpT_ex hm a h.1
theorem avp_ex {C : Ctx} (hm : ConMono C) : ∀ (G : GCode) {Q : Exit → Eng.St → Prop} {σ : Eng.St}, avp C G Q σ → ∃ e σ', Q e σ'
  | .skip, _, σ, h => ⟨_, σ, h⟩
  | .region ops, _, _, h => by obtain ⟨σ', h1⟩ := aOps_ex hm ops h; exact ⟨_, σ', h1⟩
  | .orders t, _, _, h => by obtain ⟨σ', h1⟩ := avpT_ex hm t h; exact ⟨_, σ', h1⟩
  | .seq a b, Q, _, h => by
    obtain ⟨e, σ', h1⟩ := avp_ex hm a h
    cases e with
    | normal => exact avp_ex hm b h1
    | _ => exact ⟨_, σ', h1⟩
  | .cond c x y, Q, σ, h => by
    simp only [avp] at h
    split at h
    · next b _ =>
      cases b with
      | true => exact avp_ex hm x (h.1 rfl)
      | false => exact avp_ex hm y (h.2 rfl)
    · exact h.elim
  | .block id b, Q, _, h => by
    obtain ⟨e, σ', h1⟩ := avp_ex hm b h
    cases e with
    | exit k =>
      simp only [Exit.inBlockA] at h1
      split at h1
      · exact ⟨_, σ', h1⟩
      · exact ⟨_, σ', h1⟩
    | _ => exact ⟨_, σ', h1⟩
  | .loop b, Q, σ, h => by
    obtain ⟨n, hn⟩ := h
    induction n generalizing σ with
    | zero => exact hn.elim
    | succ n ih =>
      obtain ⟨e, σ', h1⟩ := avp_ex hm b hn
      cases e with
      | normal => exact ih σ' h1
      | _ => exact ⟨_, σ', h1⟩
  | .exit _, _, σ, h => ⟨_, σ, h⟩
  | .ret, _, σ, h => ⟨_, σ, h⟩
  | .weak, _, _, ⟨σ', _, h⟩ => ⟨_, σ', h⟩

/-! ### Levels -/
/-- What the machine is about: types; the functions that it carries out, their kinds, code, results, how many parameters; the functions whose contracts are given. -/
structure Env where
  ty : TypeId → Option TyD
  eqk : TypeId → Option (List Nat)
  kd : Nat → Knd
  G : Nat → GCode
  rs : Nat → List ResultVar
  np : Nat → Nat
  L : Nat
  base : Nat → Option Con
  O0 : Orc

noncomputable def Env.c0 (E : Env) : Ctx := ⟨E.ty, E.eqk, fun _ => none⟩
noncomputable def Env.scalN (E : Env) (O : Orc) (f : Nat) (args : List CV) : Option CV :=
  bif lenIs args (E.np f) then bodyK E.c0 O E.L (E.G f) (E.rs f) args [] 0 fun v _ _ => scal2 v (some v) else none
noncomputable def Env.pureN (E : Env) (O : Orc) (f : Nat) (args : List CV) : Option (CV × List Ent) :=
  bif lenIs args (E.np f) then bodyK E.c0 O E.L (E.G f) (E.rs f) args [] 0 fun v t _ => exp2 v t fun v es => some (v, es) else none
noncomputable def Env.genN (E : Env) (O : Orc) (f : Nat) (args : List CV) (t : St) (nx : Nat) : Option (CV × St × Nat) :=
  bif lenIs args (E.np f) then bodyK E.c0 O E.L (E.G f) (E.rs f) args t nx fun v t n => some (v, t, n) else none
noncomputable def kdOr (a b : Knd) : Knd := match a with
  | .no => b
  | k => k
noncomputable def isNo (k : Knd) : Bool := match k with
  | .no => true
  | _ => false
noncomputable def Env.next (E : Env) (O : Orc) : Orc where
  kind f := kdOr (E.O0.kind f) (E.kd f)
  scal f args := bif isNo (E.O0.kind f) then E.scalN O f args else E.O0.scal f args
  pure f args := bif isNo (E.O0.kind f) then E.pureN O f args else E.O0.pure f args
  gen f args t nx := bif isNo (E.O0.kind f) then E.genN O f args t nx else E.O0.gen f args t nx
noncomputable def Env.bot (E : Env) : Orc where
  kind f := kdOr (E.O0.kind f) (E.kd f)
  scal f args := bif isNo (E.O0.kind f) then none else E.O0.scal f args
  pure f args := bif isNo (E.O0.kind f) then none else E.O0.pure f args
  gen f args t nx := bif isNo (E.O0.kind f) then none else E.O0.gen f args t nx
noncomputable def Env.orc (E : Env) (n : Nat) : Orc := Nat.rec E.bot (fun _ O => E.next O) n

/-- The contract of a function that is carried out over those below. -/
noncomputable def Env.con1 (E : Env) (C : Ctx) (O : Orc) (f : Nat) : Option Con := match E.O0.kind f with
  | .no => match E.kd f with
    | .no => none
    | .scal => some (.scal (fun us => (RL nor (concL us) us ∧ us.length ≤ E.np f) ∧ (E.scalN O f (concL us)).isSome = true) fun us => absR nor ((E.scalN O f (concL us)).getD .unk))
    | .pure => some (.pure (fun us => (RL nor (concL us) us ∧ us.length ≤ E.np f) ∧ (E.pureN O f (concL us)).isSome = true)
        (fun us => ((E.pureN O f (concL us)).map (·.2)).getD [] |>.map fun e => match e with | .row n _ l ro => .row n (tvR l) ro | .box cs ro => .box (absRL nor cs) ro)
        fun us gs => absR (fun k => gs[k]?) (((E.pureN O f (concL us)).map (·.1)).getD .unk))
    | .gen => some (.gen (List.replicate (E.np f) true) fun us s Q => us.length = E.np f ∧ avp C (E.G f) (Ret C (E.rs f) fun r s' => ∃ s'', Sub s'' s' ∧ Q r s'') (entry us s))
  | _ => E.base f
noncomputable def Env.con0 (E : Env) (f : Nat) : Option Con := match E.O0.kind f with
  | .no => match E.kd f with
    | .no => none
    | .scal => some (.scal (fun _ => False) fun _ => .unk)
    | .pure => some (.pure (fun _ => False) (fun _ => []) fun _ _ => .unk)
    | .gen => some (.gen [] fun _ _ _ => False)
  | _ => E.base f
noncomputable def Env.ctx (E : Env) (n : Nat) : Ctx := Nat.rec ⟨E.ty, E.eqk, E.con0⟩ (fun n C => ⟨E.ty, E.eqk, E.con1 C (E.orc n)⟩) n

/-- What has to be shown of the functions that are carried out. -/
structure EnvOk (P : Program) (E : Env) : Prop where
  ty : TyOk P E.ty
  eq : ∀ con, EqOk P ⟨E.ty, E.eqk, con⟩
  nz : ∀ T ks, E.eqk T = some ks → ∀ k ∈ ks, k ≠ 0
  mix : P.follows .mixedOrders = true
  base : ConOk P ⟨E.ty, E.eqk, E.base⟩
  orc0 : OrcOk ⟨E.ty, E.eqk, E.base⟩ E.O0
  fns : ∀ f, E.O0.kind f = .no → isNo (E.kd f) = false → ∃ fn b, P.funcs[f]? = some fn ∧ (fn.name == "runtime.NumGoroutine") = false ∧ fn.body = some b ∧
    toG ⟨E.ty, E.eqk, fun f => match kdOr (E.O0.kind f) (E.kd f) with | .gen => some (.gen [] fun _ _ _ => False) | _ => none⟩ fn.ntmps b = some (E.G f).strip ∧ fn.results.toList = E.rs f ∧ E.np f ≤ fn.ntmps

variable {P : Program} {E : Env}

def kGen : Knd → Bool
  | .gen => true
  | _ => false

theorem orc_kind (n : Nat) (f : Nat) : (E.orc n).kind f = kdOr (E.O0.kind f) (E.kd f) := by cases n <;> rfl
theorem ctx_ty (n : Nat) : (E.ctx n).ty = E.ty ∧ (E.ctx n).eqk = E.eqk := by cases n <;> exact ⟨rfl, rfl⟩
theorem ctx_body {n : Nat} (O : Orc) (L : Nat) (G : GCode) (rs : List ResultVar) (args : List CV) (t : St) (nx : Nat) (k : CV → St → Nat → Option β) :
    bodyK E.c0 O L G rs args t nx k = bodyK (E.ctx n) O L G rs args t nx k := by cases n <;> rfl

theorem base_gen (EO : EnvOk P E) (f : Nat) (h : isNo (E.O0.kind f) = false) : isGen (E.base f) = kGen (E.O0.kind f) := by
  cases hk : E.O0.kind f with
  | no => rw [hk] at h; cases h
  | scal => obtain ⟨c, r, h1, _⟩ := EO.orc0.scal f hk; have h1 : E.base f = _ := h1; rw [h1]; rfl
  | pure => obtain ⟨c, es, mk, h1, _⟩ := EO.orc0.pure f hk; have h1 : E.base f = _ := h1; rw [h1]; rfl
  | gen => obtain ⟨m, F, h1, _⟩ := EO.orc0.gen f hk; have h1 : E.base f = _ := h1; rw [h1]; rfl

theorem ctx_gen (EO : EnvOk P E) (n : Nat) (f : Nat) : isGen ((E.ctx n).con f) = kGen (kdOr (E.O0.kind f) (E.kd f)) := by
  cases n with
  | zero =>
    show isGen (E.con0 f) = _
    unfold Env.con0
    cases hk : E.O0.kind f with
    | no => cases hd : E.kd f <;> rfl
    | _ => exact (base_gen EO f (by rw [hk]; rfl)).trans (by rw [hk]; rfl)
  | succ n =>
    show isGen (E.con1 (E.ctx n) (E.orc n) f) = _
    unfold Env.con1
    cases hk : E.O0.kind f with
    | no => cases hd : E.kd f <;> rfl
    | _ => exact (base_gen EO f (by rw [hk]; rfl)).trans (by rw [hk]; rfl)

theorem ctx_toG (EO : EnvOk P E) {n : Nat} {f : Nat} (h : E.O0.kind f = .no) (hd : isNo (E.kd f) = false) : ∃ fn b, P.funcs[f]? = some fn ∧ FnOk P f ∧ fn.body = some b ∧
    toG (E.ctx n) fn.ntmps b = some (E.G f).strip ∧ fn.results.toList = E.rs f ∧ E.np f ≤ fn.ntmps := by
  obtain ⟨fn, b, h1, h2, h3, h4, h5, h6⟩ := EO.fns f h hd
  refine ⟨fn, b, h1, ⟨fn, h1, h2, by rw [h3]; rfl⟩, h3, ?_, h5, h6⟩
  rw [← h4]
  refine toG_con (barOf_con fun g => ?_) _ _
  rw [ctx_gen EO]
  show _ = isGen (match kdOr (E.O0.kind g) (E.kd g) with | .gen => some (.gen [] fun _ _ _ => False) | _ => none)
  cases kdOr (E.O0.kind g) (E.kd g) <;> rfl

theorem ret_mono {C : Ctx} {rs : List ResultVar} {Q Q' : AV → Store → Prop} (h : ∀ r s, Q r s → Q' r s) : ∀ e σ, Ret C rs Q e σ → Ret C rs Q' e σ := by
  intro e σ h1
  cases e <;> first
    | exact h1.elim
    | exact ⟨h1.1, h _ _ h1.2⟩

theorem empty_sim : SimS nor [] 0 Store.empty := ⟨fun g e h => (by cases h), fun g h x h1 => (h1 rfl).elim, fun g _ => rfl⟩

theorem isSome_of {α : Type} {o : Option α} (h : o.isSome = true) : ∃ x, o = some x := Option.isSome_iff_exists.1 h

/-- Base functions keep their contracts. -/
theorem base_con (EO : EnvOk P E) (n : Nat) {f : Nat} (h : isNo (E.O0.kind f) = false) : (E.ctx n).con f = E.base f := by
  cases n with
  | zero => show E.con0 f = _; unfold Env.con0; cases hk : E.O0.kind f <;> first | rfl | (rw [hk] at h; cases h)
  | succ n => show E.con1 (E.ctx n) (E.orc n) f = _; unfold Env.con1; cases hk : E.O0.kind f <;> first | rfl | (rw [hk] at h; cases h)

theorem scal_body {n : Nat} (S : Go.Eng.Sys P (E.ctx n)) (O : OrcOk (E.ctx n) (E.orc n)) {f : Nat} {args : List CV} {v : CV} (h : E.scalN (E.orc n) f args = some v) {us : List AV} (hu : RL nor args us) :
    args.length = E.np f ∧ R nor v (absR nor v) ∧ (absR nor v).scal = true ∧ avp (E.ctx n) (E.G f) (Ret (E.ctx n) (E.rs f) fun x _ => x = absR nor v) (entry us .empty) := by
  unfold Env.scalN at h
  cases hl : lenIs args (E.np f) with
  | false => rw [hl] at h; cases h
  | true =>
  rw [hl, cond_true, ctx_body (n := n)] at h
  obtain ⟨w, t', n', h1, h2⟩ := bodyK_some O h
  obtain ⟨h3, h4⟩ := scal2_some h1
  cases h3
  have key := h2 nor .empty us (fun x _ => R nor v x ∧ x.scal = true) empty_sim hu fun ρ' u s' hx hr hs => ⟨(h4 ρ' u hr).2, (h4 ρ' u hr).1⟩
  have hm := conMono_of S.con
  obtain ⟨e, σ', he⟩ := avp_ex hm _ key
  have hv : ∃ x, R nor v x ∧ x.scal = true := by
    cases e <;> first
      | exact he.elim
      | exact ⟨_, he.2⟩
  obtain ⟨x, hx1, hx2⟩ := hv
  have hax := abs_of hx1
  subst hax
  exact ⟨lenIs_iff hl, hx1, hx2, avp_mono hm _ _ _ _ (ret_mono fun r s hr => (abs_of hr.1).symm) key⟩

theorem absL_one {η : Ren} : ∀ {vs : List CV} {us : List AV}, RL η vs us → us.all AV.one = true → ∀ η', (absRL η' vs).all AV.one = true
  | [], _, _, _, _ => rfl
  | v :: vs, _, ⟨u, t, h1, h2, h3⟩, ho, η' => by
    subst h1
    simp only [List.all_cons, Bool.and_eq_true] at ho
    simp only [absRL, List.all_cons, Bool.and_eq_true]
    refine ⟨?_, absL_one h3 ho.2 η'⟩
    have h4 := ho.1
    cases v <;> simp only [R] at h2 <;> first
      | rfl
      | (obtain ⟨_, rfl⟩ := h2; simp [AV.one] at h4; done)
      | (obtain ⟨_, _, rfl⟩ := h2; simp [AV.one] at h4; done)
      | (subst h2; simp [AV.one] at h4)
mutual
/-- Other names for the same tokens. -/
theorem R.retok : ∀ {η η' : Ren} {v : CV} {u : AV}, R η v u → (∀ k g, η k = some g → ∃ g', η' k = some g') → R η' v (absR η' v)
  | _, _, .int .., _, _, _ => rfl
  | _, _, .bool _, _, _, _ => rfl
  | _, _, .str .., _, h, _ => ⟨h.1, rfl⟩
  | _, _, .t _, _, h, _ => ⟨h.1, h.2.1, rfl⟩
  | _, _, .tok .., _, ⟨g, h1, _⟩, hk => by obtain ⟨g', h2⟩ := hk _ g h1; exact ⟨g', h2, by simp only [absR, h2, Option.getD_some]⟩
  | _, _, .ptr .., _, ⟨g, h1, _⟩, hk => by obtain ⟨g', h2⟩ := hk _ g h1; exact ⟨g', h2, by simp only [absR, h2, Option.getD_some]⟩
  | _, _, .eptr .., _, ⟨g, h1, _⟩, hk => by obtain ⟨g', h2⟩ := hk _ g h1; exact ⟨g', h2, by simp only [absR, h2, Option.getD_some]⟩
  | _, _, .imm _, _, h, _ => ⟨h.1, rfl⟩
  | _, _, .fn .., _, ⟨us, h1, _⟩, hk => ⟨_, ⟨RL.retok h1.1 hk, absL_one h1.1 h1.2 _⟩, rfl⟩
  | _, _, .agg _, _, ⟨us, h1, _⟩, hk => ⟨_, ⟨RL.retok h1.1 hk, absL_one h1.1 h1.2 _⟩, rfl⟩
  | _, _, .tup _, _, ⟨us, h1, _⟩, hk => ⟨_, RL.retok h1 hk, rfl⟩
  | _, _, .opt _ v, _, ⟨w, h1, _⟩, hk => ⟨_, R.retok h1 hk, rfl⟩
  | _, _, .unk, _, _, _ => rfl
theorem RL.retok : ∀ {η η' : Ren} {vs : List CV} {us : List AV}, RL η vs us → (∀ k g, η k = some g → ∃ g', η' k = some g') → RL η' vs (absRL η' vs)
  | _, _, [], _, _, _ => rfl
  | _, _, _ :: _, _, ⟨u, t, _, h2, h3⟩, hk => ⟨_, _, rfl, R.retok h2 hk, RL.retok h3 hk⟩
end

theorem REs.uniq : ∀ {l : List Ent} {a b : List Entry}, REs l a → REs l b → a = b
  | [], _, _, h, k => by cases h; cases k; rfl
  | e :: l, _, _, ⟨x, t, h1, h2, h3⟩, ⟨y, q, k1, k2, k3⟩ => by
    subst h1; subst k1
    rw [h3.uniq k3]
    have a := h2 nor
    have b := k2 nor
    cases e with
    | row => obtain ⟨_, _, rfl⟩ := a; obtain ⟨_, _, rfl⟩ := b; rfl
    | box => obtain ⟨us, ⟨c, _⟩, rfl⟩ := a; obtain ⟨ws, ⟨d, _⟩, rfl⟩ := b; rw [← absL_of c, ← absL_of d]

/-- What an entry stands for, if it has no tokens. -/
def absE : Ent → Entry
  | .row n _ l ro => .row n (tvR l) ro
  | .box cs ro => .box (absRL nor cs) ro
theorem REs.abs : ∀ {l : List Ent} {es : List Entry}, REs l es → es = l.map absE
  | [], _, h => h
  | e :: l, _, ⟨x, t, h1, h2, h3⟩ => by
    subst h1
    rw [h3.abs]
    have a := h2 nor
    cases e with
    | row => obtain ⟨_, _, rfl⟩ := a; rfl
    | box => obtain ⟨us, ⟨c, _⟩, rfl⟩ := a; simp only [List.map_cons, absE, absL_of c]

theorem pure_body {n : Nat} (S : Go.Eng.Sys P (E.ctx n)) (O : OrcOk (E.ctx n) (E.orc n)) {f : Nat} {args : List CV} {v : CV} {l : List Ent} (h : E.pureN (E.orc n) f args = some (v, l)) {us : List AV} (hu : RL nor args us) :
    args.length = E.np f ∧ ∃ es, REs l es ∧ (∀ gs : List Nat, gs.length = l.length → R (fun k => gs[k]?) v (absR (fun k => gs[k]?) v)) ∧
      avp (E.ctx n) (E.G f) (Ret (E.ctx n) (E.rs f) fun r s' => ∃ gs, Fresh .empty gs es ∧ r = absR (fun k => gs[k]?) v ∧ Sub (Store.empty.adds gs es) s') (entry us .empty) := by
  unfold Env.pureN at h
  cases hl : lenIs args (E.np f) with
  | false => rw [hl] at h; cases h
  | true =>
  rw [hl, cond_true, ctx_body (n := n)] at h
  obtain ⟨w, t', n', h1, h2⟩ := bodyK_some O h
  obtain ⟨v', es0, h3, h4⟩ := exp2_some h1
  cases h3
  have key := h2 nor .empty us (fun x s' => ∃ gs es', gs.length = l.length ∧ REs l es' ∧ Pick s' gs es' ∧ R (fun k => gs[k]?) v x) empty_sim hu fun ρ' u s' hx hr hs => h4 ρ' n' s' u hs hr
  have hm := conMono_of S.con
  obtain ⟨e, σ', he⟩ := avp_ex hm _ key
  have hv : ∃ (gs : List Nat) (es' : List Entry) (x : AV), gs.length = l.length ∧ REs l es' ∧ R (fun k => gs[k]?) v x := by
    cases e <;> first
      | exact he.elim
      | (obtain ⟨_, gs, es', a, b, c, d⟩ := he; exact ⟨gs, es', _, a, b, d⟩)
  obtain ⟨gs0, es, x, a1, a2, a3⟩ := hv
  refine ⟨lenIs_iff hl, es, a2, fun gs hg => a3.retok fun k g hk => ?_, avp_mono hm _ _ _ _ (ret_mono fun r s hr => ?_) key⟩
  · have hlt := (List.getElem?_eq_some_iff.1 hk).1
    exact ⟨gs[k]'(by omega), List.getElem?_eq_getElem _⟩
  · obtain ⟨gs, es', b1, b2, b3, b4⟩ := hr
    obtain rfl := a2.uniq b2
    obtain ⟨f1, f2⟩ := b3.fresh (t := .empty) fun g _ => rfl
    refine ⟨gs, f1, (abs_of b4).symm, fun g e hg => ?_⟩
    rcases f2 g e hg with h | h
    · cases h
    · exact h

theorem gen_body {n : Nat} (O : OrcOk (E.ctx n) (E.orc n)) {f : Nat} {args : List CV} {t : St} {nx : Nat} {v : CV} {t' : St} {n' : Nat} (h : E.genN (E.orc n) f args t nx = some (v, t', n')) :
    args.length = E.np f ∧ BodyOk (E.ctx n) (E.G f) (E.rs f) args t nx v t' n' := by
  unfold Env.genN at h
  cases hl : lenIs args (E.np f) with
  | false => rw [hl] at h; cases h
  | true =>
    rw [hl] at h
    simp only [cond_true] at h
    rw [ctx_body (n := n)] at h
    obtain ⟨w, t1, n1, h1, h2⟩ := bodyK_some O h
    cases h1
    exact ⟨lenIs_iff hl, h2⟩

theorem con1_eq (n : Nat) (f : Nat) : (E.ctx (n + 1)).con f = E.con1 (E.ctx n) (E.orc n) f := rfl

/-- **All levels.** -/
theorem level (EO : EnvOk P E) : ∀ n, Go.Eng.Sys P (E.ctx n) ∧ OrcOk (E.ctx n) (E.orc n) := by
  have baseOk : ∀ n, (∀ f, isNo (E.O0.kind f) = false → (E.ctx n).con f = E.base f) := fun n f h => base_con EO n h
  have kindNo : ∀ n f, (E.orc n).kind f = .no → ∀ modes F, (E.ctx n).con f ≠ some (.gen modes F) := fun n f h modes F e => by
    rw [orc_kind] at h
    have := ctx_gen EO n f
    rw [h, e] at this
    cases this
  intro n
  induction n with
  | zero =>
    refine ⟨⟨EO.ty, EO.eq _, EO.nz, fun f k hk => ?_⟩, ⟨fun f hk => ?_, fun f hk => ?_, fun f hk => ?_, kindNo 0⟩⟩
    · have hk : E.con0 f = some k := hk
      unfold Env.con0 at hk
      split at hk
      · next h0 =>
        cases hd : E.kd f with
        | no => rw [hd] at hk; cases hk
        | _ =>
          obtain ⟨fn, b, _, h2, _⟩ := ctx_toG (n := 0) EO h0 (by rw [hd]; rfl)
          rw [hd] at hk
          cases hk
          refine ⟨h2, ?_⟩
          first
            | exact fun ar vs β w A _ _ _ _ hc => hc.elim
            | exact ⟨fun _ _ _ _ _ h => h, fun _ _ _ h => h.elim, fun ar vs β s w F Q h => h.elim⟩
      · exact EO.base f k hk
    · rw [orc_kind] at hk
      cases h0 : E.O0.kind f with
      | no =>
        rw [h0] at hk
        have hk : E.kd f = .scal := hk
        refine ⟨_, _, (show E.con0 f = _ by unfold Env.con0; rw [h0, hk]), fun args v hv => ?_⟩
        have hv : (bif isNo (E.O0.kind f) then none else E.O0.scal f args) = some v := hv
        rw [h0] at hv; cases hv
      | scal =>
        obtain ⟨c, r, h1, h2⟩ := EO.orc0.scal f h0
        refine ⟨c, r, (baseOk 0 f (by rw [h0]; rfl)).trans h1, fun args v hv => h2 args v ?_⟩
        have hv : (bif isNo (E.O0.kind f) then none else E.O0.scal f args) = some v := hv
        rw [h0] at hv; exact hv
      | _ => rw [h0] at hk; cases hk
    · rw [orc_kind] at hk
      cases h0 : E.O0.kind f with
      | no =>
        rw [h0] at hk
        have hk : E.kd f = .pure := hk
        refine ⟨_, _, _, (show E.con0 f = _ by unfold Env.con0; rw [h0, hk]), fun args v l hv => ?_⟩
        have hv : (bif isNo (E.O0.kind f) then none else E.O0.pure f args) = some (v, l) := hv
        rw [h0] at hv; cases hv
      | pure =>
        obtain ⟨c, es, mk, h1, h2⟩ := EO.orc0.pure f h0
        refine ⟨c, es, mk, (baseOk 0 f (by rw [h0]; rfl)).trans h1, fun args v l hv => h2 args v l ?_⟩
        have hv : (bif isNo (E.O0.kind f) then none else E.O0.pure f args) = some (v, l) := hv
        rw [h0] at hv; exact hv
      | _ => rw [h0] at hk; cases hk
    · rw [orc_kind] at hk
      cases h0 : E.O0.kind f with
      | no =>
        rw [h0] at hk
        have hk : E.kd f = .gen := hk
        refine ⟨_, _, (show E.con0 f = _ by unfold Env.con0; rw [h0, hk]), rfl, fun args t nx v t' nx' hv => ?_⟩
        have hv : (bif isNo (E.O0.kind f) then none else E.O0.gen f args t nx) = some (v, t', nx') := hv
        rw [h0] at hv; cases hv
      | gen =>
        obtain ⟨m, F, h1, h2, h3⟩ := EO.orc0.gen f h0
        refine ⟨m, F, (baseOk 0 f (by rw [h0]; rfl)).trans h1, h2, fun args t nx v t' nx' hv => h3 args t nx v t' nx' ?_⟩
        have hv : (bif isNo (E.O0.kind f) then none else E.O0.gen f args t nx) = some (v, t', nx') := hv
        rw [h0] at hv; exact hv
      | _ => rw [h0] at hk; cases hk
  | succ n ih =>
    obtain ⟨S, O⟩ := ih
    have hm := conMono_of S.con
    refine ⟨⟨EO.ty, EO.eq _, EO.nz, fun f k hk => ?_⟩, ⟨fun f hk => ?_, fun f hk => ?_, fun f hk => ?_, kindNo (n + 1)⟩⟩
    · have hk : E.con1 (E.ctx n) (E.orc n) f = some k := hk
      unfold Env.con1 at hk
      split at hk
      · next h0 =>
        cases hd : E.kd f with
        | no => rw [hd] at hk; cases hk
        | scal =>
          obtain ⟨fn, b, h1, h2, h3, h4, h5, h6⟩ := ctx_toG (n := n) EO h0 (by rw [hd]; rfl)
          rw [hd] at hk
          cases hk
          refine ⟨h2, scal_of S hm EO.mix h1 h3 h4 fun ar hc => ?_⟩
          obtain ⟨⟨c1, c2⟩, c3⟩ := hc
          obtain ⟨v, hv⟩ := isSome_of c3
          obtain ⟨_, d1, d2, d3⟩ := scal_body S O hv c1
          simp only [hv, Option.getD_some]
          rw [h5]
          exact ⟨⟨by omega, d2⟩, d3⟩
        | pure =>
          obtain ⟨fn, b, h1, h2, h3, h4, h5, h6⟩ := ctx_toG (n := n) EO h0 (by rw [hd]; rfl)
          rw [hd] at hk
          cases hk
          refine ⟨h2, pure_of S hm EO.mix h1 h3 h4 fun ar hc => ?_⟩
          obtain ⟨⟨c1, c2⟩, c3⟩ := hc
          obtain ⟨⟨v, l⟩, hv⟩ := isSome_of c3
          obtain ⟨_, es, d1, d2, d3⟩ := pure_body S O hv c1
          have := d1.abs
          subst this
          simp only [hv, Option.map_some, Option.getD_some]
          rw [h5]
          exact ⟨by omega, d3⟩
        | gen =>
          obtain ⟨fn, b, h1, h2, h3, h4, h5, h6⟩ := ctx_toG (n := n) EO h0 (by rw [hd]; rfl)
          rw [hd] at hk
          cases hk
          refine ⟨h2, gen_of S hm EO.mix h1 h3 h4 (fun ar s Q Q' hq h => ⟨h.1, avp_mono hm _ _ _ _ (ret_mono fun r t ⟨s'', a, b⟩ => ⟨s'', a, hq _ _ b⟩) h.2⟩) (fun ar s Q h => ?_) fun ar s Q h => ?_⟩
          · obtain ⟨e, σ', he⟩ := avp_ex hm _ h.2
            cases e <;> first
              | exact he.elim
              | (obtain ⟨_, s'', _, hq⟩ := he; exact ⟨_, _, hq⟩)
          · rw [h5]; exact ⟨by rw [h.1]; exact h6, h.2⟩
      · exact EO.base f k hk
    · rw [orc_kind] at hk
      cases h0 : E.O0.kind f with
      | no =>
        rw [h0] at hk
        have hk : E.kd f = .scal := hk
        refine ⟨_, _, (show E.con1 (E.ctx n) (E.orc n) f = _ by unfold Env.con1; rw [h0, hk]), fun args v hv us hu => ?_⟩
        have hv : (bif isNo (E.O0.kind f) then E.scalN (E.orc n) f args else E.O0.scal f args) = some v := hv
        rw [h0] at hv
        have hv : E.scalN (E.orc n) f args = some v := hv
        have hc := concL_of hu
        obtain ⟨d0, d1, d2, d3⟩ := scal_body S O hv hu
        have hul : us.length ≤ E.np f := by rw [← d0, hu.length]; exact Nat.le_refl _
        rw [hc, hv]
        exact ⟨⟨⟨hu, hul⟩, rfl⟩, d1⟩
      | scal =>
        obtain ⟨c, r, h1, h2⟩ := EO.orc0.scal f h0
        refine ⟨c, r, (baseOk (n + 1) f (by rw [h0]; rfl)).trans h1, fun args v hv => h2 args v ?_⟩
        have hv : (bif isNo (E.O0.kind f) then E.scalN (E.orc n) f args else E.O0.scal f args) = some v := hv
        rw [h0] at hv; exact hv
      | _ => rw [h0] at hk; cases hk
    · rw [orc_kind] at hk
      cases h0 : E.O0.kind f with
      | no =>
        rw [h0] at hk
        have hk : E.kd f = .pure := hk
        refine ⟨_, _, _, (show E.con1 (E.ctx n) (E.orc n) f = _ by unfold Env.con1; rw [h0, hk]), fun args v l hv us hu => ?_⟩
        have hv : (bif isNo (E.O0.kind f) then E.pureN (E.orc n) f args else E.O0.pure f args) = some (v, l) := hv
        rw [h0] at hv
        have hv : E.pureN (E.orc n) f args = some (v, l) := hv
        have hc := concL_of hu
        obtain ⟨d0, es, d1, d2, d3⟩ := pure_body S O hv hu
        have hul : us.length ≤ E.np f := by rw [← d0, hu.length]; exact Nat.le_refl _
        have := d1.abs
        subst this
        rw [hc, hv]
        exact ⟨⟨⟨hu, hul⟩, rfl⟩, d1, d2⟩
      | pure =>
        obtain ⟨c, es, mk, h1, h2⟩ := EO.orc0.pure f h0
        refine ⟨c, es, mk, (baseOk (n + 1) f (by rw [h0]; rfl)).trans h1, fun args v l hv => h2 args v l ?_⟩
        have hv : (bif isNo (E.O0.kind f) then E.pureN (E.orc n) f args else E.O0.pure f args) = some (v, l) := hv
        rw [h0] at hv; exact hv
      | _ => rw [h0] at hk; cases hk
    · rw [orc_kind] at hk
      cases h0 : E.O0.kind f with
      | no =>
        rw [h0] at hk
        have hk : E.kd f = .gen := hk
        refine ⟨_, _, (show E.con1 (E.ctx n) (E.orc n) f = _ by unfold Env.con1; rw [h0, hk]), by simp, fun args t nx v t' nx' hv => ?_⟩
        have hv : (bif isNo (E.O0.kind f) then E.genN (E.orc n) f args t nx else E.O0.gen f args t nx) = some (v, t', nx') := hv
        rw [h0] at hv
        have hv : E.genN (E.orc n) f args t nx = some (v, t', nx') := hv
        obtain ⟨d0, d1⟩ := gen_body O hv
        refine ⟨by simpa using d0, fun ρ s us Q hs hu hQ => ⟨by rw [← d0, hu.length], d1 ρ s us _ hs hu fun ρ' u s' hx hr hs' => ⟨s', fun _ _ h => h, hQ ρ' u s' hx hr hs'⟩⟩⟩
      | gen =>
        obtain ⟨m, F, h1, h2, h3⟩ := EO.orc0.gen f h0
        refine ⟨m, F, (baseOk (n + 1) f (by rw [h0]; rfl)).trans h1, h2, fun args t nx v t' nx' hv => h3 args t nx v t' nx' ?_⟩
        have hv : (bif isNo (E.O0.kind f) then E.genN (E.orc n) f args t nx else E.O0.gen f args t nx) = some (v, t', nx') := hv
        rw [h0] at hv; exact hv
      | _ => rw [h0] at hk; cases hk

end Go.Top

namespace Go.Top
open Go Go.Eng

/-- Code as it stands; the regions whose order matters are named. -/
def rawG (C : Ctx) (od : Nat → Bool) : Code → GCode
  | .skip => .skip
  | .region id ops _ => bif od id then .orders (orders C ops (allWaits ops.toList []) ops.size (Array.replicate ops.size false)) else .region (ops.toList.map (opToG ops))
  | .seq a b => .seq (rawG C od a) (rawG C od b)
  | .cond c a b => .cond c (rawG C od a) (rawG C od b)
  | .block id b => .block id (rawG C od b)
  | .loop b => .loop (rawG C od b)
  | .exit id => .exit id
  | .ret => .ret
  | _ => .weak

def bodyOf (C : Ctx) (od : Nat → Bool) (f : Option Func) : GCode := match f with
  | some fn => match fn.body with
    | some c => rawG C od c
    | none => .weak
  | none => .weak
def resOf (f : Option Func) : List ResultVar := match f with
  | some fn => fn.results.toList
  | none => []
def parOf (f : Option Func) : Nat := match f with
  | some fn => fn.params.size + fn.nfree
  | none => 0
end Go.Top

namespace Go.Top
open Go Go.Eng Go.Proofs.YtenckbcdfdmckaaGreatDoor
universe u
variable {β : Type u}

def selR {α : Type} (o : Option α) (r : α → AV) : AV := match o with | some x => r x | none => .unk
theorem scal_sel {α : Type} {A : Arms α} {p : α → Prop} {r : α → AV} : fnScal A p r = .scal (fun us => ∃ x, A.dec us = some x ∧ p x) fun us => selR (A.dec us) r := by
  rfl
theorem con_sel {α : Type} {A : Arms α} {p : α → Prop} {r : α → AV} : fnCon A p r = .pure (fun us => ∃ x, A.dec us = some x ∧ p x) (fun _ => []) fun us _ => selR (A.dec us) r := by
  rfl
/-! ### Sums -/
noncomputable def sumK (i : Nat) : Nat → Nat → Nat → Nat → Nat → (Nat → Nat → Nat → Nat → Option β) → Option β :=
  Nat.rec (fun _ a b c d k => k a b c d) (fun _ ih v a b c d k => frcN (v % 4294967296) fun w => frcN ((a + w) % 4294967296) fun a => frcN ((b + a) % 4294967296) fun b => frcN ((c + b) % 4294967296) fun c => frcN ((d + c) % 4294967296) fun d =>
    frcN (v / 4294967296) fun v => ih v a b c d k) i
theorem wd_bts : ∀ n v : Nat, wdN (bts n v) = v % 256 ^ n
  | 0, v => by simp [bts, wdN, Nat.mod_one]
  | n + 1, v => by
    rw [bts, wdN, wd_bts n (v / 256), UInt8.toNat_ofNat']
    have e1 : v % 256 ^ (n + 1) % 256 = v % 256 := by
      rw [Nat.pow_succ, Nat.mul_comm]; exact Nat.mod_mul_right_mod v 256 (256 ^ n)
    have e2 : v % 256 ^ (n + 1) / 256 = v / 256 % 256 ^ n := by
      rw [Nat.pow_succ, Nat.mul_comm]; exact Nat.mod_mul_right_div_self v 256 (256 ^ n)
    omega
theorem word_at {n v j : Nat} (hv : v < 256 ^ n) (hj : 4 * j ≤ n) : wdN (((bts n v).drop (4 * j)).take 4) = v / 256 ^ (4 * j) % 4294967296 := by
  rw [bts_drop _ _ _ hj]
  obtain ⟨m, hm⟩ : ∃ m, m = n - 4 * j := ⟨_, rfl⟩
  have hu : v / 256 ^ (4 * j) < 256 ^ m := by
    rw [Nat.div_lt_iff_lt_mul (Nat.pow_pos (by decide)), ← Nat.pow_add, show m + 4 * j = n by omega]; exact hv
  rw [← hm]
  by_cases h : 4 ≤ m
  · rw [bts_take _ _ _ h, wd_bts, Nat.mod_mod]
  · rw [List.take_of_length_le (by rw [bts_len]; omega), wd_bts, Nat.mod_eq_of_lt hu, Nat.mod_eq_of_lt]
    refine Nat.lt_of_lt_of_le hu ?_
    rcases (by omega : m = 0 ∨ m = 1 ∨ m = 2 ∨ m = 3) with h | h | h | h <;> rw [h] <;> decide
theorem sumK_succ (i v a b c d : Nat) (k : Nat → Nat → Nat → Nat → Option β) : sumK (i + 1) v a b c d k = sumK i (v / 4294967296) ((a + v % 4294967296) % 4294967296) ((b + (a + v % 4294967296) % 4294967296) % 4294967296) ((c + (b + (a + v % 4294967296) % 4294967296) % 4294967296) % 4294967296) ((d + (c + (b + (a + v % 4294967296) % 4294967296) % 4294967296) % 4294967296) % 4294967296) k := by
  have h : sumK (i + 1) v a b c d k = frcN (v % 4294967296) fun w => frcN ((a + w) % 4294967296) fun a => frcN ((b + a) % 4294967296) fun b => frcN ((c + b) % 4294967296) fun c => frcN ((d + c) % 4294967296) fun d => frcN (v / 4294967296) fun v => sumK i v a b c d k := rfl
  rw [h]
  simp only [frcN_eq]
theorem sumK_eq {n v : Nat} (hv : v < 256 ^ n) (k : Nat → Nat → Nat → Nat → Option β) : ∀ i j, 4 * (j + i) ≤ n + 3 →
    sumK i (v / 256 ^ (4 * j)) (sumTo (bts n v) j).a (sumTo (bts n v) j).b (sumTo (bts n v) j).c (sumTo (bts n v) j).d k = k (sumTo (bts n v) (j + i)).a (sumTo (bts n v) (j + i)).b (sumTo (bts n v) (j + i)).c (sumTo (bts n v) (j + i)).d
  | 0, j, _ => rfl
  | i + 1, j, h => by
    have ih := sumK_eq hv k i (j + 1) (by omega)
    rw [show j + 1 + i = j + (i + 1) by omega] at ih
    rw [← ih]
    have hw := word_at (n := n) (v := v) (j := j) hv (by omega)
    have e : sumTo (bts n v) (j + 1) = step4 (sumTo (bts n v) j) (v / 256 ^ (4 * j) % 4294967296) := by rw [sumTo, hw]
    have e2 : v / 256 ^ (4 * (j + 1)) = v / 256 ^ (4 * j) / 4294967296 := by
      rw [Nat.div_div_eq_div_mul, show 4 * (j + 1) = 4 * j + 4 by omega, Nat.pow_add]
    rw [e, e2, sumK_succ]
    rfl
noncomputable def natSum (args : List CV) : Option CV := match args with
  | [.t (.seq 1 [[.str n v]])] => bif Nat.ble n 1000000 then sumK ((n + 3) / 4) v 0 0 0 0 fun a b c d => some (.agg [.int .u32 (.ofNat a), .int .u32 (.ofNat b), .int .u32 (.ofNat c), .int .u32 (.ofNat d)]) else none
  | _ => none
theorem seqT {n v : Nat} {us : List AV} (h : RL nor [.t (.seq 1 [[.str n v]])] us) : v < 256 ^ n ∧ us = [.t (sl [bts n v])] := by
  obtain ⟨u, t, rfl, ⟨_, hc, rfl⟩, rfl⟩ := h
  simp only [Can, CanR, CanL, and_true] at hc
  exact ⟨hc, rfl⟩
theorem natSum_ok (args : List CV) (v : CV) (h : natSum args = some v) (us : List AV) (hr : RL nor args us) :
    (∃ x, A_sum_Of.dec us = some x ∧ p_sum_Of x) ∧ R nor v (selR (A_sum_Of.dec us) r_sum_Of) := by
  unfold natSum at h
  split at h
  · next n w =>
    obtain ⟨hv, rfl⟩ := seqT hr
    have hd : A_sum_Of.dec [.t (sl [bts n w])] = some ([bts n w], ()) := by
      show (match (argT (List (List UInt8))).dec (.t (sl [bts n w])) with | some x => _ | none => none) = _
      rw [argT_sl]; rfl
    cases hn : Nat.ble n 1000000 with
    | false => rw [hn] at h; cases h
    | true =>
      rw [hn, cond_true] at h
      have hn' := Nat.le_of_ble_eq_true hn
      rw [hd]
      refine ⟨⟨_, rfl, rfl, by show (bts n w).length ≤ _; rw [bts_len]; exact hn'⟩, ?_⟩
      have e := sumK_eq (n := n) (v := w) hv (fun a b c d => some (CV.agg [.int .u32 (.ofNat a), .int .u32 (.ofNat b), .int .u32 (.ofNat c), .int .u32 (.ofNat d)])) ((n + 3) / 4) 0 (by omega)
      rw [Nat.mul_zero, Nat.pow_zero, Nat.div_one, Nat.zero_add] at e
      have e' := e.symm.trans h
      cases e'
      have hs : sumOf (bts n w) = sumTo (bts n w) ((n + 3) / 4) := by rw [sumOf, bts_len]
      show R nor _ (r_sum_Of ([bts n w], ()))
      simp only [r_sum_Of, List.getD_cons_zero, hs]
      exact ⟨_, ⟨⟨_, _, rfl, rfl, _, _, rfl, rfl, _, _, rfl, rfl, _, _, rfl, rfl, rfl⟩, rfl⟩, rfl⟩
  · cases h

/-! ### Packings -/
/-- Rows of one number each. -/
noncomputable def int1 (r : List CT) (k : Int → Option β) : Option β := match r with
  | [.int .i64 n] => k n
  | _ => none
theorem int1_some {r : List CT} {k : Int → Option β} {q : β} (h : int1 r k = some q) : ∃ n, r = [.int .i64 n] ∧ k n = some q := by
  unfold int1 at h
  split at h
  · exact ⟨_, rfl, h⟩
  · cases h
noncomputable def intsK (rows : List (List CT)) : (List Int → Option β) → Option β :=
  List.rec (fun k => k []) (fun r _ ih k => int1 r fun n => ih fun l => k (n :: l)) rows
theorem intsK_some : ∀ (rows : List (List CT)) (k : List Int → Option β) (q : β), intsK rows k = some q → ∃ l : List Int, k l = some q ∧ tvR rows = l.map Cell.enc
  | [], k, q, h => ⟨[], h, rfl⟩
  | r :: rs, k, q, h => by
    have h : int1 r (fun n => intsK rs fun l => k (n :: l)) = some q := h
    obtain ⟨n, rfl, h⟩ := int1_some h
    obtain ⟨l, h1, h2⟩ := intsK_some rs _ q h
    exact ⟨n :: l, h1, by simp only [tvR, tvL, tv, h2, List.map_cons]; rfl⟩
noncomputable def natPut (args : List CV) : Option CV := match args with
  | [.str n v, .t (.seq 1 rows)] => bif Nat.ble n 1000000 then intsK rows fun l => bif Nat.ble l.length 1000000 then frcN (putF (bts n v) l).length fun m => frcN (btn (putF (bts n v) l)) fun x => some (.str m x) else none else none
  | _ => none
theorem natPut_ok (args : List CV) (v : CV) (h : natPut args = some v) (us : List AV) (hr : RL nor args us) :
    (∃ x, A_pack_Put.dec us = some x ∧ p_pack_Put x) ∧ R nor v (selR (A_pack_Put.dec us) r_pack_Put) := by
  unfold natPut at h
  split at h
  · next n w rows =>
    obtain ⟨u, t, rfl, ⟨hv, rfl⟩, u2, t2, rfl, ⟨_, hc, rfl⟩, rfl⟩ := hr
    cases hn : Nat.ble n 1000000 with
    | false => rw [hn] at h; cases h
    | true =>
      rw [hn, cond_true] at h
      have hn' := Nat.le_of_ble_eq_true hn
      obtain ⟨l, h, hl⟩ := intsK_some rows _ v h
      cases hm : Nat.ble l.length 1000000 with
      | false => rw [hm] at h; cases h
      | true =>
        rw [hm, cond_true, frcN_eq, frcN_eq] at h
        have hm' := Nat.le_of_ble_eq_true hm
        cases h
        have ht : AV.t (tv (.seq 1 rows)) = .t (sl l) := by rw [tv, hl]; rfl
        rw [ht]
        have hd : A_pack_Put.dec [.t (.str (bts n w)), .t (sl l)] = some (bts n w, l, ()) := by
          unfold A_pack_Put
          simp only [arms_cons, arms_nil, argT_str, argT_sl, Option.bind_some, Option.map_some]
        rw [hd]
        refine ⟨⟨_, rfl, by show (bts n w).length ≤ _; rw [bts_len]; omega, by show l.length ≤ _; omega⟩, ?_⟩
        show R nor _ (.t (.str (putF (bts n w) l)))
        exact ⟨btn_lt _, by rw [bts_btn]⟩
  · cases h
noncomputable def intRows (l : List Int) : (List (List CT) → Option β) → Option β :=
  List.rec (fun k => k []) (fun n _ ih k => frcI n fun n => ih fun r => k ([.int .i64 n] :: r)) l
theorem intRows_eq : ∀ (l : List Int) (k : List (List CT) → Option β), intRows l k = k (l.map fun n => [.int .i64 n])
  | [], _ => rfl
  | n :: l, k => by
    show (frcI n fun n => intRows l fun r => k ([.int .i64 n] :: r)) = _
    rw [frcI_eq, intRows_eq l]; rfl
theorem tvR_ints : ∀ l : List Int, tvR (l.map fun n => [CT.int .i64 n]) = l.map Cell.enc ∧ CanR (l.map fun n => [CT.int .i64 n])
  | [] => ⟨rfl, trivial⟩
  | n :: l => by
    obtain ⟨h1, h2⟩ := tvR_ints l
    exact ⟨by simp only [List.map_cons, tvR, tvL, tv, h1]; rfl, ⟨trivial, trivial⟩, h2⟩
noncomputable def natTake (args : List CV) : Option (CV × List Ent) := match args with
  | [.str n v, .str m w] => bif Nat.ble n 1000000 && Nat.ble m 1000000 then
      bif takeOk (bts n v) (bts m w) then intRows (takeN (digs (bts n v)) (bts m w)) fun rows => frcN (digs (bts n v)).sum.toNat fun k => frcN (m - k) fun a => frcN (w / 256 ^ k) fun b => some (.tup [.t (.seq 1 rows), .str a b, .bool true], [])
      else some (.tup [.t (.seq 1 []), .str 0 0, .bool false], [])
    else none
  | _ => none
theorem natTake_ok (args : List CV) (v : CV) (es : List Ent) (h : natTake args = some (v, es)) (us : List AV) (hr : RL nor args us) :
    (∃ x, A_pack_Take.dec us = some x ∧ p_pack_Take x) ∧ es = [] ∧ ∀ ρ, R ρ v (selR (A_pack_Take.dec us) r_pack_Take) := by
  unfold natTake at h
  split at h
  · next n w m x =>
    obtain ⟨u, t, rfl, ⟨hv, rfl⟩, u2, t2, rfl, ⟨hx, rfl⟩, rfl⟩ := hr
    have hd : A_pack_Take.dec [.t (.str (bts n w)), .t (.str (bts m x))] = some (bts n w, bts m x, ()) := by
      unfold A_pack_Take
      simp only [arms_cons, arms_nil, argT_str, Option.bind_some, Option.map_some]
    rw [hd]
    cases hn : Nat.ble n 1000000 && Nat.ble m 1000000 with
    | false => rw [hn] at h; cases h
    | true =>
      rw [hn, cond_true] at h
      rw [Bool.and_eq_true] at hn
      have hn1 := Nat.le_of_ble_eq_true hn.1
      have hn2 := Nat.le_of_ble_eq_true hn.2
      have hp : p_pack_Take (bts n w, bts m x, ()) := ⟨by show (bts n w).length ≤ _; rw [bts_len]; omega, by show (bts m x).length ≤ _; rw [bts_len]; omega⟩
      refine ⟨⟨_, rfl, hp⟩, ?_⟩
      show _ ∧ ∀ ρ, R ρ v (.tup [.t (sl (takeL (bts n w) (bts m x))), .t (.str (takeR (bts n w) (bts m x))), .t (.bool (takeOk (bts n w) (bts m x)))])
      cases hk : takeOk (bts n w) (bts m x) with
      | false =>
        rw [hk, cond_false] at h
        cases h
        have e1 : takeL (bts n w) (bts m x) = [] := by rw [takeL, hk]; rfl
        have e2 : takeR (bts n w) (bts m x) = [] := by rw [takeR, hk]; rfl
        rw [e1, e2]
        exact ⟨rfl, fun ρ => ⟨_, ⟨_, _, rfl, ⟨rfl, trivial, rfl⟩, _, _, rfl, ⟨by decide, rfl⟩, _, _, rfl, rfl, rfl⟩, rfl⟩⟩
      | true =>
        rw [hk, cond_true, intRows_eq, frcN_eq, frcN_eq, frcN_eq] at h
        cases h
        have e1 : takeL (bts n w) (bts m x) = takeN (digs (bts n w)) (bts m x) := by rw [takeL, if_pos hk]
        have hle : (digs (bts n w)).sum.toNat ≤ m := by
          have := hk
          rw [takeOk, Bool.and_eq_true, decide_eq_true_eq, bts_len] at this
          omega
        have e2 : takeR (bts n w) (bts m x) = bts (m - (digs (bts n w)).sum.toNat) (x / 256 ^ (digs (bts n w)).sum.toNat) := by rw [takeR, if_pos hk, bts_drop _ _ _ hle]
        rw [e1, e2]
        obtain ⟨t1, t2⟩ := tvR_ints (takeN (digs (bts n w)) (bts m x))
        refine ⟨rfl, fun ρ => ⟨_, ⟨_, _, rfl, ⟨rfl, t2, ?_⟩, _, _, rfl, ⟨?_, rfl⟩, _, _, rfl, rfl, rfl⟩, rfl⟩⟩
        · rw [tv, t1]; rfl
        · rw [Nat.div_lt_iff_lt_mul (Nat.pow_pos (by decide)), ← Nat.pow_add, Nat.sub_add_cancel hle]; exact hx
  · cases h
end Go.Top

namespace Go.Top
open Go Go.Eng Go.Shelf Go.RowKit Go.Proofs Go.Proofs.YtenckbcdfdmckaaGreatDoor

theorem frame_below {β : Bt} {w w' : World} (h : Below w.heap.size w w') : Eng.Frame Nothing β w Nothing β w' :=
  ⟨h.os, h.tape, h.output, h.size, fun b hb _ => h.block b hb, fun b off hb _ => h.cell (p := ⟨b, off, none⟩) hb, fun b hb => by unfold World.shape?; rw [h.block b hb], fun _ _ _ h => h.elim, fun _ _ h => h, fun _ _ h => .inl h⟩
theorem args2 {β : Bt} {w : World} {A : Addr → Prop} {u v : AV} {vs : Array Value} (h : Args β w A [u, v] vs) : ∃ a b, vs = #[a, b] ∧ Rep β w A u a ∧ Rep β w A v b := by
  obtain ⟨h1, h2⟩ := h
  obtain ⟨l⟩ := vs
  match l, h1 with
  | [a, b], _ => exact ⟨a, b, rfl, h2 0 (by simp), h2 1 (by simp)⟩
  | [], h => simp at h
  | [_], h => simp at h
  | _ :: _ :: _ :: _, h => simp at h
/-- A function of two plain values. -/
theorem scal_two {P : Program} {f : FuncId} {c : List AV → Prop} {r : List AV → AV} (h : ∀ us, c us → ∃ (u v : AV) (a b x : Value), us = [u, v] ∧ (∀ β w A y, Rep β w A u y → y = a) ∧ (∀ β w A y, Rep β w A v y → y = b) ∧
    (∀ w, Calls P f #[a, b] w fun e w' => e = .returned x ∧ Below w.heap.size w w') ∧ ∀ β w A, Rep β w A (r us) x) : ScalOk P f c r := fun us vs β w A _ _ _ ha hc => by
  obtain ⟨u, v, a, b, x, rfl, h1, h2, h3, h4⟩ := h us hc
  obtain ⟨a', b', rfl, r1, r2⟩ := args2 ha
  obtain rfl := h1 _ _ _ _ r1
  obtain rfl := h2 _ _ _ _ r2
  exact (h3 w).mono fun e w' ⟨he, hw⟩ => ⟨Nothing, β, x, he, frame_below hw, h4⟩
theorem rep_str {β : Bt} {w : World} {A : Addr → Prop} {s : List UInt8} {y : Value} (h : Rep β w A (.t (.str s)) y) : y = .string ⟨s.toArray⟩ := by
  cases h with
  | t _ _ h => cases h; rfl
theorem rep_int {β : Bt} {w : World} {A : Addr → Prop} {k : IntKind} {n : Int} {y : Value} (h : Rep β w A (.t (.int k n)) y) : y = .int k n := by
  cases h with
  | t _ _ h => cases h; rfl

/-! ### strings.Repeat -/
def cRep (us : List AV) : Prop := ∃ (s : List UInt8) (n : Nat), us = [.t (.str s), .t (.int .i64 (n : Int))] ∧ n ≤ 1000000 ∧ s.length * n ≤ 1000000
def rRep (us : List AV) : AV := match us with
  | [.t (.str s), .t (.int _ n)] => .t (.str (Lib.repeatL s n.toNat))
  | _ => .unk
theorem ok_Repeat : COk Proofs.Tryz.prog 63 (.scal cRep rRep) :=
  ⟨⟨_, Proofs.Tryz.func63, by kernel_rfl, by kernel_rfl⟩, scal_two fun us ⟨s, n, e, hn, hs⟩ => ⟨_, _, _, _, .string ⟨(Lib.repeatL s n).toArray⟩, e, fun _ _ _ _ => rep_str, fun _ _ _ _ => rep_int, fun w => by
    refine strings_Repeat ⟨s.toArray⟩ n w (by omega) ?_
    show s.toArray.size * n ≤ _
    rw [List.size_toArray]; omega, fun β w A => by rw [e]; exact .t _ _ (.str _)⟩⟩
/-! ### strings.Compare -/
def cCmp (us : List AV) : Prop := ∃ (s t : List UInt8), us = [.t (.str s), .t (.str t)]
def rCmp (us : List AV) : AV := match us with
  | [.t (.str s), .t (.str t)] => .t (.int .i64 (Lib.compareBytes s t))
  | _ => .unk
theorem ok_Compare : COk Proofs.Tryz.prog 191 (.scal cCmp rCmp) :=
  ⟨⟨_, Proofs.Tryz.func191, by kernel_rfl, by kernel_rfl⟩, scal_two fun us ⟨s, t, e⟩ => ⟨_, _, _, _, .int .i64 (Lib.compareBytes s t), e, fun _ _ _ _ => rep_str, fun _ _ _ _ => rep_str, fun w =>
    (strings_Compare ⟨s.toArray⟩ ⟨t.toArray⟩ w).mono fun e w' ⟨he, hw⟩ => ⟨he, hw ▸ Below.refl _ _⟩, fun β w A => by rw [e]; exact .t _ _ (.int _ _)⟩⟩
/-! ### strings.IndexByte -/
def cIdB (us : List AV) : Prop := ∃ (s : List UInt8) (c : Int), us = [.t (.str s), .t (.int .u8 c)]
def rIdB (us : List AV) : AV := match us with
  | [.t (.str s), .t (.int _ c)] => .t (.int .i64 (Lib.indexByte s c.toNat.toUInt8))
  | _ => .unk
theorem ok_IndexByte : COk Proofs.Tryz.prog 327 (.scal cIdB rIdB) :=
  ⟨⟨_, Proofs.Tryz.func327, by kernel_rfl, by kernel_rfl⟩, scal_two fun us ⟨s, c, e⟩ => ⟨_, _, _, _, .int .i64 (Lib.indexByte s c.toNat.toUInt8), e, fun _ _ _ _ => rep_str, fun _ _ _ _ => rep_int, fun w =>
    (strings_IndexByte ⟨s.toArray⟩ c w).mono fun e w' ⟨he, hw⟩ => ⟨he, hw ▸ Below.refl _ _⟩, fun β w A => by rw [e]; exact .t _ _ (.int _ _)⟩⟩
/-! ### strings.Index, Count, of one byte -/
def cOne (us : List AV) : Prop := ∃ (s : List UInt8) (c : UInt8), us = [.t (.str s), .t (.str [c])]
def rIdx (us : List AV) : AV := match us with
  | [.t (.str s), .t (.str [c])] => .t (.int .i64 (Lib.indexByte s c))
  | _ => .unk
def rCnt (us : List AV) : AV := match us with
  | [.t (.str s), .t (.str [c])] => .t (.int .i64 (Lib.countByte s c : Nat))
  | _ => .unk
theorem ok_Index : COk Proofs.Tryz.prog 331 (.scal cOne rIdx) :=
  ⟨⟨_, Proofs.Tryz.func331, by kernel_rfl, by kernel_rfl⟩, scal_two fun us ⟨s, c, e⟩ => ⟨_, _, _, _, .int .i64 (Lib.indexByte s c), e, fun _ _ _ _ => rep_str, fun _ _ _ _ => rep_str, fun w =>
    (strings_Index_one ⟨s.toArray⟩ c w).mono fun e w' ⟨he, hw⟩ => ⟨he, hw ▸ Below.refl _ _⟩, fun β w A => by rw [e]; exact .t _ _ (.int _ _)⟩⟩
theorem ok_Count : COk Proofs.Tryz.prog 330 (.scal cOne rCnt) :=
  ⟨⟨_, Proofs.Tryz.func330, by kernel_rfl, by kernel_rfl⟩, scal_two fun us ⟨s, c, e⟩ => ⟨_, _, _, _, .int .i64 (Lib.countByte s c : Nat), e, fun _ _ _ _ => rep_str, fun _ _ _ _ => rep_str, fun w =>
    (strings_Count_one ⟨s.toArray⟩ c w).mono fun e w' ⟨he, hw⟩ => ⟨he, hw ▸ Below.refl _ _⟩, fun β w A => by rw [e]; exact .t _ _ (.int _ _)⟩⟩
end Go.Top

namespace Go.Top
open Go Go.Eng Go.Proofs.YtenckbcdfdmckaaGreatDoor
universe u
variable {β : Type u}

theorem rl2 {a b : CV} {us : List AV} (h : RL nor [a, b] us) : ∃ u v, us = [u, v] ∧ R nor a u ∧ R nor b v := by
  obtain ⟨u, t, rfl, h1, v, t2, rfl, h2, rfl⟩ := h
  exact ⟨u, v, rfl, h1, h2⟩

/-! ### Repeat -/
noncomputable def repN (n v : Nat) (k : Nat) : (Nat → Option β) → Option β :=
  Nat.rec (fun k => k 0) (fun _ ih k => ih fun x => frcN (v + 256 ^ n * x) k) k
theorem repN_eq {n v : Nat} (hv : v < 256 ^ n) : ∀ (k : Nat) (K : Nat → Option β), ∃ x, repN n v k K = K x ∧ x < 256 ^ (n * k) ∧ Lib.repeatL (bts n v) k = bts (n * k) x
  | 0, K => ⟨0, rfl, Nat.pow_pos (by decide), by simp [Lib.repeatL, bts]⟩
  | k + 1, K => by
    obtain ⟨x, h1, h2, h3⟩ := repN_eq hv k (fun x => frcN (v + 256 ^ n * x) K)
    obtain ⟨e1, e2⟩ := bts_app hv h2
    refine ⟨v + 256 ^ n * x, ?_, ?_, ?_⟩
    · show repN n v k (fun x => frcN (v + 256 ^ n * x) K) = _
      rw [h1, frcN_eq]
    · rw [Nat.mul_succ, Nat.add_comm (n * k)]; exact e2
    · have : Lib.repeatL (bts n v) (k + 1) = bts n v ++ Lib.repeatL (bts n v) k := rfl
      rw [this, h3, e1, Nat.mul_succ, Nat.add_comm n]
noncomputable def natRep (args : List CV) : Option CV := match args with
  | [.str n v, .int .i64 (.ofNat k)] => bif Nat.ble k 1000000 && Nat.ble (n * k) 1000000 then
      (bif Nat.beq v 0 then frcN (n * k) fun m => some (.str m 0) else repN n v k fun x => frcN (n * k) fun m => some (.str m x)) else none
  | _ => none
theorem bts_zero : ∀ n, bts n 0 = List.replicate n 0
  | 0 => rfl
  | n + 1 => by rw [bts, List.replicate_succ, Nat.zero_mod, Nat.zero_div, bts_zero n]; rfl
theorem rep_zero {n : Nat} : ∀ k, Lib.repeatL (List.replicate n 0) k = List.replicate (n * k) 0
  | 0 => rfl
  | k + 1 => by rw [Lib.repeatL, rep_zero k, List.replicate_append_replicate, Nat.mul_succ, Nat.add_comm]
theorem natRep_ok (args : List CV) (v : CV) (h : natRep args = some v) (us : List AV) (hr : RL nor args us) : cRep us ∧ R nor v (rRep us) := by
  unfold natRep at h
  split at h
  · next n w k =>
    obtain ⟨_, _, rfl, ⟨hv, rfl⟩, rfl⟩ := rl2 hr
    cases hb : Nat.ble k 1000000 && Nat.ble (n * k) 1000000 with
    | false => rw [hb] at h; cases h
    | true =>
      rw [hb, cond_true] at h
      rw [Bool.and_eq_true] at hb
      have h1 := Nat.le_of_ble_eq_true hb.1
      have h2 := Nat.le_of_ble_eq_true hb.2
      refine ⟨⟨_, k, rfl, h1, by rw [bts_len]; exact h2⟩, ?_⟩
      show R nor v (.t (.str (Lib.repeatL (bts n w) k)))
      obtain ⟨x, e1, e2, e3⟩ := repN_eq hv k (fun x => frcN (n * k) fun m => some (CV.str m x))
      cases hz : Nat.beq w 0 with
      | false =>
        rw [hz, cond_false, e1, frcN_eq] at h
        cases h
        exact ⟨e2, by rw [e3]⟩
      | true =>
        rw [hz, cond_true, frcN_eq] at h
        cases h
        obtain rfl : w = 0 := Nat.eq_of_beq_eq_true hz
        refine ⟨Nat.pow_pos (by decide), ?_⟩
        rw [bts_zero, bts_zero, rep_zero]
  · cases h

/-! ### Compare, IndexByte, Index, Count -/
noncomputable def natCmp (args : List CV) : Option CV := match args with
  | [.str n v, .str m w] => frcI (Lib.compareBytes (bts n v) (bts m w)) fun x => some (.int .i64 x)
  | _ => none
theorem natCmp_ok (args : List CV) (v : CV) (h : natCmp args = some v) (us : List AV) (hr : RL nor args us) : cCmp us ∧ R nor v (rCmp us) := by
  unfold natCmp at h
  split at h
  · obtain ⟨_, _, rfl, ⟨_, rfl⟩, _, rfl⟩ := rl2 hr
    rw [frcI_eq] at h
    cases h
    exact ⟨⟨_, _, rfl⟩, rfl⟩
  · cases h
noncomputable def natIdB (args : List CV) : Option CV := match args with
  | [.str n v, .int .u8 c] => frcI (Lib.indexByte (bts n v) c.toNat.toUInt8) fun x => some (.int .i64 x)
  | _ => none
theorem natIdB_ok (args : List CV) (v : CV) (h : natIdB args = some v) (us : List AV) (hr : RL nor args us) : cIdB us ∧ R nor v (rIdB us) := by
  unfold natIdB at h
  split at h
  · obtain ⟨_, _, rfl, ⟨_, rfl⟩, rfl⟩ := rl2 hr
    rw [frcI_eq] at h
    cases h
    exact ⟨⟨_, _, rfl⟩, rfl⟩
  · cases h
noncomputable def natIdx (args : List CV) : Option CV := match args with
  | [.str n v, .str 1 w] => frcI (Lib.indexByte (bts n v) (UInt8.ofNat (w % 256))) fun x => some (.int .i64 x)
  | _ => none
theorem natIdx_ok (args : List CV) (v : CV) (h : natIdx args = some v) (us : List AV) (hr : RL nor args us) : cOne us ∧ R nor v (rIdx us) := by
  unfold natIdx at h
  split at h
  · obtain ⟨_, _, rfl, ⟨_, rfl⟩, _, rfl⟩ := rl2 hr
    rw [frcI_eq] at h
    cases h
    exact ⟨⟨_, _, rfl⟩, rfl⟩
  · cases h
noncomputable def natCnt (args : List CV) : Option CV := match args with
  | [.str n v, .str 1 w] => frcN (Lib.countByte (bts n v) (UInt8.ofNat (w % 256))) fun x => some (.int .i64 (.ofNat x))
  | _ => none
theorem natCnt_ok (args : List CV) (v : CV) (h : natCnt args = some v) (us : List AV) (hr : RL nor args us) : cOne us ∧ R nor v (rCnt us) := by
  unfold natCnt at h
  split at h
  · obtain ⟨_, _, rfl, ⟨_, rfl⟩, _, rfl⟩ := rl2 hr
    rw [frcN_eq] at h
    cases h
    exact ⟨⟨_, _, rfl⟩, rfl⟩
  · cases h
end Go.Top

namespace Go.Top
open Go Go.Eng Go.Proofs.YtenckbcdfdmckaaGreatDoor
universe u
variable {β : Type u}

theorem rl1 {a : CV} {us : List AV} (h : RL nor [a] us) : ∃ u, us = [u] ∧ R nor a u := by
  obtain ⟨u, t, rfl, h1, rfl⟩ := h
  exact ⟨u, rfl, h1⟩
/-- Has each row so many cells? -/
noncomputable def lensB (w : Nat) (rows : List (List CT)) : Bool := List.rec true (fun r _ ih => bif Nat.beq r.length w then ih else false) rows
theorem lensB_raw {w : Nat} : ∀ (rows : List (List CT)), lensB w rows = true → ∃ l : List (Raw w), l.map Cell.enc = tvR rows
  | [], _ => ⟨[], rfl⟩
  | r :: rs, h => by
    have h : (bif Nat.beq r.length w then lensB w rs else false) = true := h
    cases hb : Nat.beq r.length w with
    | false => rw [hb] at h; cases h
    | true =>
      rw [hb, cond_true] at h
      obtain ⟨l, hl⟩ := lensB_raw rs h
      exact ⟨⟨tvL r, by rw [tvL_len]; exact Nat.eq_of_beq_eq_true hb⟩ :: l, by rw [List.map_cons, hl, tvR]; rfl⟩
/-- The rows of a slice that is only read. -/
noncomputable def rowsOf (w : Nat) (x : CT) (k : List (List CT) → Option β) : Option β := match x with
  | .nilS => k []
  | .emp => k []
  | .seq n rows => bif Nat.beq n w && lensB w rows then k rows else none
  | _ => none
theorem rowsOf_some {w : Nat} {x : CT} {k : List (List CT) → Option β} {q : β} (h : rowsOf w x k = some q) (hc : Can x) :
    ∃ (rows : List (List CT)) (l : List (Raw w)), k rows = some q ∧ l.map Cell.enc = tvR rows ∧ CanR rows ∧ (argT (List (Raw w))).dec (.t (tv x)) = some l := by
  unfold rowsOf at h
  split at h
  · exact ⟨[], [], h, rfl, trivial, rfl⟩
  · exact ⟨[], [], h, rfl, trivial, rfl⟩
  · next n rows =>
    cases hb : Nat.beq n w && lensB w rows with
    | false => rw [hb] at h; cases h
    | true =>
      rw [hb, cond_true] at h
      rw [Bool.and_eq_true] at hb
      obtain rfl := Nat.eq_of_beq_eq_true hb.1
      obtain ⟨l, hl⟩ := lensB_raw rows hb.2
      refine ⟨rows, l, h, hl, hc, ?_⟩
      rw [tv, ← hl]
      exact argT_sl (l := l)
  · cases h
/-- Any value that is one cell. -/
noncomputable def ctOf (v : CV) (k : CT → Option β) : Option β := match v with
  | .t x => k x
  | _ => none
theorem ctOf_some {v : CV} {k : CT → Option β} {q : β} (h : ctOf v k = some q) : ∃ x, v = .t x ∧ k x = some q := by
  unfold ctOf at h
  split at h
  · exact ⟨_, rfl, h⟩
  · cases h

/-! ### Clone -/
noncomputable def natClone (w : Nat) (args : List CV) : Option (CV × List Ent) := match args with
  | [v] => ctOf v fun x => rowsOf w x fun rows => frcN rows.length fun m => bif Nat.ble m 1000000 then some (.tok 0 w 0 m, [.row w m rows false]) else none
  | _ => none
theorem natClone_ok (w : Nat) (args : List CV) (v : CV) (l : List Ent) (h : natClone w args = some (v, l)) (us : List AV) (hr : RL nor args us) :
    (∃ x, (clA (Raw w)).dec us = some x ∧ clP x) ∧ REs l (selE ((clA (Raw w)).dec us) clE) ∧ ∀ gs : List Nat, gs.length = l.length → R (fun k => gs[k]?) v (selM ((clA (Raw w)).dec us) clM gs) := by
  unfold natClone at h
  split at h
  · next a =>
    obtain ⟨x, rfl, h2⟩ := ctOf_some h
    obtain ⟨u, rfl, _, hc, rfl⟩ := rl1 hr
    obtain ⟨rows, r, h3, e, hcr, hd⟩ := rowsOf_some h2 hc
    rw [frcN_eq] at h3
    cases hb : Nat.ble rows.length 1000000 with
    | false => rw [hb] at h3; cases h3
    | true =>
      rw [hb, cond_true] at h3
      cases h3
      have hb := Nat.le_of_ble_eq_true hb
      have hl : r.length = rows.length := by
        have := congrArg List.length e
        rw [List.length_map, tvR_map, List.length_map] at this
        exact this
      have hd' : (clA (Raw w)).dec [.t (tv x)] = some (r, ()) := by
        unfold clA
        simp only [arms_cons, arms_nil, hd, Option.bind_some, Option.map_some]
      rw [hd']
      refine ⟨⟨_, rfl, by show r.length ≤ _; omega⟩, ⟨_, _, rfl, fun ρ => ⟨rfl, hcr, ?_⟩, rfl⟩, fun gs hg => ?_⟩
      · show Entry.row w (r.map Cell.enc) false = _
        rw [e]
      · match gs, hg with
        | [g], _ => exact ⟨g, rfl, by show AV.tok g w 0 r.length = _; rw [hl]⟩
  · cases h
/-! ### Clip -/
noncomputable def natClip (args : List CV) : Option (CV × List Ent) := match args with
  | [v] => ctOf v fun x => rowsOf 6 x fun rows => some (.t (.seq 6 rows), [])
  | _ => none
theorem natClip_ok (args : List CV) (v : CV) (l : List Ent) (h : natClip args = some (v, l)) (us : List AV) (hr : RL nor args us) :
    (∃ x, A_slices_Clip___api_Ptr_api_Ptr_.dec us = some x ∧ p_slices_Clip___api_Ptr_api_Ptr_ x) ∧ l = [] ∧ ∀ ρ, R ρ v (selR (A_slices_Clip___api_Ptr_api_Ptr_.dec us) r_slices_Clip___api_Ptr_api_Ptr_) := by
  unfold natClip at h
  split at h
  · next a =>
    obtain ⟨x, rfl, h2⟩ := ctOf_some h
    obtain ⟨u, rfl, _, hc, rfl⟩ := rl1 hr
    obtain ⟨rows, r, h3, e, hcr, hd⟩ := rowsOf_some h2 hc
    cases h3
    have hd' : A_slices_Clip___api_Ptr_api_Ptr_.dec [.t (tv x)] = some (r, ()) := by
      unfold A_slices_Clip___api_Ptr_api_Ptr_
      simp only [arms_cons, arms_nil, hd, Option.bind_some, Option.map_some]
    rw [hd']
    refine ⟨⟨_, rfl, trivial⟩, rfl, fun ρ => ⟨rfl, hcr, ?_⟩⟩
    show AV.t (sl r) = _
    rw [tv, ← e]; rfl
  · cases h
/-! ### Grow, at nil -/
noncomputable def natGrow (args : List CV) (t : St) (nx : Nat) : Option (CV × St × Nat) := match args with
  | [.t .nilS, .int .i64 (.ofNat n)] => bif Nat.beq n 0 then some (.t .nilS, t, nx) else bif Nat.ble n 1000000 then frcN (nx + 1) fun m => some (.tok nx 2 0 0, (nx, .row 2 0 [] false) :: t, m) else none
  | _ => none
theorem natGrow_ok (args : List CV) (t : St) (nx : Nat) (v : CV) (t' : St) (nx' : Nat) (h : natGrow args t nx = some (v, t', nx')) : args.length = 2 ∧
    ∀ ρ s us Q, SimS ρ t nx s → RL ρ args us → (∀ ρ' u s', Ext ρ ρ' → R ρ' v u → SimS ρ' t' nx' s' → Q u s') → F_slices_Grow___api_Run_api_Run_ us s Q := by
  unfold natGrow at h
  split at h
  · next n =>
    refine ⟨rfl, fun ρ s us Q hs hr hq => ?_⟩
    obtain ⟨_, _, rfl, ⟨_, _, rfl⟩, _, _, rfl, rfl, rfl⟩ := hr
    cases hz : Nat.beq n 0 with
    | true =>
      rw [hz, cond_true] at h
      cases h
      obtain rfl := Nat.eq_of_beq_eq_true hz
      exact ⟨0, rfl, by omega, by omega, fun _ => hq ρ _ s (Ext.refl ρ) ⟨rfl, trivial, rfl⟩ hs, fun h => absurd rfl h⟩
    | false =>
      rw [hz, cond_false] at h
      cases hb : Nat.ble n 1000000 with
      | false => rw [hb] at h; cases h
      | true =>
        rw [hb, cond_true, frcN_eq] at h
        cases h
        have hb := Nat.le_of_ble_eq_true hb
        have hz : n ≠ 0 := fun e => by rw [e] at hz; cases hz
        refine ⟨n, rfl, by omega, by omega, fun h => absurd h hz, fun _ g hg => ?_⟩
        refine hq (ρ.new nx g) _ _ (hs.ext_new g) ⟨g, ?_, rfl⟩ (hs.new hg ⟨rfl, trivial, rfl⟩)
        unfold Ren.new
        rw [if_pos rfl]
  · cases h
/-! ### Compact -/
noncomputable def natComp (args : List CV) (t : St) (nx : Nat) : Option (CV × St × Nat) := match args with
  | [.t .nilS] => some (.t .nilS, t, nx)
  | [.tok g n off len] => bif Nat.beq n 1 && Nat.beq off 0 then lookK g (fun e => match e with
      | .row m _ rows ro => bif ro then none else bif Nat.beq m 1 then intsK rows fun zs => bif Nat.beq len zs.length && Nat.ble zs.length 1000000 then
          frcN (cpL zs).length fun k => intRows (cpL zs ++ List.replicate (zs.length - (cpL zs).length) 0) fun rows2 => frcN rows2.length fun c => updK g (.row 1 c rows2 false) t fun t2 => some (.tok g 1 0 k, t2, nx) else none else none
      | _ => none) t else none
  | _ => none
theorem enc_ints (l : List Int) : tvR (l.map fun n => [CT.int .i64 n]) = intRow l := (tvR_ints l).1
theorem natComp_ok (args : List CV) (t : St) (nx : Nat) (v : CV) (t' : St) (nx' : Nat) (h : natComp args t nx = some (v, t', nx')) : args.length = 1 ∧
    ∀ ρ s us Q, SimS ρ t nx s → RL ρ args us → (∀ ρ' u s', Ext ρ ρ' → R ρ' v u → SimS ρ' t' nx' s' → Q u s') → F_slices_Compact___int_int_ us s Q := by
  unfold natComp at h
  split at h
  · cases h
    refine ⟨rfl, fun ρ s us Q hs hr hq => ?_⟩
    obtain ⟨_, _, rfl, ⟨_, _, rfl⟩, rfl⟩ := hr
    exact hq ρ _ s (Ext.refl ρ) ⟨rfl, trivial, rfl⟩ hs
  · next g n off len =>
    refine ⟨rfl, fun ρ s us Q hs hr hq => ?_⟩
    obtain ⟨_, _, rfl, ⟨g', hg', rfl⟩, rfl⟩ := hr
    cases hb : Nat.beq n 1 && Nat.beq off 0 with
    | false => rw [hb] at h; cases h
    | true =>
      rw [hb, cond_true, lookK_eq] at h
      rw [Bool.and_eq_true] at hb
      obtain rfl := Nat.eq_of_beq_eq_true hb.1
      obtain rfl := Nat.eq_of_beq_eq_true hb.2
      cases hl : look g t with
      | none => rw [hl] at h; cases h
      | some e =>
        rw [hl, Option.bind_some] at h
        split at h
        · next m cnt rows ro =>
          cases ro with
          | true => cases h
          | false =>
            rw [cond_false] at h
            cases hm : Nat.beq m 1 with
            | false => rw [hm] at h; cases h
            | true =>
              rw [hm, cond_true] at h
              obtain rfl := Nat.eq_of_beq_eq_true hm
              obtain ⟨zs, h2, hz⟩ := intsK_some rows _ _ h
              cases hc : Nat.beq len zs.length && Nat.ble zs.length 1000000 with
              | false => rw [hc] at h2; cases h2
              | true =>
                rw [hc, cond_true, frcN_eq, intRows_eq, frcN_eq, updK_eq] at h2
                rw [Bool.and_eq_true] at hc
                obtain rfl := Nat.eq_of_beq_eq_true hc.1
                have hc2 := Nat.le_of_ble_eq_true hc.2
                cases h2
                obtain ⟨e', he, hre⟩ := hs.live hl hg'
                obtain ⟨_, _, rfl⟩ := hre
                rw [hz] at he
                refine ⟨rfl, rfl, zs, he, rfl, by omega, ?_⟩
                refine hq ρ _ _ (Ext.refl ρ) ⟨g', hg', rfl⟩ (hs.upd hl hg' ⟨rfl, (tvR_ints _).2, ?_⟩)
                rw [enc_ints]
        · cases h
  · cases h
/-! ### A sector read -/
noncomputable def str1 (r : List CT) (k : Nat → Nat → Option β) : Option β := match r with
  | [.str n v] => k n v
  | _ => none
theorem str1_some {r : List CT} {k : Nat → Nat → Option β} {q : β} (h : str1 r k = some q) : ∃ n v, r = [.str n v] ∧ k n v = some q := by
  unfold str1 at h
  split at h
  · exact ⟨_, _, rfl, h⟩
  · cases h
noncomputable def put1 (r : List CT) (k : Int → Nat → Nat → Option β) : Option β := match r with
  | [.int .i64 a, .str n v] => k a n v
  | _ => none
theorem put1_some {r : List CT} {k : Int → Nat → Nat → Option β} {q : β} (h : put1 r k = some q) : ∃ a n v, r = [.int .i64 a, .str n v] ∧ k a n v = some q := by
  unfold put1 at h
  split at h
  · exact ⟨_, _, _, rfl, h⟩
  · cases h
noncomputable def strsK (rows : List (List CT)) : (List (Nat × Nat) → Option β) → Option β :=
  List.rec (fun k => k []) (fun r _ ih k => str1 r fun n v => ih fun l => k ((n, v) :: l)) rows
noncomputable def putsK (rows : List (List CT)) : (List (Int × Nat × Nat) → Option β) → Option β :=
  List.rec (fun k => k []) (fun r _ ih k => put1 r fun a n v => ih fun l => k ((a, n, v) :: l)) rows
def sOf (p : Nat × Nat) : List UInt8 := bts p.1 p.2
def pOf (p : Int × Nat × Nat) : TPut := ⟨p.1, bts p.2.1 p.2.2⟩
theorem strsK_some : ∀ (rows : List (List CT)) (k : List (Nat × Nat) → Option β) (q : β), strsK rows k = some q → CanR rows → ∃ l, k l = some q ∧ tvR rows = (l.map sOf).map Cell.enc ∧ ∀ p ∈ l, p.2 < 256 ^ p.1
  | [], k, q, h, _ => ⟨[], h, rfl, fun _ h => by cases h⟩
  | r :: rs, k, q, h, hc => by
    have h : str1 r (fun n v => strsK rs fun l => k ((n, v) :: l)) = some q := h
    obtain ⟨n, v, rfl, h2⟩ := str1_some h
    obtain ⟨l, h3, h4, h5⟩ := strsK_some rs _ q h2 hc.2
    refine ⟨(n, v) :: l, h3, by simp only [tvR, tvL, tv, h4, List.map_cons]; rfl, fun p hp => ?_⟩
    rcases List.mem_cons.1 hp with rfl | hp
    · exact hc.1.1
    · exact h5 p hp
theorem putsK_some : ∀ (rows : List (List CT)) (k : List (Int × Nat × Nat) → Option β) (q : β), putsK rows k = some q → CanR rows → ∃ l, k l = some q ∧ tvR rows = (l.map pOf).map Cell.enc ∧ ∀ p ∈ l, p.2.2 < 256 ^ p.2.1
  | [], k, q, h, _ => ⟨[], h, rfl, fun _ h => by cases h⟩
  | r :: rs, k, q, h, hc => by
    have h : put1 r (fun a n v => putsK rs fun l => k ((a, n, v) :: l)) = some q := h
    obtain ⟨a, n, v, rfl, h2⟩ := put1_some h
    obtain ⟨l, h3, h4, h5⟩ := putsK_some rs _ q h2 hc.2
    refine ⟨(a, n, v) :: l, h3, by simp only [tvR, tvL, tv, h4, List.map_cons]; rfl, fun p hp => ?_⟩
    rcases List.mem_cons.1 hp with rfl | hp
    · exact hc.1.2.1
    · exact h5 p hp
noncomputable def rows0 (w : Nat) (x : CT) (k : List (List CT) → Option β) : Option β := match x with
  | .nilS => k []
  | .emp => k []
  | .seq n rows => bif Nat.beq n w then k rows else none
  | _ => none
theorem rows0_some {w : Nat} {x : CT} {k : List (List CT) → Option β} {q : β} (h : rows0 w x k = some q) (hc : Can x) : ∃ rows, k rows = some q ∧ CanR rows ∧ (tv x = .seq w (tvR rows) ∨ (rows = [] ∧ (tv x = .nilS ∨ tv x = .emp))) := by
  unfold rows0 at h
  split at h
  · exact ⟨[], h, trivial, .inr ⟨rfl, .inl rfl⟩⟩
  · exact ⟨[], h, trivial, .inr ⟨rfl, .inr rfl⟩⟩
  · next n rows =>
    cases hb : Nat.beq n w with
    | false => rw [hb] at h; cases h
    | true =>
      rw [hb, cond_true] at h
      obtain rfl := Nat.eq_of_beq_eq_true hb
      exact ⟨rows, h, hc, .inl rfl⟩
  · cases h
theorem dec_rows {α : Type} [Cell α] {x : CT} {w : Nat} {rows : List (List CT)} {l : List α} (hw : Cell.width α = w) (h : tv x = .seq w (tvR rows) ∨ (rows = [] ∧ (tv x = .nilS ∨ tv x = .emp))) (hl : tvR rows = l.map Cell.enc) :
    (Cell.dec [tv x] : Option (List α)) = some l := by
  rcases h with h | ⟨rfl, h⟩
  · rw [h, hl, ← hw]; exact Cell.dec_enc l
  · have : l = [] := by cases l with | nil => rfl | cons _ _ => cases hl
    subst this
    rcases h with h | h <;> rw [h] <;> rfl
/-- The last that was put there. -/
noncomputable def lastN (i : Nat) (l : List (Int × Nat × Nat)) : Option (Nat × Nat) :=
  List.rec none (fun p _ ih => match ih with | some s => some s | none => bif decide (p.1 = (i : Int)) then some p.2 else none) l
theorem lastN_eq (i : Nat) : ∀ l : List (Int × Nat × Nat), lastB (i : Int) (l.map pOf) = (lastN i l).map sOf
  | [] => rfl
  | p :: r => by
    have e : lastN i (p :: r) = match lastN i r with | some s => some s | none => bif decide (p.1 = (i : Int)) then some p.2 else none := rfl
    rw [e, List.map_cons, lastB, lastN_eq i r]
    cases lastN i r with
    | some s => rfl
    | none =>
      show (if p.1 = (i : Int) then some (bts p.2.1 p.2.2) else none) = _
      by_cases h : p.1 = (i : Int)
      · rw [if_pos h, decide_eq_true h]; rfl
      · rw [if_neg h, decide_eq_false h]; rfl
theorem lastN_mem (i : Nat) : ∀ (l : List (Int × Nat × Nat)) (s : Nat × Nat), lastN i l = some s → ∃ p ∈ l, p.2 = s
  | [], _, h => by cases h
  | p :: r, s, h => by
    have e : lastN i (p :: r) = match lastN i r with | some s => some s | none => bif decide (p.1 = (i : Int)) then some p.2 else none := rfl
    rw [e] at h
    cases hr : lastN i r with
    | some s' =>
      rw [hr] at h; cases h
      obtain ⟨q, h1, h2⟩ := lastN_mem i r _ hr
      exact ⟨q, List.mem_cons_of_mem _ h1, h2⟩
    | none =>
      rw [hr] at h
      cases hd : decide (p.1 = (i : Int)) with
      | true => rw [hd] at h; cases h; exact ⟨p, List.mem_cons_self .., rfl⟩
      | false => rw [hd] at h; cases h
theorem prod_dec {α γ : Type} [Cell α] [Cell γ] {c : TV} {r : List TV} (hw : Cell.width α = 1) : (Cell.dec (c :: r) : Option (α × γ)) = (Cell.dec [c] : Option α).bind fun a => (Cell.dec r : Option γ).map fun b => (a, b) := by
  show ((Cell.dec ((c :: r).take (Cell.width α)) : Option α).bind fun a => (Cell.dec ((c :: r).drop (Cell.width α)) : Option γ).map fun b => (a, b)) = _
  rw [hw]; rfl
noncomputable def natRead (args : List CV) : Option CV := match args with
  | [.agg [a, b, .int .i64 _, .int .i64 _, .bool down], .int .i64 (.ofNat i)] => ctOf a fun x => ctOf b fun y => rows0 1 x fun r1 => rows0 2 y fun r2 => strsK r1 fun l1 => putsK r2 fun l2 =>
      bif Nat.ble l1.length 1000000 && Nat.ble l2.length 1000000 then
        bif down then some (.tup [.str 0 0, .bool false]) else match l1[i]? with
          | none => some (.tup [.str 0 0, .bool false])
          | some p => match lastN i l2 with
            | some q => some (.tup [.str q.1 q.2, .bool true])
            | none => some (.tup [.str p.1 p.2, .bool true])
      else none
  | _ => none
theorem natRead_ok (args : List CV) (v : CV) (h : natRead args = some v) (us : List AV) (hr : RL nor args us) :
    (∃ x, A_dev_Read.dec us = some x ∧ p_dev_Read x) ∧ R nor v (selR (A_dev_Read.dec us) r_dev_Read) := by
  unfold natRead at h
  split at h
  · next a b li ar down i =>
    obtain ⟨_, _, rfl, ⟨cs, ⟨hcs, _⟩, rfl⟩, rfl⟩ := rl2 hr
    obtain ⟨x, rfl, h2⟩ := ctOf_some h
    obtain ⟨y, rfl, h3⟩ := ctOf_some h2
    clear h h2
    obtain ⟨_, _, rfl, ⟨_, hcx, rfl⟩, _, _, rfl, ⟨_, hcy, rfl⟩, _, _, rfl, rfl, _, _, rfl, rfl, _, _, rfl, rfl, rfl⟩ := hcs
    obtain ⟨r1, h4, c1, e1⟩ := rows0_some h3 hcx
    obtain ⟨r2, h5, c2, e2⟩ := rows0_some h4 hcy
    obtain ⟨l1, h6, f1, g1⟩ := strsK_some r1 _ _ h5 c1
    obtain ⟨l2, h7, f2, g2⟩ := putsK_some r2 _ _ h6 c2
    clear h3 h4 h5 h6
    have d1 : (Cell.dec [tv x] : Option (List (List UInt8))) = some (l1.map sOf) := dec_rows rfl e1 f1
    have d2 : (Cell.dec [tv y] : Option (List TPut)) = some (l2.map pOf) := dec_rows rfl e2 f2
    have hd : A_dev_Read.dec [.agg [.t (tv x), .t (tv y), .t (.int .i64 li), .t (.int .i64 ar), .t (.bool down)], .t (.int .i64 (.ofNat i))] = some (⟨l1.map sOf, l2.map pOf, li, ar, down⟩, (i : Int), ()) := by
      have ht : tvs? [.t (tv x), .t (tv y), .t (.int .i64 li), .t (.int .i64 ar), .t (.bool down)] = some [tv x, tv y, .int .i64 li, .int .i64 ar, .bool down] := rfl
      have hc : (Cell.dec [tv x, tv y, .int .i64 li, .int .i64 ar, .bool down] : Option TDev) = some ⟨l1.map sOf, l2.map pOf, li, ar, down⟩ := by
        have k2 : (Cell.dec [tv y, .int .i64 li, .int .i64 ar, .bool down] : Option (List TPut × Int × Int × Bool)) = some (l2.map pOf, li, ar, down) := by
          have e : (Cell.dec [tv y, .int .i64 li, .int .i64 ar, .bool down] : Option (List TPut × Int × Int × Bool)) = (Cell.dec [tv y] : Option (List TPut)).bind fun a => (Cell.dec [TV.int .i64 li, .int .i64 ar, .bool down] : Option (Int × Int × Bool)).map fun b => (a, b) := prod_dec rfl
          rw [e, d2]; rfl
        have k1 : (Cell.dec [tv x, tv y, .int .i64 li, .int .i64 ar, .bool down] : Option (List (List UInt8) × List TPut × Int × Int × Bool)) = some (l1.map sOf, l2.map pOf, li, ar, down) := by
          have e : (Cell.dec [tv x, tv y, .int .i64 li, .int .i64 ar, .bool down] : Option (List (List UInt8) × List TPut × Int × Int × Bool)) = (Cell.dec [tv x] : Option (List (List UInt8))).bind fun a => (Cell.dec [tv y, TV.int .i64 li, .int .i64 ar, .bool down] : Option (List TPut × Int × Int × Bool)).map fun b => (a, b) := prod_dec rfl
          rw [e, d1, k2]; rfl
        rw [dc_TDev, k1]; rfl
      have ha : (argA TDev).dec (.agg [.t (tv x), .t (tv y), .t (.int .i64 li), .t (.int .i64 ar), .t (.bool down)]) = some ⟨l1.map sOf, l2.map pOf, li, ar, down⟩ := by
        simp only [argA, ht, Option.bind_some, hc]
      unfold A_dev_Read
      rw [arms_cons, ha]; rfl
    rw [hd]
    cases hb : Nat.ble l1.length 1000000 && Nat.ble l2.length 1000000 with
    | false => rw [hb] at h7; cases h7
    | true =>
      rw [hb, cond_true] at h7
      rw [Bool.and_eq_true] at hb
      have b1 := Nat.le_of_ble_eq_true hb.1
      have b2 := Nat.le_of_ble_eq_true hb.2
      refine ⟨⟨_, rfl, by show (l1.map sOf).length ≤ _; rw [List.length_map]; omega, by show (l2.map pOf).length ≤ _; rw [List.length_map]; omega⟩, ?_⟩
      show R nor v (.tup [.t (.str (readD ⟨l1.map sOf, l2.map pOf, li, ar, down⟩ i).1), .t (.bool (readD ⟨l1.map sOf, l2.map pOf, li, ar, down⟩ i).2)])
      have no : readD ⟨l1.map sOf, l2.map pOf, li, ar, down⟩ i = ([], false) → some (CV.tup [.str 0 0, .bool false]) = some v → R nor v (.tup [.t (.str (readD ⟨l1.map sOf, l2.map pOf, li, ar, down⟩ i).1), .t (.bool (readD ⟨l1.map sOf, l2.map pOf, li, ar, down⟩ i).2)]) := fun e hv => by
        cases hv
        rw [e]
        exact ⟨_, ⟨_, _, rfl, ⟨by decide, rfl⟩, _, _, rfl, rfl, rfl⟩, rfl⟩
      have yes : ∀ s : Nat × Nat, s.2 < 256 ^ s.1 → readD ⟨l1.map sOf, l2.map pOf, li, ar, down⟩ i = (sOf s, true) → some (CV.tup [.str s.1 s.2, .bool true]) = some v → R nor v (.tup [.t (.str (readD ⟨l1.map sOf, l2.map pOf, li, ar, down⟩ i).1), .t (.bool (readD ⟨l1.map sOf, l2.map pOf, li, ar, down⟩ i).2)]) := fun s hs e hv => by
        cases hv
        rw [e]
        exact ⟨_, ⟨_, _, rfl, ⟨hs, rfl⟩, _, _, rfl, rfl, rfl⟩, rfl⟩
      cases down with
      | true => exact no (by rw [readD, if_pos (.inl rfl)]) h7
      | false =>
        rw [cond_false] at h7
        cases hi : l1[i]? with
        | none =>
          rw [hi] at h7
          have hn := List.getElem?_eq_none_iff.1 hi
          refine no ?_ h7
          have hh : hasD ⟨l1.map sOf, l2.map pOf, li, ar, false⟩ i = false := by
            show (decide ((0 : Int) ≤ (i : Int)) && decide ((i : Int) < ((l1.map sOf).length : Int))) = false
            rw [List.length_map, decide_eq_false (by omega : ¬ (i : Int) < (l1.length : Int)), Bool.and_false]
          rw [readD, if_pos (.inr hh)]
        | some p =>
          rw [hi] at h7
          obtain ⟨hlt, hp⟩ := List.getElem?_eq_some_iff.1 hi
          have hh : hasD ⟨l1.map sOf, l2.map pOf, li, ar, false⟩ i = true := by
            show (decide ((0 : Int) ≤ (i : Int)) && decide ((i : Int) < ((l1.map sOf).length : Int))) = true
            rw [List.length_map, decide_eq_true (by omega : (0 : Int) ≤ (i : Int)), decide_eq_true (by omega : (i : Int) < (l1.length : Int))]; rfl
          have e : readD ⟨l1.map sOf, l2.map pOf, li, ar, false⟩ i = ((lastB i (l2.map pOf)).getD ((l1.map sOf).getD i []), true) := by
            rw [readD, if_neg (by rw [hh]; simp)]
            rfl
          rw [lastN_eq] at e
          cases hl : lastN i l2 with
          | some q =>
            rw [hl] at h7 e
            obtain ⟨p2, m1, m2⟩ := lastN_mem i l2 q hl
            exact yes q (m2 ▸ g2 p2 m1) e h7
          | none =>
            rw [hl] at h7 e
            refine yes p (g1 p (hp ▸ List.getElem_mem _)) (e.trans ?_) h7
            show ((l1.map sOf).getD i [], true) = _
            rw [List.getD_eq_getElem?_getD, List.getElem?_map, hi]; rfl
  · cases h
end Go.Top

namespace Go.Proofs.YtenckbcdfdmckaaGreatDoor
open Go Go.RowKit Go.Lib
theorem del_info : (Tryz.prog.info? 78).map (fun i => (i.zero, i.size, i.bytes)) = some (some (.agg #[.int .i64 0, .int .i64 0, .int .i64 0, .int .i64 0, .slice none 0 0]), 5, 56) := by kernel_rfl
def zC (k : Nat) : Value := if k % 5 = 4 then .slice none 0 0 else .int .i64 0
theorem zC_one (k : Nat) : (zC k).oneCell' = true := by unfold zC; split <;> rfl
theorem del_zero (w : World) : (zeroValue 78).run Tryz.prog w = .ok (.agg #[.int .i64 0, .int .i64 0, .int .i64 0, .int .i64 0, .slice none 0 0]) w := by kernel_rfl
/-- Cells from one number on. -/
def cellsFrom (C : Nat → Value) (o n : Nat) : List Value := (List.range n).map fun k => C (o + k)
theorem cellsFrom_get {C : Nat → Value} {o n k : Nat} {u : Value} (h : (cellsFrom C o n)[k]? = some u) : k < n ∧ u = C (o + k) := by
  have hk : k < (cellsFrom C o n).length := (List.getElem?_eq_some_iff.1 h).1
  simp only [cellsFrom, List.length_map, List.length_range] at hk
  refine ⟨hk, ?_⟩
  simp only [cellsFrom, List.getElem?_map, List.getElem?_range hk, Option.map_some, Option.some.injEq] at h
  exact h.symm
theorem cellsFrom_len {C : Nat → Value} {o n : Nat} : (cellsFrom C o n).length = n := by simp [cellsFrom]
theorem del_zeros (n : Nat) : (Builtin.zeroCells (Value.agg #[.int .i64 0, .int .i64 0, .int .i64 0, .int .i64 0, .slice none 0 0]).cells n).toList = cellsFrom zC 0 (n * 5) := by
  apply List.ext_getElem?
  intro k
  have e5 : (Value.agg #[.int .i64 0, .int .i64 0, .int .i64 0, .int .i64 0, .slice none 0 0]).cells = #[.int .i64 0, .int .i64 0, .int .i64 0, .int .i64 0, .slice none 0 0] := rfl
  rw [e5]
  unfold Builtin.zeroCells
  have hs : (#[.int .i64 0, .int .i64 0, .int .i64 0, .int .i64 0, .slice none 0 0] : Array Value).size = 5 := rfl
  rw [hs]
  simp only [Array.toList_map, Array.toList_range, cellsFrom, List.getElem?_map, Nat.zero_add]
  congr 1
  funext q
  unfold zC
  have h5 : q % 5 < 5 := Nat.mod_lt _ (by omega)
  match hq : q % 5, h5 with
  | 0, _ => rfl
  | 1, _ => rfl
  | 2, _ => rfl
  | 3, _ => rfl
  | 4, _ => rfl
theorem clear_sets (w : World) (ty : TypeId) (b o n c : Nat) (hn : 0 < n)
    (hc : ∀ j, j < n * 5 → (w.cell? ⟨b, o + j, none⟩).isSome = true) (hf : ∀ j, j < n * 5 → w.frozen? ⟨b, o + j, none⟩ = false) :
    (Builtin.clear_ #[37] ty #[.slice (some ⟨b, o, none⟩) n c]).run Tryz.prog w = .ok (.tuple #[]) (w.setCells b o (cellsFrom zC 0 (n * 5))) := by
  have hst := run_storeCells_cells (P := Tryz.prog) b o (cellsFrom zC 0 (n * 5)) 0 w (by rw [cellsFrom_len]; simpa using hc) (by rw [cellsFrom_len]; simpa using hf) (by intro v hv; obtain ⟨k, hk⟩ := List.getElem?_of_mem hv; rw [(cellsFrom_get hk).2]; exact zC_one _)
  simp only [Nat.add_zero] at hst
  obtain ⟨m, rfl⟩ : ∃ m, n = m + 1 := ⟨n - 1, by omega⟩
  simp [Builtin.clear_, run_underlying Tryz.underlying37, del_zero, del_zeros, hst]
set_option maxHeartbeats 4000000 in
set_option maxRecDepth 1000000 in
theorem del_walk (blk off cap n i j : Nat) (C : Nat → Value) (w : World) (hC : ∀ k, k < n * 5 → w.cell? ⟨blk, off + k, none⟩ = some (C k) ∧ w.frozen? ⟨blk, off + k, none⟩ = false) (h1 : ∀ k, k < n * 5 → (C k).oneCell' = true)
    (hcap : n ≤ cap) (hm : cap ≤ 9223372036854775807) (hij : i < j) (hj : j ≤ n) :
    Calls Tryz.prog 149 #[.slice (some ⟨blk, off, none⟩) n cap, .int .i64 i, .int .i64 j] w fun e w' => e = .returned (.slice (some ⟨blk, off, none⟩) (i + (n - j)) cap) ∧
      w' = (w.drew.setCells blk (off + i * 5) (cellsFrom C (j * 5) ((n - j) * 5))).setCells blk (off + (i + (n - j)) * 5) (cellsFrom zC 0 ((n - (i + (n - j))) * 5)) := by
  obtain ⟨i0, hi0, hz0, hz1, hz2⟩ := info_parts del_info
  obtain ⟨news, hnews⟩ : ∃ news, news = cellsFrom C (j * 5) ((n - j) * 5) := ⟨_, rfl⟩
  have hlen : news.length = (n - j) * 5 := by rw [hnews, cellsFrom_len]
  obtain ⟨A, hA, hsrc⟩ : ∃ A : Addr, (if cap = j then some (⟨blk, off, none⟩ : Addr) else some ⟨blk, off + j * 5, none⟩) = some A ∧ Hid (∀ t u, news[t]? = some u → w.drew.cell? (A.add t) = some u) := by
    by_cases h : cap = j
    · refine ⟨⟨blk, off, none⟩, by simp [h], fun t u hu => ?_⟩
      have h0 : news.length = 0 := by rw [hlen]; omega
      rw [List.length_eq_zero_iff.1 h0] at hu
      simp at hu
    · refine ⟨⟨blk, off + j * 5, none⟩, by simp [h], fun t u hu => ?_⟩
      rw [hnews] at hu
      obtain ⟨h2, h3⟩ := cellsFrom_get hu
      rw [Addr.add_lit, Nat.add_assoc, h3]
      exact (hC (j * 5 + t) (by omega)).1
  have s1 : Hid (news.length = (n - j) * 5) := hlen
  have s2 : Hid (∀ u ∈ news, u.oneCell' = true) := by
    intro u hu
    rw [hnews] at hu
    obtain ⟨k, hk⟩ := List.getElem?_of_mem hu
    obtain ⟨h2, h3⟩ := cellsFrom_get hk
    rw [h3]; exact h1 _ (by omega)
  have s3 : Hid (∀ t, t < news.length → (w.drew.cell? ⟨blk, off + i * 5 + t, none⟩).isSome = true ∧ w.drew.frozen? ⟨blk, off + i * 5 + t, none⟩ = false) := by
    intro t ht
    rw [hlen] at ht
    rw [Nat.add_assoc]
    exact ⟨by show (w.cell? _).isSome = true; rw [(hC (i * 5 + t) (by omega)).1]; rfl, (hC (i * 5 + t) (by omega)).2⟩
  obtain ⟨W1, hW1⟩ : ∃ W1, W1 = w.drew.setCells blk (off + i * 5) news := ⟨_, rfl⟩
  have hcl : ∀ ty, (Builtin.clear_ #[37] ty #[.slice (some ⟨blk, off + (i + (n - j)) * 5, none⟩) (n - (i + (n - j))) (cap - (i + (n - j)))]).run Tryz.prog W1 = .ok (.tuple #[]) (W1.setCells blk (off + (i + (n - j)) * 5) (cellsFrom zC 0 ((n - (i + (n - j))) * 5))) :=
    fun ty => clear_sets W1 ty blk _ _ _ (by omega) (fun t ht => by rw [hW1]; exact World.isSome_setCells _ _ _ _ _ (by rw [Nat.add_assoc]; show (w.cell? _).isSome = true; rw [(hC ((i + (n - j)) * 5 + t) (by omega)).1]; rfl))
      (fun t ht => by rw [hW1, World.frozen?_setCells, Nat.add_assoc]; exact (hC ((i + (n - j)) * 5 + t) (by omega)).2)
  have hW : Hid (W1 = w.drew.setCells blk (off + i * 5) news) := hW1
  have hic : i ≤ cap := by omega
  have hjc : j ≤ cap := by omega
  have X : Hid (W1 = w.drew.setCells blk (off + i * 5) (cellsFrom C (j * 5) ((n - j) * 5))) := (show W1 = w.drew.setCells blk (off + i * 5) (cellsFrom C (j * 5) ((n - j) * 5)) by rw [hW1, hnews])
  clear hW1 hC hnews hlen
  go_enter Tryz.func149, Tryz.ntmps149
  go_wp2_with fail
  go_region_law (refine step_append_room rfl (.tmp 22) (.tmp 25) 37 rfl 78 i0 5 Tryz.underlying37 hi0 hz1 blk off i cap (by simp [Act.eval, Act.put]) A (n - j) (cap - j) news (by simp [Act.eval, Act.put]) s1.out hsrc.out s2.out (by omega) s3.out ?_; rw [← hW.out])
  go_wp2
  go_ret
  exact ⟨rfl, by rw [← X.out]⟩
end Go.Proofs.YtenckbcdfdmckaaGreatDoor

namespace Go.Top
open Go Go.Eng Go.Proofs.YtenckbcdfdmckaaGreatDoor
theorem setCells_repl {b : Nat} {T : TypeId} {fr : Nat × Nat} : ∀ (vs : List Value) (o : Nat) (c : Array Value) (w : World), w.heap[b]? = some (.cells c T fr) → w.setCells b o vs = repl w b (putL c o vs) T fr
  | [], o, c, w, hb => by simp [World.setCells, putL, repl_self hb]
  | v :: r, o, c, w, hb => by
    have ih := setCells_repl r (o + 1) (c.setIfInBounds o v) (repl w b (c.setIfInBounds o v) T fr) (repl_same hb)
    simp only [World.setCells, setCell_repl hb, ih, repl_repl, putL]
def zRow : List TV := [.int .i64 0, .int .i64 0, .int .i64 0, .int .i64 0, .nilS]
/-- What is left; noughts behind it. -/
def delR (l : List (List TV)) (a b : Nat) : List (List TV) := l.take a ++ l.drop b ++ List.replicate (b - a) zRow
theorem delR_len {l : List (List TV)} {a b : Nat} (h : a ≤ b) (h2 : b ≤ l.length) : (delR l a b).length = l.length := by simp [delR]; omega
theorem delR_at {l : List (List TV)} {a b i : Nat} (h : a ≤ b) (h2 : b ≤ l.length) (hi : i < l.length) : (delR l a b).getD i [] = if i < a then l.getD i [] else if i < a + (l.length - b) then l.getD (i - a + b) [] else zRow := by
  unfold delR
  simp only [List.getD_eq_getElem?_getD]
  by_cases h1 : i < a
  · rw [if_pos h1, List.getElem?_append_left (by simp; omega), List.getElem?_append_left (by simp; omega), List.getElem?_take, if_pos h1]
  · rw [if_neg h1]
    by_cases h3 : i < a + (l.length - b)
    · rw [if_pos h3, List.getElem?_append_left (by simp; omega), List.getElem?_append_right (by simp; omega), List.getElem?_drop]
      congr 2
      simp
      omega
    · rw [if_neg h3, List.getElem?_append_right (by simp; omega), List.getElem?_replicate]
      rw [if_pos (by simp; omega)]
      rfl
def delF : List AV → Store → (AV → Store → Prop) → Prop
  | [.tok g n off len, .t (.int .i64 i), .t (.int .i64 j)], s, Q => ∃ (l : List (List TV)) (a b : Nat), i = (a : Int) ∧ j = (b : Int) ∧ n = 5 ∧ off = 0 ∧ len = l.length ∧ s.f g = some (.row 5 l false) ∧ a < b ∧ b ≤ l.length ∧
      Q (.tok g 5 0 (a + (l.length - b))) (s.set g (some (.row 5 (delR l a b) false)))
  | _, _, _ => False
theorem args3 {β : Bt} {w : World} {A : Addr → Prop} {u v x : AV} {vs : Array Value} (h : Args β w A [u, v, x] vs) : ∃ a b c, vs = #[a, b, c] ∧ Rep β w A u a ∧ Rep β w A v b ∧ Rep β w A x c := by
  obtain ⟨h1, h2⟩ := h
  have h1 : vs.size = 3 := h1.symm
  refine ⟨vs[0], vs[1], vs[2], Array.ext (by simp [h1]) fun i hi hi' => ?_, ?_, ?_, ?_⟩
  · have : i = 0 ∨ i = 1 ∨ i = 2 := by simp at hi'; omega
    rcases this with rfl | rfl | rfl <;> rfl
  · have := h2 0 (by simp); simpa [h1] using this
  · have := h2 1 (by simp); simpa [h1] using this
  · have := h2 2 (by simp); simpa [h1] using this
theorem zC_rep (w : World) (A : Addr → Prop) (i j : Nat) (hj : j < 5) : RepT w A (zRow.getD j default) (zC (i * 5 + j)) := by
  have e : (i * 5 + j) % 5 = j := by omega
  unfold zC
  rw [e]
  match j, hj with
  | 0, _ => exact .int _ _
  | 1, _ => exact .int _ _
  | 2, _ => exact .int _ _
  | 3, _ => exact .int _ _
  | 4, _ => exact .nilS
theorem del_ok : COk Proofs.Tryz.prog 149 (.gen [true, true, true] delF) := by
  refine ⟨⟨_, Proofs.Tryz.func149, by kernel_rfl, by kernel_rfl⟩, fun ar s Q Q' hq hT => ?_, fun ar s Q hT => ?_, fun ar vs β s w F Q hT hs ha => ?_⟩
  · unfold delF at hT ⊢
    split at hT
    · obtain ⟨l, a, b, h1, h2, h3, h4, h5, h6, h7, h8, h9⟩ := hT
      exact ⟨l, a, b, h1, h2, h3, h4, h5, h6, h7, h8, hq _ _ h9⟩
    · exact hT.elim
  · unfold delF at hT
    split at hT
    · obtain ⟨l, a, b, h1, h2, h3, h4, h5, h6, h7, h8, h9⟩ := hT
      exact ⟨_, _, h9⟩
    · exact hT.elim
  · unfold delF at hT
    split at hT
    · obtain ⟨l, i, j, rfl, rfl, rfl, rfl, rfl, hg, hij, hj, hK⟩ := hT
      obtain ⟨x, y, z, rfl, hr, hy, hz⟩ := args3 ha
      obtain rfl := rep_int hy
      obtain rfl := rep_int hz
      rename_i g
      generalize hln : l.length = ln at hr
      cases hr with
      | tokN g n a hβ => omega
      | tok g n off len b a cap T sz hβ hle hm hsh ha' =>
        subst hln
        obtain ⟨rfl, hsz⟩ : a = some ⟨b, 0, none⟩ ∧ sz = cap * 5 := by
          rcases ha' with ⟨h1, h2⟩ | ⟨_, h2⟩
          · exact ⟨by simpa using h1, by simpa using h2⟩
          · exact absurd rfl h2
        obtain ⟨e1, e2⟩ := hs.ents _ _ hg
        rcases e2 with ⟨e2, _⟩ | ⟨b', c, Tc, fr, e2, e3, e4, e5, e6⟩
        · rw [hβ] at e2; cases e2
        rw [hβ] at e2
        obtain rfl : b = b' := by simpa using e2
        have hin : ∀ k, k < l.length * 5 → k < c.size := fun k hk => by omega
        have hrepk : ∀ k, k < l.length * 5 → RepT w (Or2 F (OwnOf β s)) ((l.getD (k / 5) []).getD (k % 5) default) (c.getD k undef) := fun k hk => by
          have := e6 (k / 5) (k % 5) (by omega) (by omega)
          rwa [show k / 5 * 5 + k % 5 = k from by omega] at this
        have call := del_walk b 0 cap l.length i j (fun k => c.getD k undef) w (fun k hk => by
          have hkc := hin k hk
          refine ⟨by rw [Nat.zero_add]; exact thaw_cell e3 hkc, ?_⟩
          simp only [World.frozen?, e3, Nat.zero_add]
          have := e4 k hkc
          simpa using this) (fun k hk => (hrepk k hk).one) (by omega) (by unfold maxLen at hm; omega) hij hj
        refine call.mono ?_
        rintro e w' ⟨rfl, rfl⟩
        obtain ⟨news, hnews⟩ : ∃ news, news = cellsFrom (fun k => c.getD k undef) (j * 5) ((l.length - j) * 5) := ⟨_, rfl⟩
        obtain ⟨zs, hzs⟩ : ∃ zs, zs = cellsFrom zC 0 ((l.length - (i + (l.length - j))) * 5) := ⟨_, rfl⟩
        have hnl : news.length = (l.length - j) * 5 := by rw [hnews, cellsFrom_len]
        have hzl : zs.length = (l.length - (i + (l.length - j))) * 5 := by rw [hzs, cellsFrom_len]
        obtain ⟨c2, hc2⟩ : ∃ c2, c2 = putL (putL c (i * 5) news) ((i + (l.length - j)) * 5) zs := ⟨_, rfl⟩
        have hs2 : c2.size = c.size := by rw [hc2, putL_size, putL_size]
        have hget : ∀ k, k < l.length * 5 → c2[k]? = if k < i * 5 then c[k]? else if k < (i + (l.length - j)) * 5 then news[k - i * 5]? else zs[k - (i + (l.length - j)) * 5]? := fun k hk => by
          rw [hc2, putL_get _ _ _ _ (by rw [putL_size]; omega), putL_get _ _ _ _ (by omega)]
          by_cases h1 : k < i * 5
          · rw [if_neg (by omega), if_neg (by omega), if_pos h1]
          · rw [if_neg h1]
            by_cases h2 : k < (i + (l.length - j)) * 5
            · rw [if_neg (by omega), if_pos (by omega), if_pos h2]
            · rw [if_pos (by omega), if_neg h2]
        have hw : (w.drew.setCells b (0 + i * 5) news).setCells b (0 + (i + (l.length - j)) * 5) zs = (repl w b c2 Tc fr).drew := by
          have e3' : w.drew.heap[b]? = some (.cells c Tc fr) := e3
          rw [Nat.zero_add, Nat.zero_add, setCells_repl _ _ _ _ e3', setCells_repl _ _ _ _ (repl_same e3'), repl_repl, ← hc2]
          rfl
        rw [← hnews, ← hzs, hw]
        have hf : Eng.Frame (OwnOf β s) β w (OwnOf β (s.set g (some (.row 5 (delR l i j) false)))) β (repl w b c2 Tc fr) := by
          refine repl_frame e3 hs2 (fun q hq => ?_) (fun k q hk ha => ?_) (fun _ _ h => h) fun _ _ h => .inl h
          · exact absurd (own_row hg hβ q) hq
          · obtain ⟨k', b'', g1, g2, g3⟩ := ha
            by_cases hkg : k' = g
            · subst hkg
              exact ⟨k', b'', g1, g2, by rw [hg]; intro h; cases h⟩
            · rw [Store.set_other _ _ hkg] at g3; exact ⟨k', b'', g1, g2, g3⟩
        have hs' : StOk F β (s.set g (some (.row 5 (delR l i j) false))) (repl w b c2 Tc fr) := by
          have dom' : ∀ k, (s.set g (some (.row 5 (delR l i j) false))).f k ≠ none → s.f k ≠ none := fun k hk => by
            by_cases hkg : k = g
            · subst hkg; rw [hg]; simp
            · rwa [Store.set_other _ _ hkg] at hk
          refine hs.evolve hf (fun k e he => ?_) (fun k m b hk hm => hs.inj k m b (dom' k hk) (dom' m hm)) hs.fin (fun k q hq => by rw [repl_size]; exact hs.dom k q hq) fun a ha k hk => hs.apart a ha k (dom' k hk)
          by_cases hkg : k = g
          · subst hkg
            rw [Store.set_same] at he
            cases he
            right
            have hdl := delR_len (l := l) (a := i) (b := j) (by omega) hj
            refine ⟨fun q hq => ?_, .inr ⟨b, _, Tc, fr, hβ, repl_same e3, by rw [hs2]; exact e4, by rw [hs2, hdl]; exact e5, fun q p hq hp => ?_⟩⟩
            · rw [hdl] at hq
              rw [delR_at (by omega) hj hq]
              split
              · exact e1 q hq
              · split
                · exact e1 _ (by omega)
                · rfl
            · rw [hdl] at hq
              rw [delR_at (by omega) hj hq, Array.getD_eq_getD_getElem?, hget _ (by omega)]
              by_cases h1 : q < i
              · rw [if_pos h1, if_pos (by omega), ← Array.getD_eq_getD_getElem?]
                exact (e6 q p hq hp).frame hf
              · rw [if_neg h1, if_neg (show ¬ q * 5 + p < i * 5 from by omega)]
                by_cases h2 : q < i + (l.length - j)
                · rw [if_pos h2, if_pos (by omega)]
                  have e : news[q * 5 + p - i * 5]? = some (c.getD ((q - i + j) * 5 + p) undef) := by
                    rw [hnews]
                    simp only [cellsFrom, List.getElem?_map]
                    rw [List.getElem?_range (by omega)]
                    simp only [Option.map_some]
                    congr 2
                    omega
                  rw [e]
                  exact (e6 (q - i + j) p (by omega) hp).frame hf
                · rw [if_neg h2, if_neg (by omega)]
                  have e : zs[q * 5 + p - (i + (l.length - j)) * 5]? = some (zC ((q - (i + (l.length - j))) * 5 + p)) := by
                    rw [hzs]
                    simp only [cellsFrom, List.getElem?_map]
                    rw [List.getElem?_range (by omega)]
                    simp only [Option.map_some]
                    congr 2
                    omega
                  rw [e]
                  exact zC_rep _ _ _ _ hp
          · rw [Store.set_other _ _ hkg] at he
            refine .inl ⟨he, fun q hq => repl_other fun hqb => ?_⟩
            subst hqb
            exact hkg (hs.inj k g q (by rw [he]; simp) (by rw [hg]; simp) hq hβ)
        have hshape := hf.shape b (hs.dom _ _ hβ)
        refine ⟨β, _, _, _, rfl, hK, hs'.drew, .tok g 5 0 _ b _ cap T sz hβ (by omega) hm ?_ (.inl ⟨by simp, by simpa using hsz⟩), hf.drew, .set (.inl (by rw [hg]; simp))⟩
        exact hshape.trans hsh
    · exact hT.elim
end Go.Top

namespace Go.Top
open Go Go.Eng Go.Proofs.YtenckbcdfdmckaaGreatDoor
def zDel : List CT := [.int .i64 0, .int .i64 0, .int .i64 0, .int .i64 0, .nilS]
def delC (l : List (List CT)) (a b : Nat) : List (List CT) := l.take a ++ l.drop b ++ List.replicate (b - a) zDel
theorem delC_tv (l : List (List CT)) (a b : Nat) : tvR (delC l a b) = delR (tvR l) a b := by
  simp only [delC, delR, tvR_map, List.map_append, List.map_take, List.map_drop, List.map_replicate]
  rfl
theorem delC_can {l : List (List CT)} {a b : Nat} (h : CanR l) : CanR (delC l a b) := by
  rw [canR_iff] at h ⊢
  intro x hx
  simp only [delC, List.mem_append] at hx
  rcases hx with (hx | hx) | hx
  · exact h x (List.mem_of_mem_take hx)
  · exact h x (List.mem_of_mem_drop hx)
  · rw [List.eq_of_mem_replicate hx]; exact ⟨trivial, trivial, trivial, trivial, trivial, trivial⟩
noncomputable def natDel (args : List CV) (t : St) (nx : Nat) : Option (CV × St × Nat) := match args with
  | [.tok g n off len, .int .i64 (.ofNat i), .int .i64 (.ofNat j)] => bif Nat.beq n 5 && Nat.beq off 0 then lookK g (fun e => match e with
      | .row m cnt rows ro => bif ro then none else bif Nat.beq m 5 && (Nat.beq len rows.length && (Nat.blt i j && Nat.ble j rows.length)) then
          frcN (i + (rows.length - j)) fun k => updK g (.row 5 cnt (delC rows i j) false) t fun t2 => some (.tok g 5 0 k, t2, nx) else none
      | _ => none) t else none
  | _ => none
theorem natDel_ok (args : List CV) (t : St) (nx : Nat) (v : CV) (t' : St) (nx' : Nat) (h : natDel args t nx = some (v, t', nx')) : args.length = 3 ∧
    ∀ ρ s us Q, SimS ρ t nx s → RL ρ args us → (∀ ρ' u s', Ext ρ ρ' → R ρ' v u → SimS ρ' t' nx' s' → Q u s') → delF us s Q := by
  unfold natDel at h
  split at h
  · next g n off len i j =>
    refine ⟨rfl, fun ρ s us Q hs hr hq => ?_⟩
    obtain ⟨_, _, rfl, ⟨g', hg', rfl⟩, _, _, rfl, hu2, _, _, rfl, hu3, rfl⟩ := hr
    obtain rfl := hu2
    obtain rfl := hu3
    cases hb : Nat.beq n 5 && Nat.beq off 0 with
    | false => rw [hb] at h; cases h
    | true =>
      rw [hb, cond_true, lookK_eq] at h
      rw [Bool.and_eq_true] at hb
      obtain rfl := Nat.eq_of_beq_eq_true hb.1
      obtain rfl := Nat.eq_of_beq_eq_true hb.2
      cases hl : look g t with
      | none => rw [hl] at h; cases h
      | some e =>
        rw [hl, Option.bind_some] at h
        split at h
        · next m cnt rows ro =>
          cases ro with
          | true => cases h
          | false =>
            rw [cond_false] at h
            cases hc : Nat.beq m 5 && (Nat.beq len rows.length && (Nat.blt i j && Nat.ble j rows.length)) with
            | false => rw [hc] at h; cases h
            | true =>
              rw [hc, cond_true, frcN_eq, updK_eq] at h
              cases h
              simp only [Bool.and_eq_true, Nat.blt_eq, Nat.ble_eq] at hc
              obtain ⟨h1, h2, h3, h4⟩ := hc
              obtain rfl := Nat.eq_of_beq_eq_true h1
              obtain rfl := Nat.eq_of_beq_eq_true h2
              obtain ⟨e', he, hre⟩ := hs.live hl hg'
              obtain ⟨rfl, hcan, rfl⟩ := hre
              have hlen : (tvR rows).length = rows.length := by rw [tvR_map, List.length_map]
              refine ⟨tvR rows, i, j, rfl, rfl, rfl, rfl, hlen.symm, he, h3, by rw [hlen]; exact h4, ?_⟩
              rw [hlen]
              refine hq ρ _ _ (Ext.refl ρ) ⟨_, hg', rfl⟩ (hs.upd hl hg' ⟨?_, delC_can hcan, ?_⟩)
              · simp [delC]; omega
              · rw [delC_tv]
        · cases h
  · cases h
end Go.Top

namespace Go.Top
open Go Go.Eng Go.Proofs.YtenckbcdfdmckaaGreatDoor
universe u
variable {β : Type u}

/-! ### Sort -/
noncomputable def natSort (args : List CV) (t : St) (nx : Nat) : Option (CV × St × Nat) := match args with
  | [.t .nilS] => some (.tup [], t, nx)
  | [.tok g n off len] => bif Nat.beq n 1 && Nat.beq off 0 then lookK g (fun e => match e with
      | .row m _ rows ro => bif ro then none else bif Nat.beq m 1 then intsK rows fun zs => bif Nat.beq len zs.length && Nat.ble zs.length 1000000 then
          intRows (sortL zs) fun rows2 => frcN rows2.length fun c => updK g (.row 1 c rows2 false) t fun t2 => some (.tup [], t2, nx) else none else none
      | _ => none) t else none
  | _ => none
theorem natSort_ok (args : List CV) (t : St) (nx : Nat) (v : CV) (t' : St) (nx' : Nat) (h : natSort args t nx = some (v, t', nx')) : args.length = 1 ∧
    ∀ ρ s us Q, SimS ρ t nx s → RL ρ args us → (∀ ρ' u s', Ext ρ ρ' → R ρ' v u → SimS ρ' t' nx' s' → Q u s') → F_slices_Sort___int_int_ us s Q := by
  unfold natSort at h
  split at h
  · cases h
    refine ⟨rfl, fun ρ s us Q hs hr hq => ?_⟩
    obtain ⟨_, _, rfl, ⟨_, _, rfl⟩, rfl⟩ := hr
    exact hq ρ _ s (Ext.refl ρ) ⟨_, rfl, rfl⟩ hs
  · next g n off len =>
    refine ⟨rfl, fun ρ s us Q hs hr hq => ?_⟩
    obtain ⟨_, _, rfl, ⟨g', hg', rfl⟩, rfl⟩ := hr
    cases hb : Nat.beq n 1 && Nat.beq off 0 with
    | false => rw [hb] at h; cases h
    | true =>
      rw [hb, cond_true, lookK_eq] at h
      rw [Bool.and_eq_true] at hb
      obtain rfl := Nat.eq_of_beq_eq_true hb.1
      obtain rfl := Nat.eq_of_beq_eq_true hb.2
      cases hl : look g t with
      | none => rw [hl] at h; cases h
      | some e =>
        rw [hl, Option.bind_some] at h
        split at h
        · next m cnt rows ro =>
          cases ro with
          | true => cases h
          | false =>
            rw [cond_false] at h
            cases hm : Nat.beq m 1 with
            | false => rw [hm] at h; cases h
            | true =>
              rw [hm, cond_true] at h
              obtain rfl := Nat.eq_of_beq_eq_true hm
              obtain ⟨zs, h2, hz⟩ := intsK_some rows _ _ h
              cases hc : Nat.beq len zs.length && Nat.ble zs.length 1000000 with
              | false => rw [hc] at h2; cases h2
              | true =>
                rw [hc, cond_true, intRows_eq, frcN_eq, updK_eq] at h2
                rw [Bool.and_eq_true] at hc
                obtain rfl := Nat.eq_of_beq_eq_true hc.1
                have hc2 := Nat.le_of_ble_eq_true hc.2
                cases h2
                obtain ⟨e', he, hre⟩ := hs.live hl hg'
                obtain ⟨_, _, rfl⟩ := hre
                rw [hz] at he
                refine ⟨rfl, rfl, zs, he, rfl, by omega, ?_⟩
                refine hq ρ _ _ (Ext.refl ρ) ⟨_, rfl, rfl⟩ (hs.upd hl hg' ⟨rfl, (tvR_ints _).2, ?_⟩)
                rw [enc_ints]
        · cases h
  · cases h

/-! ### The table -/
inductive Nv where
  | scal (c : List AV → Prop) (r : List AV → AV) (n : List CV → Option CV)
  | pure (c : List AV → Prop) (es : List AV → List Entry) (mk : List AV → List Nat → AV) (n : List CV → Option (CV × List Ent))
  | gen (modes : List Bool) (F : List AV → Store → (AV → Store → Prop) → Prop) (n : List CV → St → Nat → Option (CV × St × Nat))
def Nv.con : Nv → Con
  | .scal c r _ => .scal c r
  | .pure c es mk _ => .pure c es mk
  | .gen m F _ => .gen m F
def NvOk (P : Program) (f : Nat) : Nv → Prop
  | .scal c r n => COk P f (.scal c r) ∧ ∀ args v, n args = some v → ∀ us, RL nor args us → c us ∧ R nor v (r us)
  | .pure c es mk n => COk P f (.pure c es mk) ∧ ∀ args v l, n args = some (v, l) → ∀ us, RL nor args us → c us ∧ REs l (es us) ∧ ∀ gs : List Nat, gs.length = l.length → R (fun k => gs[k]?) v (mk us gs)
  | .gen modes F n => COk P f (.gen modes F) ∧ modes.all id = true ∧ ∀ args t nx v t' nx', n args t nx = some (v, t', nx') → args.length = modes.length ∧
      ∀ ρ s us Q, SimS ρ t nx s → RL ρ args us → (∀ ρ' u s', Ext ρ ρ' → R ρ' v u → SimS ρ' t' nx' s' → Q u s') → F us s Q
def AllNv (P : Program) : List (Nat × Nv) → Prop
  | [] => True
  | (f, x) :: r => NvOk P f x ∧ AllNv P r
noncomputable def findN (f : Nat) (l : List (Nat × Nv)) : Option Nv := List.rec none (fun x _ ih => Prod.rec (fun g n => bif Nat.beq f g then some n else ih) x) l
theorem findN_ok {P : Program} {f : Nat} : ∀ {l : List (Nat × Nv)} {x : Nv}, AllNv P l → findN f l = some x → NvOk P f x
  | [], _, _, h => by cases h
  | (g, n) :: r, x, ha, h => by
    have h : (bif Nat.beq f g then some n else findN f r) = some x := h
    cases hb : Nat.beq f g with
    | true =>
      rw [hb] at h; cases h
      obtain rfl := Nat.eq_of_beq_eq_true hb
      exact ha.1
    | false => rw [hb] at h; exact findN_ok ha.2 h
noncomputable def orcT (l : List (Nat × Nv)) : Orc where
  kind f := match findN f l with
    | some (.scal ..) => .scal
    | some (.pure ..) => .pure
    | some (.gen ..) => .gen
    | none => .no
  scal f args := match findN f l with
    | some (.scal _ _ n) => n args
    | _ => none
  pure f args := match findN f l with
    | some (.pure _ _ _ n) => n args
    | _ => none
  gen f args t nx := match findN f l with
    | some (.gen _ _ n) => n args t nx
    | _ => none
noncomputable def baseT (l : List (Nat × Nv)) (f : Nat) : Option Con := (findN f l).map Nv.con
theorem orcT_ok {P : Program} {l : List (Nat × Nv)} (ha : AllNv P l) (ty : TypeId → Option TyD) (eqk : TypeId → Option (List Nat)) : OrcOk ⟨ty, eqk, baseT l⟩ (orcT l) where
  scal f hk := by
    have hk : (match findN f l with | some (.scal ..) => Knd.scal | some (.pure ..) => .pure | some (.gen ..) => .gen | none => .no) = .scal := hk
    cases hf : findN f l with
    | none => rw [hf] at hk; cases hk
    | some x =>
      rw [hf] at hk
      have ho := findN_ok ha hf
      cases x with
      | scal c r n => exact ⟨c, r, by show baseT l f = _; rw [baseT, hf]; rfl, fun args v h => by
          have h : (match findN f l with | some (.scal _ _ n) => n args | _ => none) = some v := h
          rw [hf] at h
          exact ho.2 args v h⟩
      | pure => cases hk
      | gen => cases hk
  pure f hk := by
    have hk : (match findN f l with | some (.scal ..) => Knd.scal | some (.pure ..) => .pure | some (.gen ..) => .gen | none => .no) = .pure := hk
    cases hf : findN f l with
    | none => rw [hf] at hk; cases hk
    | some x =>
      rw [hf] at hk
      have ho := findN_ok ha hf
      cases x with
      | pure c es mk n => exact ⟨c, es, mk, by show baseT l f = _; rw [baseT, hf]; rfl, fun args v l' h => by
          have h : (match findN f l with | some (.pure _ _ _ n) => n args | _ => none) = some (v, l') := h
          rw [hf] at h
          exact ho.2 args v l' h⟩
      | scal => cases hk
      | gen => cases hk
  gen f hk := by
    have hk : (match findN f l with | some (.scal ..) => Knd.scal | some (.pure ..) => .pure | some (.gen ..) => .gen | none => .no) = .gen := hk
    cases hf : findN f l with
    | none => rw [hf] at hk; cases hk
    | some x =>
      rw [hf] at hk
      have ho := findN_ok ha hf
      cases x with
      | gen m F n => exact ⟨m, F, by show baseT l f = _; rw [baseT, hf]; rfl, ho.2.1, fun args t nx v t' nx' h => by
          have h : (match findN f l with | some (.gen _ _ n) => n args t nx | _ => none) = some (v, t', nx') := h
          rw [hf] at h
          exact ho.2.2 args t nx v t' nx' h⟩
      | scal => cases hk
      | pure => cases hk
  no f hk modes F := by
    have hk : (match findN f l with | some (.scal ..) => Knd.scal | some (.pure ..) => .pure | some (.gen ..) => .gen | none => .no) = .no := hk
    cases hf : findN f l with
    | none => show baseT l f ≠ _; rw [baseT, hf]; intro h; cases h
    | some x => rw [hf] at hk; cases x <;> cases hk
theorem baseT_ok {P : Program} {l : List (Nat × Nv)} (ha : AllNv P l) (ty : TypeId → Option TyD) (eqk : TypeId → Option (List Nat)) : ConOk P ⟨ty, eqk, baseT l⟩ := fun f k h => by
  have h : (findN f l).map Nv.con = some k := h
  cases hf : findN f l with
  | none => rw [hf] at h; cases h
  | some x =>
    rw [hf] at h; cases h
    have ho := findN_ok ha hf
    cases x with
    | scal => exact ho.1
    | pure => exact ho.1
    | gen => exact ho.1

/-! ### What there is -/
noncomputable def clN (w : Nat) : Nv := .pure (fun us => ∃ x, (clA (Raw w)).dec us = some x ∧ clP x) (fun us => selE ((clA (Raw w)).dec us) clE) (fun us gs => selM ((clA (Raw w)).dec us) clM gs) (natClone w)
noncomputable def natTab : List (Nat × Nv) := [
  (63, .scal cRep rRep natRep),
  (34, .scal (fun us => ∃ x, A_pack_Put.dec us = some x ∧ p_pack_Put x) (fun us => selR (A_pack_Put.dec us) r_pack_Put) natPut),
  (251, .pure (fun us => ∃ x, A_pack_Take.dec us = some x ∧ p_pack_Take x) (fun _ => []) (fun us _ => selR (A_pack_Take.dec us) r_pack_Take) natTake),
  (171, .gen m_slices_Sort___int_int_ F_slices_Sort___int_int_ natSort),
  (172, .gen m_slices_Compact___int_int_ F_slices_Compact___int_int_ natComp),
  (310, .gen m_slices_Grow___api_Run_api_Run_ F_slices_Grow___api_Run_api_Run_ natGrow),
  (45, clN 2),
  (62, .scal (fun us => ∃ x, A_sum_Of.dec us = some x ∧ p_sum_Of x) (fun us => selR (A_sum_Of.dec us) r_sum_Of) natSum),
  (206, .scal (fun us => ∃ x, A_dev_Read.dec us = some x ∧ p_dev_Read x) (fun us => selR (A_dev_Read.dec us) r_dev_Read) natRead),
  (47, clN 5),
  (46, clN 5),
  (43, clN 1),
  (44, clN 2),
  (327, .scal cIdB rIdB natIdB),
  (119, clN 1),
  (330, .scal cOne rCnt natCnt),
  (317, .pure (fun us => ∃ x, A_slices_Clip___api_Ptr_api_Ptr_.dec us = some x ∧ p_slices_Clip___api_Ptr_api_Ptr_ x) (fun _ => []) (fun us _ => selR (A_slices_Clip___api_Ptr_api_Ptr_.dec us) r_slices_Clip___api_Ptr_api_Ptr_) natClip),
  (331, .scal cOne rIdx natIdx),
  (191, .scal cCmp rCmp natCmp),
  (149, .gen [true, true, true] delF natDel)]
theorem natTab_ok : AllNv Proofs.Tryz.prog natTab :=
  ⟨⟨ok_Repeat, natRep_ok⟩, ⟨scal_sel ▸ ok_pack_Put, natPut_ok⟩, ⟨con_sel ▸ ok_pack_Take, fun args v l h us hr => by obtain ⟨h1, rfl, h3⟩ := natTake_ok args v l h us hr; exact ⟨h1, rfl, fun _ _ => h3 _⟩⟩,
   ⟨ok_slices_Sort___int_int_, rfl, natSort_ok⟩, ⟨ok_slices_Compact___int_int_, rfl, natComp_ok⟩, ⟨ok_slices_Grow___api_Run_api_Run_, rfl, natGrow_ok⟩,
   ⟨ok_slices_Clone___api_Run_api_Run_, natClone_ok 2⟩, ⟨scal_sel ▸ ok_sum_Of, natSum_ok⟩, ⟨scal_sel ▸ ok_dev_Read, natRead_ok⟩, ⟨ok_slices_Clone_api_Set_api_Node_, natClone_ok 5⟩, ⟨ok_slices_Clone___api_Dset_api_Dset_, natClone_ok 5⟩, ⟨ok_slices_Clone___string_string_, natClone_ok 1⟩, ⟨ok_slices_Clone___api_Put_api_Put_, natClone_ok 2⟩,
   ⟨ok_IndexByte, natIdB_ok⟩, ⟨ok_slices_Clone___int_int_, natClone_ok 1⟩, ⟨ok_Count, natCnt_ok⟩,
   ⟨con_sel ▸ ok_slices_Clip___api_Ptr_api_Ptr_, fun args v l h us hr => by obtain ⟨h1, rfl, h3⟩ := natClip_ok args v l h us hr; exact ⟨h1, rfl, fun _ _ => h3 _⟩⟩,
   ⟨ok_Index, natIdx_ok⟩, ⟨ok_Compare, natCmp_ok⟩, ⟨del_ok, rfl, natDel_ok⟩, trivial⟩
end Go.Top
