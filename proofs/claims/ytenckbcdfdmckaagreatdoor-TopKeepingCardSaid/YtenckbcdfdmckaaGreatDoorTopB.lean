/-
  The concrete machine: calls, one operation.
-/
import Derived.Test.YtenckbcdfdmckaaGreatDoorTopA
set_option linter.unusedSimpArgs false
set_option linter.unusedVariables false
namespace Go.Top
open Go Go.Eng
universe u
variable {α : Type u} {β : Type u} {C : Ctx}

inductive Knd where
  | no
  | scal
  | pure
  | gen

/-- What called functions come to. -/
structure Orc where
  kind : Nat → Knd
  scal : Nat → List CV → Option CV
  pure : Nat → List CV → Option (CV × List Ent)
  gen : Nat → List CV → St → Nat → Option (CV × St × Nat)

/-- Rows alone, their tokens numbered. -/
def REs : List Ent → List Entry → Prop
  | [], es => es = []
  | e :: r, es => ∃ e' t, es = e' :: t ∧ (∀ ρ, RE ρ e e') ∧ REs r t

structure OrcOk (C : Ctx) (O : Orc) : Prop where
  scal : ∀ f, O.kind f = .scal → ∃ c r, C.con f = some (.scal c r) ∧ ∀ args v, O.scal f args = some v → ∀ us, RL nor args us → c us ∧ R nor v (r us)
  pure : ∀ f, O.kind f = .pure → ∃ c es mk, C.con f = some (.pure c es mk) ∧ ∀ args v l, O.pure f args = some (v, l) → ∀ us, RL nor args us → c us ∧ REs l (es us) ∧ ∀ gs : List Nat, gs.length = l.length → R (fun k => gs[k]?) v (mk us gs)
  gen : ∀ f, O.kind f = .gen → ∃ modes F, C.con f = some (.gen modes F) ∧ modes.all id = true ∧ ∀ args t nx v t' nx', O.gen f args t nx = some (v, t', nx') → args.length = modes.length ∧
    ∀ ρ s us Q, SimS ρ t nx s → RL ρ args us → (∀ ρ' u s', Ext ρ ρ' → R ρ' v u → SimS ρ' t' nx' s' → Q u s') → F us s Q
  no : ∀ f, O.kind f = .no → ∀ modes F, C.con f ≠ some (.gen modes F)

theorem OrcOk.notGen {O : Orc} (h : OrcOk C O) {f : Nat} (hk : O.kind f ≠ .gen) : ∀ modes F, C.con f ≠ some (.gen modes F) := by
  intro modes F e
  cases hf : O.kind f with
  | no => exact h.no f hf modes F e
  | scal => obtain ⟨_, _, h1, _⟩ := h.scal f hf; rw [h1] at e; cases e
  | pure => obtain ⟨_, _, _, h1, _⟩ := h.pure f hf; rw [h1] at e; cases e
  | gen => exact hk hf

/-! ### Results with new tokens -/
noncomputable def shift0 (d : Nat) (v : CV) (k : CV → Option β) : Option β := match v with
  | .tok g n off len => frcN (g + d) fun g => k (.tok g n off len)
  | .int a n => k (.int a n)
  | .bool b => k (.bool b)
  | .str l v => k (.str l v)
  | .t x => k (.t x)
  | .imm c => k (.imm c)
  | _ => none
noncomputable def shiftL0 (d : Nat) (vs : List CV) : (List CV → Option β) → Option β := List.rec (fun k => k []) (fun v _ ih k => shift0 d v fun v => ih fun t => k (v :: t)) vs
noncomputable def shift1 (d : Nat) (v : CV) (k : CV → Option β) : Option β := match v with
  | .agg cs => shiftL0 d cs fun cs => k (.agg cs)
  | v => shift0 d v k
noncomputable def shiftL1 (d : Nat) (vs : List CV) : (List CV → Option β) → Option β := List.rec (fun k => k []) (fun v _ ih k => shift1 d v fun v => ih fun t => k (v :: t)) vs
noncomputable def shift2 (d : Nat) (v : CV) (k : CV → Option β) : Option β := match v with
  | .tup vs => shiftL1 d vs fun vs => k (.tup vs)
  | v => shift1 d v k

/-- Tokens by their numbers, and by numbers beyond d. -/
def Shf (d : Nat) (η ρ : Ren) : Prop := ∀ k g, η k = some g → ρ (k + d) = some g

theorem shift0_some {d : Nat} {v : CV} {k : CV → Option β} {r : β} (h : shift0 d v k = some r) : ∃ w, k w = some r ∧ ∀ η ρ u, Shf d η ρ → R η v u → R ρ w u := by
  unfold shift0 at h
  split at h
  · rw [frcN_eq] at h; exact ⟨_, h, fun η ρ u hs hu => by obtain ⟨g', e, rfl⟩ := hu; exact ⟨g', hs _ _ e, rfl⟩⟩
  · exact ⟨_, h, fun η ρ u hs hu => hu⟩
  · exact ⟨_, h, fun η ρ u hs hu => hu⟩
  · exact ⟨_, h, fun η ρ u hs hu => hu⟩
  · exact ⟨_, h, fun η ρ u hs hu => hu⟩
  · exact ⟨_, h, fun η ρ u hs hu => hu⟩
  · cases h
theorem shiftL0_some {d : Nat} : ∀ {vs : List CV} {k : List CV → Option β} {r : β}, shiftL0 d vs k = some r → ∃ ws, k ws = some r ∧ ∀ η ρ us, Shf d η ρ → RL η vs us → RL ρ ws us
  | [], k, r, h => ⟨[], h, fun η ρ us _ hu => hu⟩
  | v :: vs, k, r, h => by
    have h' : shift0 d v (fun v => shiftL0 d vs fun t => k (v :: t)) = some r := h
    obtain ⟨w, h1, hw⟩ := shift0_some h'
    obtain ⟨ws, h2, hws⟩ := shiftL0_some h1
    exact ⟨_, h2, fun η ρ us hs hu => by obtain ⟨u, t, rfl, a, b⟩ := hu; exact ⟨u, t, rfl, hw η ρ u hs a, hws η ρ t hs b⟩⟩
theorem shift1_some {d : Nat} {v : CV} {k : CV → Option β} {r : β} (h : shift1 d v k = some r) : ∃ w, k w = some r ∧ ∀ η ρ u, Shf d η ρ → R η v u → R ρ w u := by
  unfold shift1 at h
  split at h
  · obtain ⟨ws, h2, hws⟩ := shiftL0_some h
    exact ⟨_, h2, fun η ρ u hs hu => by obtain ⟨us, ⟨a, b⟩, rfl⟩ := hu; exact ⟨us, ⟨hws η ρ us hs a, b⟩, rfl⟩⟩
  · exact shift0_some h
theorem shiftL1_some {d : Nat} : ∀ {vs : List CV} {k : List CV → Option β} {r : β}, shiftL1 d vs k = some r → ∃ ws, k ws = some r ∧ ∀ η ρ us, Shf d η ρ → RL η vs us → RL ρ ws us
  | [], k, r, h => ⟨[], h, fun η ρ us _ hu => hu⟩
  | v :: vs, k, r, h => by
    have h' : shift1 d v (fun v => shiftL1 d vs fun t => k (v :: t)) = some r := h
    obtain ⟨w, h1, hw⟩ := shift1_some h'
    obtain ⟨ws, h2, hws⟩ := shiftL1_some h1
    exact ⟨_, h2, fun η ρ us hs hu => by obtain ⟨u, t, rfl, a, b⟩ := hu; exact ⟨u, t, rfl, hw η ρ u hs a, hws η ρ t hs b⟩⟩
theorem shift2_some {d : Nat} {v : CV} {k : CV → Option β} {r : β} (h : shift2 d v k = some r) : ∃ w, k w = some r ∧ ∀ η ρ u, Shf d η ρ → R η v u → R ρ w u := by
  unfold shift2 at h
  split at h
  · obtain ⟨ws, h2, hws⟩ := shiftL1_some h
    exact ⟨_, h2, fun η ρ u hs hu => by obtain ⟨us, a, rfl⟩ := hu; exact ⟨us, hws η ρ us hs a, rfl⟩⟩
  · exact shift1_some h

noncomputable def addsK (l : List Ent) : St → Nat → (St → Nat → α) → α := List.rec (fun t nx k => k t nx) (fun e _ ih t nx k => frcN (nx + 1) fun n => ih ((nx, e) :: t) n k) l
theorem adds_sim : ∀ {l : List Ent} {es : List Entry} {gs : List Nat} {ρ : Ren} {t : St} {nx : Nat} {s : Store} {k : St → Nat → α}, SimS ρ t nx s → REs l es → Fresh s gs es →
    ∃ t' nx' ρ', addsK l t nx k = k t' nx' ∧ Ext ρ ρ' ∧ SimS ρ' t' nx' (s.adds gs es) ∧ gs.length = l.length ∧ ∀ i g, gs[i]? = some g → ρ' (i + nx) = some g
  | [], es, gs, ρ, t, nx, s, k, hs, he, hf => by
    cases he
    cases gs with
    | nil => exact ⟨t, nx, ρ, rfl, .refl _, hs, rfl, fun i g h => by simp at h⟩
    | cons _ _ => exact hf.elim
  | e :: l, es, gs, ρ, t, nx, s, k, hs, he, hf => by
    obtain ⟨e', es', rfl, h1, h2⟩ := he
    cases gs with
    | nil => exact hf.elim
    | cons g gs =>
      obtain ⟨f1, f2⟩ := hf
      have hn := hs.new f1 (h1 (ρ.new nx g))
      obtain ⟨t', nx', ρ', a1, a2, a3, a4, a5⟩ := adds_sim (k := k) hn h2 f2
      refine ⟨t', nx', ρ', ?_, (hs.ext_new g).trans a2, a3, by simp [a4], fun i q hi => ?_⟩
      · show frcN (nx + 1) (fun n => addsK l ((nx, e) :: t) n k) = _
        rw [frcN_eq]; exact a1
      · cases i with
        | zero =>
          simp at hi; subst hi
          exact a2 _ _ (by simp [Ren.new])
        | succ i =>
          have := a5 i q (by simpa using hi)
          rwa [show i + 1 + nx = i + (nx + 1) from by omega]
theorem addsK_ex : ∀ (l : List Ent) (t : St) (nx : Nat), ∃ t' nx', ∀ k : St → Nat → α, addsK l t nx k = k t' nx'
  | [], t, nx => ⟨t, nx, fun _ => rfl⟩
  | e :: l, t, nx => by
    obtain ⟨t', nx', h⟩ := addsK_ex l ((nx, e) :: t) (nx + 1)
    refine ⟨t', nx', fun k => ?_⟩
    show frcN (nx + 1) (fun n => addsK l ((nx, e) :: t) n k) = _
    rw [frcN_eq]; exact h k

/-! ### Calls -/
noncomputable def scalK (O : Orc) (f : Nat) (args : List CV) (t : St) (K : CV → Option β) : Option β :=
  borrowsK t args fun ws _ => Option.rec none (fun v => K v) (O.scal f ws)
noncomputable def pureK (O : Orc) (f : Nat) (args : List CV) (t : St) (nx : Nat) (K : CV → St → Nat → Option β) : Option β :=
  borrowsK t args fun ws ros => Option.rec none (fun p => Prod.rec (fun v l => marksK ros t fun t => addsK l t nx fun t n => shift2 nx v fun v => K v t n) p) (O.pure f ws)
theorem scalK_some {O : Orc} (hO : OrcOk C O) {f : Nat} (hk : O.kind f = .scal) {args : List CV} {t : St} {K : CV → Option β} {r : β} (h : scalK O f args t K = some r) :
    ∃ v, K v = some r ∧ ∀ ρ nx s us, SimS ρ t nx s → RL ρ args us → VOk (callB C s f us) ρ v := by
  obtain ⟨ws, ros, h1, h2⟩ := borrowsK_some h
  cases hv : O.scal f ws with
  | none => rw [hv] at h1; cases h1
  | some v =>
    rw [hv] at h1
    refine ⟨v, h1, fun ρ nx s us hs hu => ?_⟩
    obtain ⟨c, rr, e1, e2⟩ := hO.scal f hk
    obtain ⟨ys, ros', e3, e4, _⟩ := h2 ρ nx s us hs hu
    obtain ⟨e5, e6⟩ := e2 ws v hv ys e4
    unfold callB
    rw [e1, e3]
    exact .val e5 (e6.ext fun _ _ h => by cases h)
theorem pureK_some {O : Orc} (hO : OrcOk C O) {f : Nat} (hk : O.kind f = .pure) {args : List CV} {t : St} {nx : Nat} {K : CV → St → Nat → Option β} {r : β} (h : pureK O f args t nx K = some r) :
    ∃ v t' n', K v t' n' = some r ∧ ∀ ρ s us, SimS ρ t nx s → RL ρ args us → EOk (callB C s f us) ρ s v t' n' := by
  obtain ⟨ws, ros, h1, h2⟩ := borrowsK_some h
  cases hv : O.pure f ws with
  | none => rw [hv] at h1; cases h1
  | some p =>
    obtain ⟨v, l⟩ := p
    rw [hv] at h1
    have h1 : marksK ros t (fun t => addsK l t nx fun t n => shift2 nx v fun v => K v t n) = some r := h1
    rw [marksK_eq] at h1
    obtain ⟨t', n', ha⟩ := addsK_ex (α := Option β) l (marks t ros) nx
    rw [ha] at h1
    obtain ⟨w, h3, h4⟩ := shift2_some h1
    refine ⟨w, t', n', h3, fun ρ s us hs hu => ?_⟩
    obtain ⟨c, es, mk, e1, e2⟩ := hO.pure f hk
    obtain ⟨ys, ros', e3, e4, e5⟩ := h2 ρ nx s us hs hu
    obtain ⟨e6, e7, e8⟩ := e2 ws v l hv ys e4
    unfold callB
    rw [e1, e3]
    refine ⟨e6, fun gs hf => ?_⟩
    obtain ⟨t2, n2, ρ', a1, a2, a3, a4, a5⟩ := adds_sim (k := fun t n => some (t, n)) (hs.marks e5) e7 hf
    obtain ⟨t3, n3, hb⟩ := addsK_ex (α := Option (St × Nat)) l (marks t ros) nx
    have : t' = t2 ∧ n' = n2 := by
      have h5 : ∀ (l : List Ent) (t : St) (nx : Nat) (t' : St) (n' : Nat) (t2 : St) (n2 : Nat), (∀ k : St → Nat → Option β, addsK l t nx k = k t' n') → addsK l t nx (fun t n => some (t, n)) = some (t2, n2) → t' = t2 ∧ n' = n2 := by
        intro l
        induction l with
        | nil =>
          intro t nx t' n' t2 n2 hk h2
          cases h2
          have q1 := hk
          by_cases hne : t' = t ∧ n' = nx
          · exact hne
          · classical
            exfalso
            have := hk fun a b => if a = t ∧ b = nx then some r else none
            have h6 : (if t = t ∧ nx = nx then some r else none) = (if t' = t ∧ n' = nx then some r else none) := this
            rw [if_pos ⟨rfl, rfl⟩, if_neg hne] at h6
            cases h6
        | cons e l ih =>
          intro t nx t' n' t2 n2 hk h2
          have h2' : addsK l ((nx, e) :: t) (nx + 1) (fun t n => some (t, n)) = some (t2, n2) := by
            have : frcN (nx + 1) (fun n => addsK l ((nx, e) :: t) n (fun t n => some (t, n))) = some (t2, n2) := h2
            rwa [frcN_eq] at this
          refine ih ((nx, e) :: t) (nx + 1) t' n' t2 n2 (fun k => ?_) h2'
          have : frcN (nx + 1) (fun n => addsK l ((nx, e) :: t) n k) = k t' n' := hk k
          rwa [frcN_eq] at this
      exact h5 l _ _ t' n' t2 n2 ha a1
    obtain ⟨rfl, rfl⟩ := this
    exact ⟨ρ', a2, h4 _ ρ' _ (fun k g hk => a5 k g hk) (e8 gs a4), a3⟩

/-! ### One operation -/
noncomputable def biV (C : Ctx) (c : Call) (r : Rt) (K : CV → Option β) : Builtin → Option β
  | .len => match c.argTypes.toList, c.args.toList with
    | T :: _, [x] => evK x r fun x => lenS (C.ty T) x K
    | _, _ => none
  | .min => match c.args.toList with
    | [x, y] => evK x r fun x => evK y r fun y => minK x y K
    | _ => none
  | .max => match c.args.toList with
    | [x, y] => evK x r fun x => evK y r fun y => maxK x y K
    | _ => none
  | _ => none
theorem biV_some {c : Call} {b : Builtin} (hb : c.callee = .builtin b) {r : Rt} {t : St} {nx : Nat} {K : CV → Option β} {q : β} (h : biV C c r K b = some q) :
    ∃ v, K v = some q ∧ ∀ ρ σ, Sim ρ r t nx σ → VOk (opB C σ.ev σ.st (.call c)) ρ v := by
  obtain ⟨callee, args, argTypes⟩ := c
  subst hb
  cases b <;> simp only [biV] at h <;> first
    | (cases h; done)
    | skip
  · split at h
    · next T _ x h1 h2 =>
      rw [evK_eq] at h
      obtain ⟨v, h3, h4⟩ := lenS_some h
      refine ⟨v, h3, fun ρ σ hS => ?_⟩
      simp only [opB, h1, h2]
      exact h4 ρ _ (hS.ev x)
    · cases h
  · split at h
    · next x y h2 =>
      rw [evK_eq, evK_eq] at h
      obtain ⟨v, h3, h4⟩ := maxK_some h
      refine ⟨v, h3, fun ρ σ hS => ?_⟩
      simp only [opB, h2]
      exact h4 ρ _ _ (hS.ev x) (hS.ev y)
    · cases h
  · split at h
    · next x y h2 =>
      rw [evK_eq, evK_eq] at h
      obtain ⟨v, h3, h4⟩ := minK_some h
      refine ⟨v, h3, fun ρ σ hS => ?_⟩
      simp only [opB, h2]
      exact h4 ρ _ _ (hS.ev x) (hS.ev y)
    · cases h

noncomputable def mkfK (fn : Fn) (first : List Operand) (caps : Array Operand) (r : Rt) (K : CV → Option β) : Option β := match fn, first with
  | .func f, [] => evLK caps.toList r fun cs => allOneX cs (K (.fn f cs))
  | _, _ => none
/-- A call by its callee's value. -/
noncomputable def scalOp (O : Orc) (h : CV) (args : List CV) (t : St) (K : CV → Option β) : Option β := match h with
  | .fn f caps => appK args caps fun as => (match O.kind f with
    | .scal => scalK O f as t K
    | _ => none)
  | _ => none
theorem scalOp_some {O : Orc} (hO : OrcOk C O) {h : CV} {args : List CV} {t : St} {K : CV → Option β} {q : β} (e : scalOp O h args t K = some q) :
    ∃ v, K v = some q ∧ ∀ ρ nx s u us, SimS ρ t nx s → R ρ h u → RL ρ args us → VOk (calleeB C s u us) ρ v := by
  unfold scalOp at e
  split at e
  · next f caps =>
    rw [appK_eq] at e
    cases hk : O.kind f with
    | scal =>
      rw [hk] at e
      obtain ⟨v, h1, h2⟩ := scalK_some hO hk e
      refine ⟨v, h1, fun ρ nx s u us hs hu hus => ?_⟩
      obtain ⟨cs, ⟨a, _⟩, rfl⟩ := hu
      exact h2 ρ nx s _ hs (hus.append a)
    | _ => rw [hk] at e; cases e
  · cases e

noncomputable def opV (C : Ctx) (O : Orc) (o : Op) (r : Rt) (t : St) (K : CV → Option β) : Option β := match o with
  | .move x => evK x r K
  | .assign x => evK x r K
  | .pick c a b => evK c r fun c => evK a r fun a => evK b r fun b => pickK c a b K
  | .build T ps => buildK C T ps r K
  | .load T a => evK a r fun a => loadK C T a t K
  | .nilCheck x => evK x r fun x => nilcK x K
  | .binOp op T x y _ => evK x r fun x => evK y r fun y => binK C op T x y K
  | .unOp op _ x => evK x r fun x => unK op x K
  | .makeFunc fn first caps => mkfK fn first.toList caps r K
  | .slice T x lo hi mx => evK x r fun x => sliceK C T x lo hi mx r K
  | .fieldAddr T x f => evK x r fun x => fadK (fldI C T f) x K
  | .field T x f => evK x r fun x => fieldK (fldI C T f) x K
  | .indexAddr T x i => evK x r fun x => evK i r fun i => idxK C T x i K
  | .index T x i => evK x r fun x => evK i r fun i => indexK C T x i K
  | .extract x i => evK x r fun x => extK x i K
  | .call c => match c.callee with
    | .value h => evK h r fun h => evLK c.args.toList r fun as => scalOp O h as t K
    | .builtin b => biV C c r K b
    | _ => none
  | _ => none
theorem opV_some {O : Orc} (hO : OrcOk C O) {o : Op} {r : Rt} {t : St} {nx : Nat} {K : CV → Option β} {q : β} (h : opV C O o r t K = some q) :
    ∃ v, K v = some q ∧ ∀ ρ σ, Sim ρ r t nx σ → VOk (opB C σ.ev σ.st o) ρ v := by
  unfold opV at h
  split at h
  · rw [evK_eq] at h; exact ⟨_, h, fun ρ σ hS => .val trivial (hS.ev _)⟩
  · rw [evK_eq] at h; exact ⟨_, h, fun ρ σ hS => .val trivial (hS.ev _)⟩
  · rw [evK_eq, evK_eq, evK_eq] at h
    obtain ⟨v, h1, h2⟩ := pickK_some h
    exact ⟨v, h1, fun ρ σ hS => h2 ρ _ _ _ (hS.ev _) (hS.ev _) (hS.ev _)⟩
  · obtain ⟨v, h1, h2⟩ := buildK_some h
    exact ⟨v, h1, fun ρ σ hS => h2 ρ t nx σ hS⟩
  · rw [evK_eq] at h
    obtain ⟨v, h1, h2⟩ := loadK_some h
    exact ⟨v, h1, fun ρ σ hS => h2 ρ nx _ _ hS.st (hS.ev _)⟩
  · rw [evK_eq] at h
    obtain ⟨v, h1, h2⟩ := nilcK_some h
    exact ⟨v, h1, fun ρ σ hS => h2 ρ _ (hS.ev _)⟩
  · rw [evK_eq, evK_eq] at h
    obtain ⟨v, h1, h2⟩ := binK_some h
    exact ⟨v, h1, fun ρ σ hS => h2 ρ _ _ (hS.ev _) (hS.ev _)⟩
  · rw [evK_eq] at h
    obtain ⟨v, h1, h2⟩ := unK_some h
    exact ⟨v, h1, fun ρ σ hS => h2 ρ _ (hS.ev _)⟩
  · next fn first caps =>
    unfold mkfK at h
    split at h
    · next f h0 =>
      rw [evLK_eq] at h
      obtain ⟨h1, h2⟩ := allOneX_some h
      refine ⟨_, h1, fun ρ σ hS => ?_⟩
      simp only [opB, h0]
      exact .val (h2 ρ _ (hS.evL _)) ⟨_, ⟨hS.evL _, h2 ρ _ (hS.evL _)⟩, rfl⟩
    · cases h
  · rw [evK_eq] at h
    obtain ⟨v, h1, h2⟩ := sliceK_some h
    exact ⟨v, h1, fun ρ σ hS => h2 ρ t nx σ _ hS (hS.ev _)⟩
  · rw [evK_eq] at h
    obtain ⟨v, h1, h2⟩ := fadK_some h
    exact ⟨v, h1, fun ρ σ hS => h2 ρ _ (hS.ev _)⟩
  · rw [evK_eq] at h
    obtain ⟨v, h1, h2⟩ := fieldK_some h
    exact ⟨v, h1, fun ρ σ hS => h2 ρ _ (hS.ev _)⟩
  · rw [evK_eq, evK_eq] at h
    obtain ⟨v, h1, h2⟩ := idxK_some h
    exact ⟨v, h1, fun ρ σ hS => h2 ρ _ _ (hS.ev _) (hS.ev _)⟩
  · rw [evK_eq, evK_eq] at h
    obtain ⟨v, h1, h2⟩ := indexK_some h
    exact ⟨v, h1, fun ρ σ hS => h2 ρ _ _ (hS.ev _) (hS.ev _)⟩
  · rw [evK_eq] at h
    obtain ⟨v, h1, h2⟩ := extK_some h
    exact ⟨v, h1, fun ρ σ hS => h2 ρ _ (hS.ev _)⟩
  · next c =>
    split at h
    · next hh hc =>
      rw [evK_eq, evLK_eq] at h
      obtain ⟨v, h1, h2⟩ := scalOp_some hO h
      refine ⟨v, h1, fun ρ σ hS => ?_⟩
      simp only [opB, hc]
      exact h2 ρ nx _ _ _ hS.st (hS.ev _) (hS.evL _)
    · next b hb => exact biV_some hb h
    · cases h
  · cases h

/-- The rest: what makes something new. -/
noncomputable def callOp (O : Orc) (h : CV) (args : List CV) (t : St) (nx : Nat) (K : CV → St → Nat → Option β) : Option β := match h with
  | .fn f caps => appK args caps fun as => (match O.kind f with
    | .scal => scalK O f as t fun v => K v t nx
    | .pure => pureK O f as t nx K
    | _ => none)
  | _ => none
theorem callOp_some {O : Orc} (hO : OrcOk C O) {h : CV} {args : List CV} {t : St} {nx : Nat} {K : CV → St → Nat → Option β} {q : β} (e : callOp O h args t nx K = some q) :
    ∃ v t' n', K v t' n' = some q ∧ ∀ ρ s u us, SimS ρ t nx s → R ρ h u → RL ρ args us → EOk (calleeB C s u us) ρ s v t' n' := by
  unfold callOp at e
  split at e
  · next f caps =>
    rw [appK_eq] at e
    cases hk : O.kind f with
    | scal =>
      rw [hk] at e
      obtain ⟨v, h1, h2⟩ := scalK_some hO hk e
      refine ⟨v, t, nx, h1, fun ρ s u us hs hu hus => ?_⟩
      obtain ⟨cs, ⟨a, _⟩, rfl⟩ := hu
      exact (h2 ρ nx s _ hs (hus.append a)).eok hs
    | pure =>
      rw [hk] at e
      obtain ⟨v, t', n', h1, h2⟩ := pureK_some hO hk e
      refine ⟨v, t', n', h1, fun ρ s u us hs hu hus => ?_⟩
      obtain ⟨cs, ⟨a, _⟩, rfl⟩ := hu
      exact h2 ρ s _ hs (hus.append a)
    | _ => rw [hk] at e; cases e
  · cases e
noncomputable def opK (C : Ctx) (O : Orc) (o : Op) (r : Rt) (t : St) (nx : Nat) (K : CV → St → Nat → Option β) : Option β := match o with
  | .alloc T => allocK (C.ty T) t nx K
  | .box _ x => evK x r fun x => boxK x t nx K
  | .buildSlice T n ps => bslK C T n ps r t nx K
  | .makeSlice T l c => evK l r fun l => evK c r fun c => mslK C T l c t nx K
  | .convert a b x => evK x r fun x => convK C a b x t nx K
  | .call c => match c.callee with
    | .value h => evK h r fun h => evLK c.args.toList r fun as => callOp O h as t nx K
    | .builtin b => biV C c r (fun v => K v t nx) b
    | _ => none
  | o => opV C O o r t fun v => K v t nx
theorem opK_some {O : Orc} (hO : OrcOk C O) {o : Op} {r : Rt} {t : St} {nx : Nat} {K : CV → St → Nat → Option β} {q : β} (h : opK C O o r t nx K = some q) :
    ∃ v t' n', K v t' n' = some q ∧ ∀ ρ σ, Sim ρ r t nx σ → EOk (opB C σ.ev σ.st o) ρ σ.st v t' n' := by
  unfold opK at h
  split at h
  · obtain ⟨v, t', n', h1, h2⟩ := allocK_some h
    exact ⟨v, t', n', h1, fun ρ σ hS => h2 ρ _ hS.st⟩
  · rw [evK_eq] at h
    obtain ⟨v, t', n', h1, h2⟩ := boxK_some h
    exact ⟨v, t', n', h1, fun ρ σ hS => h2 ρ _ _ hS.st (hS.ev _)⟩
  · obtain ⟨v, t', n', h1, h2⟩ := bslK_some h
    exact ⟨v, t', n', h1, fun ρ σ hS => h2 ρ σ hS⟩
  · rw [evK_eq, evK_eq] at h
    obtain ⟨v, t', n', h1, h2⟩ := mslK_some h
    exact ⟨v, t', n', h1, fun ρ σ hS => h2 ρ _ _ _ hS.st (hS.ev _) (hS.ev _)⟩
  · rw [evK_eq] at h
    obtain ⟨v, t', n', h1, h2⟩ := convK_some h
    exact ⟨v, t', n', h1, fun ρ σ hS => h2 ρ _ _ hS.st (hS.ev _)⟩
  · next c =>
    split at h
    · next hh hc =>
      rw [evK_eq, evLK_eq] at h
      obtain ⟨v, t', n', h1, h2⟩ := callOp_some hO h
      refine ⟨v, t', n', h1, fun ρ σ hS => ?_⟩
      simp only [opB, hc]
      exact h2 ρ _ _ _ hS.st (hS.ev _) (hS.evL _)
    · next b hb =>
      obtain ⟨v, h1, h2⟩ := biV_some (t := t) (nx := nx) hb h
      exact ⟨v, t, nx, h1, fun ρ σ hS => (h2 ρ σ hS).eok hS.st⟩
    · cases h
  · obtain ⟨v, h1, h2⟩ := opV_some (nx := nx) hO h
    exact ⟨v, t, nx, h1, fun ρ σ hS => (h2 ρ σ hS).eok hS.st⟩

end Go.Top

namespace Go.Top
open Go Go.Eng
universe u
variable {α : Type u} {β : Type u} {C : Ctx}

noncomputable def putK (d : Option Nat) (v : CV) (r : Rt) (k : Rt → Option β) : Option β := match d with
  | none => k r
  | some d => setK (pth d) v r k
theorem putK_some {d : Option Nat} {v : CV} {r : Rt} {k : Rt → Option β} {q : β} (h : putK d v r k = some q) :
    ∃ r', k r' = some q ∧ ∀ ρ t nx σ u, Sim ρ r t nx σ → R ρ v u → Sim ρ r' t nx (σ.put d u) := by
  unfold putK at h
  split at h
  · exact ⟨r, h, fun ρ t nx σ u hS _ => hS⟩
  · next d => obtain ⟨hd, h⟩ := setK_some h; exact ⟨_, h, fun ρ t nx σ u hS hu => hS.put hu d hd⟩

/-! ### Copying -/
noncomputable def copyX (C : Ctx) (T : Nat) (x y : CV) (t : St) (K : CV → St → Option β) : Option β := match slI C T with
  | some sz => rowsAtK sz y t fun rows c => match x with
    | .tok g n off len => lookK g (fun e => match e with
      | .row m cnt l false => bif Nat.beq m sz then (bif Nat.beq n m then (bif Nat.ble (off + len) cnt then frcN (min c len) fun kk => takeX kk rows fun part => repX part off l fun l => updK g (.row m cnt l false) t fun t => K (.int .i64 (.ofNat kk)) t else none) else none) else none
      | _ => none) t
    | _ => none
  | none => none
theorem copyX_some {T : Nat} {x y : CV} {t : St} {K : CV → St → Option β} {q : β} (h : copyX C T x y t K = some q) :
    ∃ n t', K (.int .i64 (Int.ofNat n)) t' = some q ∧ ∀ ρ nx s u w (Q : Store → Nat → Prop), SimS ρ t nx s → R ρ x u → R ρ y w → (∀ s', SimS ρ t' nx s' → Q s' n) → copyT C T u w Q s := by
  unfold copyX at h
  split at h
  · next sz hsz =>
    obtain ⟨d, e, de, t1, t2, t3, rfl⟩ := slI_some hsz
    obtain ⟨rows, c, h1, h2⟩ := rowsAtK_some h
    split at h1
    · next g n off len =>
      rw [lookK_eq] at h1
      cases hl : look g t with
      | none => rw [hl] at h1; cases h1
      | some e =>
        rw [hl] at h1
        simp only [Option.bind_some] at h1
        split at h1
        · next m cnt l =>
          rw [beq_if, beq_if] at h1
          split at h1
          · next f1 =>
            split at h1
            · next f2 =>
              subst f1 f2
              cases hb : Nat.ble (off + len) cnt with
              | false => rw [hb] at h1; cases h1
              | true =>
                rw [hb] at h1
                simp only [cond_true, frcN_eq] at h1
                obtain ⟨h3, h4⟩ := takeX_some h1
                obtain ⟨h5, h6⟩ := repX_some h4
                rw [updK_eq] at h6
                refine ⟨_, _, h6, fun ρ nx s u w Q hs hu hw hQ => ?_⟩
                obtain ⟨g', e0, rfl⟩ := hu
                obtain ⟨e', e1, e2, e3, rfl⟩ := hs.live hl e0
                obtain ⟨c1, rfl, c2, c3⟩ := h2 ρ nx s w hs hw
                unfold copyT
                simp only [t1, t2, t3, c2, e1]
                rw [ble_iff] at hb
                have hlen : (rows.take (min rows.length len)).length = min rows.length len := by rw [List.length_take]; omega
                refine ⟨c3, trivial, trivial, trivial, by rw [tvR_len]; omega, ?_⟩
                rw [tvR_len]
                refine hQ _ (hs.upd hl e0 ⟨?_, canR_app (canR_app (canR_take _ e3) (canR_take _ c1)) (canR_drop _ e3), ?_⟩)
                · simp only [List.length_append, List.length_take, List.length_drop, hlen] at h5 ⊢; omega
                · rw [tvR_app, tvR_app, tvR_take, tvR_take, tvR_drop, hlen]
                  congr 3
                  have : (tvR rows).take len = (tvR rows).take (min rows.length len) := by
                    by_cases hq : len ≤ rows.length
                    · rw [Nat.min_eq_right hq]
                    · rw [Nat.min_eq_left (by omega), List.take_of_length_le (by rw [tvR_len]; omega), List.take_of_length_le (by rw [tvR_len]; exact Nat.le_refl _)]
                  rw [this]
            · cases h1
          · cases h1
        · cases h1
    · cases h1
  · cases h

/-! ### Operations that write -/
noncomputable def genK (O : Orc) (f : Nat) (args : List CV) (t : St) (nx : Nat) (K : CV → St → Nat → Option β) : Option β :=
  Option.rec none (fun p => Prod.rec (fun v q => Prod.rec (fun t n => K v t n) q) p) (O.gen f args t nx)
theorem genK_some {O : Orc} {f : Nat} {args : List CV} {t : St} {nx : Nat} {K : CV → St → Nat → Option β} {q : β} (h : genK O f args t nx K = some q) : ∃ v t' n', O.gen f args t nx = some (v, t', n') ∧ K v t' n' = some q := by
  unfold genK at h
  cases hg : O.gen f args t nx with
  | none => rw [hg] at h; cases h
  | some p => rw [hg] at h; exact ⟨p.1, p.2.1, p.2.2, rfl, h⟩

noncomputable def appC (C : Ctx) (dst : Option Nat) (ts : List Nat) (xs : List Operand) (r' r : Rt) (t : St) (nx : Nat) (k : Rt → St → Nat → Option β) : Option β := match ts, xs with
  | [T, T'], [x, y] => bif Nat.beq T T' then evK x r' fun x => evK y r' fun y => appendK C T x y t nx fun v t nx => putK dst v r fun r => k r t nx else none
  | _, _ => none
noncomputable def copC (C : Ctx) (dst : Option Nat) (ts : List Nat) (xs : List Operand) (r' r : Rt) (t : St) (nx : Nat) (k : Rt → St → Nat → Option β) : Option β := match ts, xs with
  | [T, T'], [x, y] => bif Nat.beq T T' then evK x r' fun x => evK y r' fun y => copyX C T x y t fun v t => putK dst v r fun r => k r t nx else none
  | _, _ => none
noncomputable def genC (O : Orc) (f : Nat) (dst : Option Nat) (xs : List Operand) (r' r : Rt) (t : St) (nx : Nat) (k : Rt → St → Nat → Option β) : Option β :=
  evLK xs r' fun as => genK O f as t nx fun v t nx => putK dst v r fun r => k r t nx
noncomputable def stoC (C : Ctx) (T : Nat) (a v : Operand) (dst : Option Nat) (r' r : Rt) (t : St) (nx : Nat) (k : Rt → St → Nat → Option β) : Option β := match dst with
  | none => evK a r' fun a => evK v r' fun v => storeK C T a v t fun t => k r t nx
  | some _ => none
noncomputable def barC (C : Ctx) (O : Orc) (o : Op) (dst : Option Nat) (r' r : Rt) (t : St) (nx : Nat) (k : Rt → St → Nat → Option β) (els : Option β) : Option β := match o with
  | .store T a v => stoC C T a v dst r' r t nx k
  | .call c => match c.callee with
    | .builtin b => match b with
      | .append => appC C dst c.argTypes.toList c.args.toList r' r t nx k
      | .copy => copC C dst c.argTypes.toList c.args.toList r' r t nx k
      | _ => els
    | .value h => match h with
      | .func f => match O.kind f with
        | .gen => genC O f dst c.args.toList r' r t nx k
        | _ => els
      | _ => els
    | _ => els
  | _ => els

/-- What an operation that writes comes to. -/
def BOk (C : Ctx) (b : Bar) (dst : Option Nat) (r' r : Rt) (t : St) (nx : Nat) (r2 : Rt) (t2 : St) (n2 : Nat) : Prop :=
  ∀ ρ σ σ' (K : Eng.St → Prop), Sim ρ r t nx σ → Sim ρ r' t nx σ' → σ'.st = σ.st → (∀ ρ' σ2, Ext ρ ρ' → Sim ρ' r2 t2 n2 σ2 → K σ2) → barT C σ'.ev b dst K σ

theorem barC_some {O : Orc} (hO : OrcOk C O) {o : Op} {dst : Option Nat} {r' r : Rt} {t : St} {nx : Nat} {k : Rt → St → Nat → Option β} {els : Option β} {q : β} (h : barC C O o dst r' r t nx k els = some q) :
    (els = some q ∧ barOf C o = none) ∨ ∃ b r2 t2 n2, barOf C o = some b ∧ k r2 t2 n2 = some q ∧ BOk C b dst r' r t nx r2 t2 n2 := by
  unfold barC at h
  split at h
  · next T a v =>
    right
    unfold stoC at h
    split at h
    · rw [evK_eq, evK_eq] at h
      obtain ⟨t', h1, h2⟩ := storeK_some h
      refine ⟨.store T a v, _, _, _, rfl, h1, fun ρ σ σ' K hS hS' he hK => ?_⟩
      simp only [barT]
      refine ⟨trivial, h2 ρ nx _ _ _ _ (he ▸ hS'.st) (hS'.ev a) (hS'.ev v) fun s' hs' => hK ρ _ (.refl _) ⟨hS.regs, hs'⟩⟩
    · cases h
  · next c =>
    obtain ⟨callee, args, argTypes⟩ := c
    dsimp only at h
    split at h
    · next bb =>
      split at h
      · right
        unfold appC at h
        split at h
        · next T T' x y e1 e2 =>
          rw [beq_if] at h
          split at h
          · next e3 =>
            subst e3
            rw [evK_eq, evK_eq] at h
            obtain ⟨v', t', n', h1, h2⟩ := appendK_some h
            obtain ⟨r2, h3, h4⟩ := putK_some h1
            refine ⟨.append T x y, _, _, _, ?_, h3, fun ρ σ σ' K hS hS' he hK => ?_⟩
            · simp only [barOf, e1, e2, if_true]
            · simp only [barT]
              refine h2 ρ σ.st _ _ _ (he ▸ hS'.st) (hS'.ev x) (hS'.ev y) fun ρ' g s' n len hx hr hs' => hK ρ' _ hx (h4 ρ' _ _ _ _ (hS.ext hx hs') hr)
          · cases h
        · cases h
      · right
        unfold copC at h
        split at h
        · next T T' x y e1 e2 =>
          rw [beq_if] at h
          split at h
          · next e3 =>
            subst e3
            rw [evK_eq, evK_eq] at h
            obtain ⟨n, t', h1, h2⟩ := copyX_some h
            obtain ⟨r2, h3, h4⟩ := putK_some h1
            refine ⟨.copy T x y, _, _, _, ?_, h3, fun ρ σ σ' K hS hS' he hK => ?_⟩
            · simp only [barOf, e1, e2, if_true]
            · simp only [barT]
              refine h2 ρ nx σ.st _ _ _ (he ▸ hS'.st) (hS'.ev x) (hS'.ev y) fun s' hs' => hK ρ _ (.refl _) (h4 ρ _ _ _ _ (hS.ext (.refl _) hs') rfl)
          · cases h
        · cases h
      · next hb1 hb2 =>
        left
        refine ⟨h, ?_⟩
        cases bb <;> first | rfl | exact (hb1 rfl).elim | exact (hb2 rfl).elim
    · next hv0 =>
      split at h
      · next f =>
        cases hk : O.kind f with
        | gen =>
          rw [hk] at h
          right
          unfold genC at h
          rw [evLK_eq] at h
          obtain ⟨v, t', n', h1, h2⟩ := genK_some h
          obtain ⟨r2, h3, h4⟩ := putK_some h2
          obtain ⟨modes, F, e1, e2, e3⟩ := hO.gen f hk
          obtain ⟨e4, e5⟩ := e3 _ _ _ _ _ _ h1
          refine ⟨.gen f args.toList, _, _, _, ?_, h3, fun ρ σ σ' K hS hS' he hK => ?_⟩
          · simp only [barOf, e1]
          · simp only [barT, e1]
            unfold genT
            have hp : ∀ (ms : List Bool) (vs : List AV), ms.all id = true → vs.length = ms.length → σ.st.pass ms vs = some (vs, []) := by
              intro ms
              induction ms with
              | nil => intro vs _ hl; cases vs with
                | nil => rfl
                | cons => simp at hl
              | cons m ms ih =>
                intro vs ha hl
                cases vs with
                | nil => simp at hl
                | cons v vs =>
                  simp only [List.all_cons, id, Bool.and_eq_true] at ha
                  obtain ⟨rfl, ha⟩ := ha
                  simp only [Store.pass, if_true, ih vs ha (by simpa using hl), List.nil_append]
            rw [hp modes _ e2 (by simpa using e4)]
            refine e5 ρ σ.st _ _ (he ▸ hS'.st) (hS'.evL _) fun ρ' u s' hx hr hs' => hK ρ' _ hx (h4 ρ' _ _ _ _ (hS.ext hx hs') hr)
        | _ =>
          rw [hk] at h
          left
          refine ⟨h, ?_⟩
          have hn := hO.notGen (f := f) (by rw [hk]; intro e; cases e)
          have key : barOf C (.call ⟨.value (.func f), args, argTypes⟩) = none := by
            unfold barOf
            dsimp only
            cases hg : C.con f with
            | none => rfl
            | some kk => cases kk with
              | gen modes G => exact (hn modes G hg).elim
              | pure _ _ _ => rfl
              | scal _ _ => rfl
          exact key
      · next hf =>
        left
        refine ⟨h, ?_⟩
        cases hv0 <;> first | rfl | exact (hf _ rfl).elim
    · next hb hv =>
      left
      refine ⟨h, ?_⟩
      cases callee <;> first | rfl | exact (hb _ rfl).elim | exact (hv _ rfl).elim
  · next hs hc =>
    left
    refine ⟨h, ?_⟩
    cases o <;> first | rfl | exact (hs _ _ _ rfl).elim | exact (hc _ rfl).elim

/-! ### Guards -/
noncomputable def wantK (want : Bool) (v : CV) (k : Bool → Option β) : Option β := match v with
  | .bool b => k (bif want then b else !b)
  | .opt c (.bool b) => k (bif c then (bif want then b else !b) else false)
  | .opt false _ => k false
  | _ => none
theorem wantK_some {want : Bool} {v : CV} {k : Bool → Option β} {q : β} (h : wantK want v k = some q) : ∃ b, k b = some q ∧ ∀ ρ u, R ρ v u → u.wanted want = some b := by
  unfold wantK at h
  split at h
  · next b => exact ⟨_, h, fun ρ u hu => by cases hu; cases want <;> cases b <;> rfl⟩
  · next c b => exact ⟨_, h, fun ρ u hu => by obtain ⟨w, hw, rfl⟩ := hu; cases hw; cases c <;> cases want <;> cases b <;> rfl⟩
  · refine ⟨_, h, fun ρ u hu => ?_⟩
    obtain ⟨w, hw, rfl⟩ := hu
    unfold AV.wanted
    split
    · next e => cases e
    · next c b e => cases e; rfl
    · next c v _ e => cases e; rfl
    · next h1 h2 => exact (h2 _ _ rfl).elim
  · cases h

noncomputable def plainK (w : CV) (k : Option β) : Option β := match w with
  | .opt _ _ => none
  | _ => k
/-- The operands under a guard, as they are. -/
noncomputable def stripK (xs : List Operand) : Rt → (Rt → Option β) → Option β :=
  List.rec (fun r k => k r) (fun x _ ih r k => match x with
    | .tmp n => getK (pth n) r fun v => (match v with
      | .opt true w => plainK w (setK (pth n) w r fun r => ih r k)
      | .opt false _ => none
      | _ => ih r k)
    | _ => ih r k) xs
def NotOpt : AV → Prop
  | .opt _ _ => False
  | _ => True
theorem notOpt_strip {v : AV} (h : NotOpt v) : v.strip = v := by cases v <;> first | rfl | exact h.elim
theorem notOpt_okc {v : AV} (h : NotOpt v) : v.okc := by cases v <;> first | trivial | exact h.elim
theorem R_notOpt {ρ : Ren} {v : CV} {u : AV} (h : R ρ v u) (hv : ∀ b w, v ≠ .opt b w) : NotOpt u := by
  cases v <;> simp only [R] at h <;> first
    | (subst h; trivial)
    | (obtain ⟨_, rfl⟩ := h; trivial)
    | (obtain ⟨_, _, rfl⟩ := h; trivial)
    | exact (hv _ _ rfl).elim
theorem ofValue_notOpt (v : Value) : NotOpt (AV.ofValue v) := by
  have h1 : ∀ v, NotOpt (AV.ofCell v) := fun v => by unfold AV.ofCell; split <;> trivial
  unfold AV.ofValue
  split
  · split <;> trivial
  · split <;> trivial
  · exact h1 _
theorem stripK_some : ∀ {xs : List Operand} {r : Rt} {k : Rt → Option β} {q : β}, stripK xs r k = some q →
    ∃ r', k r' = some q ∧ ∀ ρ t nx σ, Sim ρ r t nx σ → okAll σ.ev xs ∧ ∃ σ', σ'.st = σ.st ∧ Sim ρ r' t nx σ' ∧ (∀ n, σ'.get n = σ.get n ∨ σ'.get n = (σ.get n).strip) ∧ ∀ x ∈ xs, σ'.ev x = (σ.ev x).strip ∧ NotOpt (σ'.ev x)
  | [], r, k, q, h => ⟨r, h, fun ρ t nx σ hS => ⟨trivial, σ, rfl, hS, fun n => .inl rfl, fun x hx => by cases hx⟩⟩
  | x :: xs, r, k, q, h => by
    have keep : ∀ (h' : stripK xs r k = some q) (hx : ∀ ρ t nx σ, Sim ρ r t nx σ → NotOpt (σ.ev x)), ∃ r', k r' = some q ∧ ∀ ρ t nx σ, Sim ρ r t nx σ → okAll σ.ev (x :: xs) ∧ ∃ σ', σ'.st = σ.st ∧ Sim ρ r' t nx σ' ∧ (∀ n, σ'.get n = σ.get n ∨ σ'.get n = (σ.get n).strip) ∧ ∀ y ∈ x :: xs, σ'.ev y = (σ.ev y).strip ∧ NotOpt (σ'.ev y) := by
      intro h' hx
      obtain ⟨r', h1, h2⟩ := stripK_some h'
      refine ⟨r', h1, fun ρ t nx σ hS => ?_⟩
      have hn := hx ρ t nx σ hS
      obtain ⟨a, σ', b, c, d, e⟩ := h2 ρ t nx σ hS
      refine ⟨⟨notOpt_okc hn, a⟩, σ', b, c, d, fun y hy => ?_⟩
      rcases List.mem_cons.1 hy with rfl | hy
      · have : σ'.ev y = σ.ev y := by
          cases y with
          | tmp n => rcases d n with h | h
                     · exact h
                     · exact h.trans (notOpt_strip hn)
          | _ => rfl
        rw [this, notOpt_strip hn]; exact ⟨rfl, hn⟩
      · exact e y hy
    cases x with
    | tmp n =>
      have h' : getK (pth n) r (fun v => (match v with
        | .opt true w => plainK w (setK (pth n) w r fun r => stripK xs r k)
        | .opt false _ => none
        | _ => stripK xs r k)) = some q := h
      rw [getK_eq] at h'
      split at h'
      · next w hv =>
        have hw : (∀ b w', w ≠ .opt b w') ∧ setK (pth n) w r (fun r => stripK xs r k) = some q := by
          unfold plainK at h'
          split at h'
          · cases h'
          · next hne => exact ⟨fun b w' e => hne b w' e, h'⟩
        obtain ⟨hne, h'⟩ := hw
        obtain ⟨hn5, h'⟩ := setK_some h'
        obtain ⟨r', h1, h2⟩ := stripK_some h'
        refine ⟨r', h1, fun ρ t nx σ hS => ?_⟩
        have hn := hS.regs n
        rw [hv] at hn
        obtain ⟨u, hu, hg⟩ := hn
        have hno := R_notOpt hu hne
        have hS1 := hS.put hu n hn5
        obtain ⟨a, σ', b, c, d, e⟩ := h2 ρ t nx _ hS1
        have hev : ∀ y, (σ.put (some n) u).ev y = σ.ev y ∨ (σ.put (some n) u).ev y = (σ.ev y).strip := fun y => by
          cases y with
          | tmp m =>
            by_cases hm : m = n
            · subst hm
              right
              show (if m = m then u else σ.get m) = (σ.get m).strip
              rw [if_pos rfl, hg]; rfl
            · left
              show (if m = n then u else σ.get m) = σ.get m
              rw [if_neg hm]
          | _ => exact .inl rfl
        have hgn : (σ.put (some n) u).get n = u := by show (if n = n then u else _) = u; rw [if_pos rfl]
        have hstr : ∀ m, ((σ.put (some n) u).get m).strip = (σ.get m).strip := fun m => by
          by_cases hm : m = n
          · subst hm; rw [hgn, hg, notOpt_strip hno]; rfl
          · show (if m = n then u else σ.get m).strip = _; rw [if_neg hm]
        have hstrE : ∀ y, ((σ.put (some n) u).ev y).strip = (σ.ev y).strip := fun y => by cases y <;> first | rfl | exact hstr _
        refine ⟨⟨by show (σ.get n).okc; rw [hg]; rfl, ?_⟩, σ', b, c, fun m => ?_, fun y hy => ?_⟩
        · -- what is asked of the others
          have hm : ∀ (ys : List Operand), okAll (σ.put (some n) u).ev ys → okAll σ.ev ys := by
            intro ys
            induction ys with
            | nil => intro h; exact h
            | cons y ys ih =>
              intro h
              refine ⟨?_, ih h.2⟩
              rcases hev y with e1 | e1
              · rw [← e1]; exact h.1
              · cases y with
                | tmp m =>
                  by_cases hm : m = n
                  · subst hm; show (σ.get m).okc; rw [hg]; rfl
                  · have e2 : (σ.put (some n) u).ev (.tmp m) = σ.ev (.tmp m) := by show (if m = n then u else σ.get m) = σ.get m; rw [if_neg hm]
                    rw [← e2]; exact h.1
                | const v => exact h.1
                | func f => exact h.1
                | global g => exact h.1
          exact hm xs a
        · rcases d m with e1 | e1
          · by_cases hm : m = n
            · subst hm; right; rw [e1, hgn, hg]; rfl
            · left; rw [e1]; show (if m = n then u else σ.get m) = _; rw [if_neg hm]
          · right; rw [e1, hstr]
        · rcases List.mem_cons.1 hy with rfl | hy
          · have : σ'.ev (.tmp n) = u := by
              rcases d n with e1 | e1
              · exact e1.trans hgn
              · exact e1.trans (by rw [hgn, notOpt_strip hno])
            rw [this]
            refine ⟨?_, hno⟩
            show u = (σ.get n).strip
            rw [hg]; rfl
          · obtain ⟨e1, e2⟩ := e y hy
            exact ⟨by rw [e1, hstrE], e2⟩
      · cases h'
      · next h1 h2 =>
        exact keep h' fun ρ t nx σ hS => R_notOpt (hS.regs n) fun b w e => by cases b with
          | true => exact h1 w e
          | false => exact h2 w e
    | const v => exact keep h fun ρ t nx σ hS => ofValue_notOpt v
    | func f => exact keep h fun ρ t nx σ hS => trivial
    | global g => exact keep h fun ρ t nx σ hS => trivial

end Go.Top

namespace Go.Top
open Go Go.Eng
universe u
variable {α : Type u} {β : Type u} {C : Ctx}

/-! ### Under a guard -/
noncomputable def convV (C : Ctx) (a b : Nat) (x : CV) (t : St) (K : CV → Option β) : Option β := match C.ty a, C.ty b with
  | some da, some db => match da.sh, db.sh with
    | .int _, .int k => match x with
      | .int _ n => frcI (wrapF k n) fun n => K (.int k n)
      | _ => none
    | .str, .str => match x with
      | .str l v => K (.str l v)
      | _ => none
    | _, _ => none
  | _, _ => none
theorem convV_some {a b : Nat} {x : CV} {t : St} {K : CV → Option β} {r : β} (h : convV C a b x t K = some r) :
    ∃ v, K v = some r ∧ ∀ ρ s u, R ρ x u → VOk (convB C s a b u) ρ v := by
  unfold convV at h
  split at h
  · next da db h1 h2 =>
    split at h
    · next k' k s1 s2 =>
      split at h
      · rw [frcI_eq, wrapF_eq] at h
        exact ⟨_, h, fun ρ s u hu => by cases hu; unfold convB; simp only [h1, h2, s1, s2]; exact .val trivial rfl⟩
      · cases h
    · next s1 s2 =>
      split at h
      · exact ⟨_, h, fun ρ s u hu => by obtain ⟨c, rfl⟩ := hu; unfold convB; simp only [h1, h2, s1, s2]; exact .val trivial ⟨c, rfl⟩⟩
      · cases h
    · cases h
  · cases h

theorem rowsOf_all {s : Store} (n : Nat) : ∀ {l : List (Nat × AV)} {k : Nat} {r}, rowsOf s n k l = some r → ∀ p ∈ l, (s.borrowAll p.2.cells).isSome = true
  | [], _, _, _, p, hp => by cases hp
  | (i, v) :: l, k, r, h, p, hp => by
    simp only [rowsOf] at h
    split at h
    · cases h1 : s.borrowAll v.cells with
      | none => rw [h1] at h; cases h
      | some q =>
        cases h2 : rowsOf s n (k + 1) l with
        | none => rw [h1, h2] at h; cases h
        | some q2 =>
          rcases List.mem_cons.1 hp with rfl | hp
          · rw [h1]; rfl
          · exact rowsOf_all n h2 p hp
    · cases h

noncomputable def opG (C : Ctx) (O : Orc) (o : Op) (r : Rt) (t : St) (K : CV → Option β) : Option β := match o with
  | .buildSlice T n ps => litK C T n ps r t K
  | .makeSlice T l c => evK l r fun l => evK c r fun c => mslX C T l c fun n rows _ => K (.t (.seq n rows))
  | .convert a b x => evK x r fun x => convV C a b x t K
  | o => opV C O o r t K
theorem opG_some {O : Orc} (hO : OrcOk C O) {o : Op} {r : Rt} {t : St} {nx : Nat} {K : CV → Option β} {q : β} (h : opG C O o r t K = some q) :
    ∃ v, K v = some q ∧ ∀ ρ σ, Sim ρ r t nx σ → VOk (opBg C σ.ev σ.st o) ρ v ∧ liveB σ.ev σ.st o := by
  unfold opG at h
  split at h
  · next T len ps =>
    unfold litK at h
    split at h
    · next n hn =>
      obtain ⟨d, e, de, t1, t2, t3, rfl⟩ := slI_some hn
      cases hp : Nat.ble 1 de.size with
      | false => rw [hp] at h; cases h
      | true =>
        rw [hp] at h
        rw [ble_iff] at hp
        simp only [cond_true] at h
        obtain ⟨rows, ros, h1, h2⟩ := rowsK_some h
        split at h1
        · cases hl : lenIs rows len with
          | false => rw [hl] at h1; cases h1
          | true =>
            cases hm : Nat.ble (len * de.size) 1000000 with
            | false => rw [hl, hm] at h1; cases h1
            | true =>
              rw [hl, hm] at h1
              rw [ble_iff] at hm
              simp only [cond_true] at h1
              have hlen := lenIs_iff hl
              rw [beq_if] at h1
              have : ∃ v, K v = some q ∧ ∀ ρ, CanR rows → R ρ v (.t (if len = 0 then .emp else .seq de.size (tvR rows))) := by
                split at h1
                · next e0 => exact ⟨_, h1, fun ρ _ => by rw [if_pos e0]; exact ⟨rfl, trivial, rfl⟩⟩
                · next e0 => exact ⟨_, h1, fun ρ c => by rw [if_neg e0]; exact ⟨rfl, c, rfl⟩⟩
              obtain ⟨v, h3, h4⟩ := this
              refine ⟨v, h3, fun ρ σ hS => ?_⟩
              obtain ⟨c, _, ros', e1, e2⟩ := h2 ρ nx σ hS
              cases e2
              refine ⟨?_, ?_⟩
              · simp only [opBg]
                unfold litB
                simp only [t1, t2, t3, e1]
                exact .val ⟨by rw [tvR_len]; exact hlen, hm, hp⟩ (h4 ρ c)
              · intro p hp
                have := rowsOf_all _ e1 (p.1, σ.ev p.2) (List.mem_map.2 ⟨p, hp, rfl⟩)
                exact this
        · cases h1
    · cases h
  · next T l c =>
    rw [evK_eq, evK_eq] at h
    obtain ⟨n, rows, len, h1, hc, hl, h2⟩ := mslX_some h
    refine ⟨_, h1, fun ρ σ hS => ⟨?_, trivial⟩⟩
    obtain ⟨_, _, e1, e2⟩ := h2 ρ _ _ (hS.ev l) (hS.ev c) True
    simp only [opBg]
    rw [e1]
    exact .val e2 ⟨rfl, hc, rfl⟩
  · next a b x =>
    rw [evK_eq] at h
    obtain ⟨v, h1, h2⟩ := convV_some h
    refine ⟨v, h1, fun ρ σ hS => ?_⟩
    have := h2 ρ σ.st _ (hS.ev x)
    exact ⟨this, c_live (C := C) (o := .convert a b x) this.c⟩
  · next hb hm hc =>
    obtain ⟨v, h1, h2⟩ := opV_some (nx := nx) hO h
    refine ⟨v, h1, fun ρ σ hS => ?_⟩
    have := h2 ρ σ hS
    have e : opBg C σ.ev σ.st o = opB C σ.ev σ.st o := by
      unfold opBg
      split
      · exact (hb _ _ _ rfl).elim
      · exact (hm _ _ _ rfl).elim
      · rfl
    rw [e]
    exact ⟨this, c_live this.c⟩

/-- An operation under a guard that holds. -/
noncomputable def gK (C : Ctx) (O : Orc) (o : Op) (r : Rt) (t : St) (nx : Nat) (K : CV → St → Nat → Option β) : Option β := match o with
  | .call c => opK C O (.call c) r t nx K
  | o => opG C O o r t fun v => K v t nx
theorem gK_some {O : Orc} (hO : OrcOk C O) {o : Op} {r : Rt} {t : St} {nx : Nat} {K : CV → St → Nat → Option β} {q : β} (h : gK C O o r t nx K = some q) :
    ∃ v t' n', K v t' n' = some q ∧ ∀ ρ σ, Sim ρ r t nx σ → EOk (opBg C σ.ev σ.st o) ρ σ.st v t' n' ∧ liveB σ.ev σ.st o := by
  unfold gK at h
  split at h
  · next c =>
    obtain ⟨v, t', n', h4, h5⟩ := opK_some hO h
    refine ⟨v, t', n', h4, fun ρ σ hS => ?_⟩
    have hv := h5 ρ σ hS
    exact ⟨hv, c_live (C := C) (o := .call c) hv.c⟩
  · obtain ⟨v, h4, h5⟩ := opG_some (nx := nx) hO h
    refine ⟨v, t, nx, h4, fun ρ σ hS => ?_⟩
    obtain ⟨hv, hl⟩ := h5 ρ σ hS
    exact ⟨hv.eok hS.st, hl⟩
noncomputable def guardT (C : Ctx) (O : Orc) (o : Op) (dst : Option Nat) (r : Rt) (t : St) (nx : Nat) (k : Rt → St → Nat → Option β) : Option β := match o with
  | .pick c a b => opV C O (.pick c a b) r t fun v => putK dst (.opt true v) r fun r => k r t nx
  | o => stripK o.operands.toList r fun r' => barC C O o dst r' r t nx k (gK C O o r' t nx fun v t nx => putK dst (.opt true v) r fun r => k r t nx)
noncomputable def stepK (C : Ctx) (O : Orc) (o : GOp) (r : Rt) (t : St) (nx : Nat) (k : Rt → St → Nat → Option β) : Option β := match o with
  | ⟨dst, g, op⟩ => match g with
    | none => barC C O op dst r r t nx k (opK C O op r t nx fun v t nx => putK dst v r fun r => k r t nx)
    | some (j, want) => getK (pth j) r fun g => wantK want g fun wb => bif wb then guardT C O op dst r t nx k else putK dst (.opt false .unk) r fun r => k r t nx

/-- What one operation comes to. -/
def AOk (C : Ctx) (o : GOp) (r : Rt) (t : St) (nx : Nat) (r2 : Rt) (t2 : St) (n2 : Nat) : Prop :=
  ∀ ρ σ (K : Eng.St → Prop), Sim ρ r t nx σ → (∀ ρ' σ', Ext ρ ρ' → Sim ρ' r2 t2 n2 σ' → K σ') → aOp C o K σ

theorem eok_gT {b : B} {dst : Option Nat} {ρ : Ren} {r : Rt} {t : St} {nx : Nat} {σ : Eng.St} {v : CV} {t' : St} {n' : Nat} {r2 : Rt} {K : Eng.St → Prop} (h : EOk b ρ σ.st v t' n') (hS : Sim ρ r t nx σ)
    (hp : ∀ ρ t nx σ u, Sim ρ r t nx σ → R ρ v u → Sim ρ r2 t nx (σ.put dst u)) (hK : ∀ ρ' σ', Ext ρ ρ' → Sim ρ' r2 t' n' σ' → K σ') : gT b dst K σ := by
  refine ⟨h.c, fun gs hf => ?_⟩
  obtain ⟨ρ', hx, hr, hs⟩ := h.k gs hf
  exact hK ρ' _ hx (hp ρ' _ _ _ _ (hS.ext hx hs) hr)

theorem guardT_some {O : Orc} (hO : OrcOk C O) {o : Op} {dst : Option Nat} {j : Nat} {want : Bool} {r : Rt} {t : St} {nx : Nat} {k : Rt → St → Nat → Option β} {q : β} (h : guardT C O o dst r t nx k = some q)
    (hw : ∀ ρ σ, Sim ρ r t nx σ → (σ.get j).wanted want = some true) : ∃ r2 t2 n2, k r2 t2 n2 = some q ∧ AOk C ⟨dst, some (j, want), o⟩ r t nx r2 t2 n2 := by
  unfold guardT at h
  split at h
  · next c a b =>
    obtain ⟨v, h1, h2⟩ := opV_some (nx := nx) hO h
    obtain ⟨r2, h3, h4⟩ := putK_some h1
    refine ⟨r2, t, nx, h3, fun ρ σ K hS hK => ?_⟩
    have hv := h2 ρ σ hS
    unfold aOp
    show gT (gB C _ σ) dst K σ
    unfold gB
    simp only [hw ρ σ hS, isPick, if_true]
    refine ⟨⟨?_, trivial⟩, fun gs hf => ?_⟩
    · first
        | exact hv.c
        | exact ⟨(fun h => by cases h), hv.c⟩
    obtain ⟨ρ', hx, hr, hs⟩ := (hv.eok hS.st).k gs hf
    exact hK ρ' _ hx (h4 ρ' _ _ _ _ (hS.ext hx hs) ⟨_, hr, rfl⟩)
  · next hnp =>
    obtain ⟨r', h1, h2⟩ := stripK_some h
    rcases barC_some hO h1 with ⟨h3, hb⟩ | ⟨b, r2, t2, n2, hb, h3, h4⟩
    · obtain ⟨v, t', n', h4, h5⟩ := gK_some hO h3
      obtain ⟨r2, h6, h7⟩ := putK_some h4
      refine ⟨r2, t', n', h6, fun ρ σ K hS hK => ?_⟩
      obtain ⟨ok, σ', e1, e2, _, e3⟩ := h2 ρ t nx σ hS
      obtain ⟨hv, hl⟩ := h5 ρ σ' e2
      have hev : ∀ x ∈ o.operands, (fun x => (σ.ev x).strip) x = σ'.ev x := fun x hx => ((e3 x (by simpa using hx)).1).symm
      rw [← opBg_slots hev, e1] at hv
      rw [← live_slots hev, e1] at hl
      unfold aOp
      rw [hb]
      show gT (gB C _ σ) dst K σ
      unfold gB
      have hp : isPick o = false := by cases o <;> first | rfl | exact (hnp _ _ _ rfl).elim
      simp only [hw ρ σ hS, hp, Bool.false_eq_true, if_false]
      refine ⟨⟨⟨fun _ => ok, hv.c⟩, hl⟩, fun gs hf => ?_⟩
      obtain ⟨ρ', hx, hr, hs⟩ := hv.k gs hf
      exact hK ρ' _ hx (h7 ρ' _ _ _ _ (hS.ext hx hs) ⟨_, hr, rfl⟩)
    · refine ⟨r2, t2, n2, h3, fun ρ σ K hS hK => ?_⟩
      obtain ⟨ok, σ', e1, e2, _, e3⟩ := h2 ρ t nx σ hS
      unfold aOp
      rw [hb]
      simp only [hw ρ σ hS]
      refine ⟨fun _ => ⟨ok, ?_⟩, fun h => by cases h⟩
      rw [barT_slots (ev := σ'.ev) (ev' := fun x => (σ.ev x).strip) fun x hx => ((e3 x (by simpa using bar_operands hb x hx)).1).symm]
      exact h4 ρ σ σ' K hS e2 e1 hK

theorem stepK_some {O : Orc} (hO : OrcOk C O) {o : GOp} {r : Rt} {t : St} {nx : Nat} {k : Rt → St → Nat → Option β} {q : β} (h : stepK C O o r t nx k = some q) :
    ∃ r2 t2 n2, k r2 t2 n2 = some q ∧ AOk C o r t nx r2 t2 n2 := by
  obtain ⟨dst, g, op⟩ := o
  cases g with
  | none =>
    have h : barC C O op dst r r t nx k (opK C O op r t nx fun v t nx => putK dst v r fun r => k r t nx) = some q := h
    rcases barC_some hO h with ⟨h3, hb⟩ | ⟨b, r2, t2, n2, hb, h3, h4⟩
    · obtain ⟨v, t', n', h4, h5⟩ := opK_some hO h3
      obtain ⟨r2, h6, h7⟩ := putK_some h4
      refine ⟨r2, t', n', h6, fun ρ σ K hS hK => ?_⟩
      unfold aOp
      rw [hb]
      exact eok_gT (h5 ρ σ hS) hS h7 hK
    · refine ⟨r2, t2, n2, h3, fun ρ σ K hS hK => ?_⟩
      unfold aOp
      rw [hb]
      exact h4 ρ σ σ K hS hS rfl hK
  | some p =>
    obtain ⟨j, want⟩ := p
    have h : getK (pth j) r (fun g => wantK want g fun wb => bif wb then guardT C O op dst r t nx k else putK dst (.opt false .unk) r fun r => k r t nx) = some q := h
    rw [getK_eq] at h
    obtain ⟨wb, h1, h2⟩ := wantK_some h
    cases wb with
    | true => exact guardT_some hO h1 fun ρ σ hS => h2 ρ _ (hS.regs j)
    | false =>
      have h1 : putK dst (.opt false .unk) r (fun r => k r t nx) = some q := h1
      obtain ⟨r2, h3, h4⟩ := putK_some h1
      refine ⟨r2, t, nx, h3, fun ρ σ K hS hK => ?_⟩
      have hw := h2 ρ _ (hS.regs j)
      have hp := hK ρ _ (.refl _) (h4 ρ t nx σ _ hS ⟨.unk, rfl, rfl⟩)
      unfold aOp
      cases hb : barOf C op with
      | none =>
        show gT (gB C _ σ) dst K σ
        unfold gB
        simp only [hw]
        exact ⟨trivial, fun gs hf => by cases gs with | nil => exact hp | cons _ _ => exact hf.elim⟩
      | some b =>
        simp only [hw]
        exact ⟨(fun h => by cases h), (fun _ => hp)⟩

noncomputable def regK (C : Ctx) (O : Orc) (ops : List GOp) : Rt → St → Nat → (Rt → St → Nat → Option β) → Option β :=
  List.rec (fun r t nx k => k r t nx) (fun o _ ih r t nx k => stepK C O o r t nx fun r t nx => ih r t nx k) ops
theorem regK_some {O : Orc} (hO : OrcOk C O) : ∀ {ops : List GOp} {r : Rt} {t : St} {nx : Nat} {k : Rt → St → Nat → Option β} {q : β}, regK C O ops r t nx k = some q →
    ∃ r2 t2 n2, k r2 t2 n2 = some q ∧ ∀ ρ σ (K : Eng.St → Prop), Sim ρ r t nx σ → (∀ ρ' σ', Ext ρ ρ' → Sim ρ' r2 t2 n2 σ' → K σ') → aOps C ops K σ
  | [], r, t, nx, k, q, h => ⟨r, t, nx, h, fun ρ σ K hS hK => hK ρ σ (.refl _) hS⟩
  | o :: ops, r, t, nx, k, q, h => by
    have h : stepK C O o r t nx (fun r t nx => regK C O ops r t nx k) = some q := h
    obtain ⟨r1, t1, n1, h1, h2⟩ := stepK_some hO h
    obtain ⟨r2, t2, n2, h3, h4⟩ := regK_some hO h1
    refine ⟨r2, t2, n2, h3, fun ρ σ K hS hK => h2 ρ σ _ hS fun ρ' σ' hx hS' => h4 ρ' σ' K hS' fun ρ2 σ2 hx2 hS2 => hK ρ2 σ2 (hx.trans hx2) hS2⟩

/-! ### Are two states alike? -/
mutual
def eqT : CT → CT → Bool
  | .int k n, .int k' n' => Nat.beq (ikCode k) (ikCode k') && decide (n = n')
  | .bool a, .bool b => a == b
  | .str l v, .str m w => Nat.beq l m && Nat.beq v w
  | .nilS, .nilS => true
  | .emp, .emp => true
  | .nilP, .nilP => true
  | .nilF, .nilF => true
  | .seq n l, .seq m r => Nat.beq n m && eqTR l r
  | _, _ => false
def eqTL : List CT → List CT → Bool
  | [], [] => true
  | x :: a, y :: b => eqT x y && eqTL a b
  | _, _ => false
def eqTR : List (List CT) → List (List CT) → Bool
  | [], [] => true
  | x :: a, y :: b => eqTL x y && eqTR a b
  | _, _ => false
end
mutual
theorem eqT_eq : ∀ (x y : CT), eqT x y = true → x = y
  | .int k n, y, h => by
    cases y <;> simp [eqT] at h
    obtain ⟨h1, rfl⟩ := h
    rw [ikCode_inj h1]
  | .bool a, y, h => by cases y <;> simp [eqT] at h; rw [h]
  | .str l v, y, h => by cases y <;> simp [eqT] at h; obtain ⟨rfl, rfl⟩ := h; rfl
  | .nilS, y, h => by cases y <;> simp [eqT] at h; rfl
  | .emp, y, h => by cases y <;> simp [eqT] at h; rfl
  | .nilP, y, h => by cases y <;> simp [eqT] at h; rfl
  | .nilF, y, h => by cases y <;> simp [eqT] at h; rfl
  | .seq n l, y, h => by cases y <;> simp [eqT] at h; obtain ⟨rfl, h⟩ := h; rw [eqTR_eq l _ h]
theorem eqTL_eq : ∀ (x y : List CT), eqTL x y = true → x = y
  | [], y, h => by cases y <;> simp [eqTL] at h; rfl
  | x :: a, y, h => by cases y <;> simp [eqTL] at h; rw [eqT_eq x _ h.1, eqTL_eq a _ h.2]
theorem eqTR_eq : ∀ (x y : List (List CT)), eqTR x y = true → x = y
  | [], y, h => by cases y <;> simp [eqTR] at h; rfl
  | x :: a, y, h => by cases y <;> simp [eqTR] at h; rw [eqTL_eq x _ h.1, eqTR_eq a _ h.2]
end
mutual
def eqV : CV → CV → Bool
  | .int k n, .int k' n' => Nat.beq (ikCode k) (ikCode k') && decide (n = n')
  | .bool a, .bool b => a == b
  | .str l v, .str m w => Nat.beq l m && Nat.beq v w
  | .t x, .t y => eqT x y
  | .tok a b c d, .tok e f g h => (Nat.beq a e && Nat.beq b f) && (Nat.beq c g && Nat.beq d h)
  | .ptr a b, .ptr c d => Nat.beq a c && Nat.beq b d
  | .eptr a b c d, .eptr e f g h => (Nat.beq a e && Nat.beq b f) && (Nat.beq c g && Nat.beq d h)
  | .imm a, .imm b => eqTL a b
  | .fn f a, .fn g b => Nat.beq f g && eqVL a b
  | .agg a, .agg b => eqVL a b
  | .tup a, .tup b => eqVL a b
  | .opt a b, .opt c d => (a == c) && eqV b d
  | .unk, .unk => true
  | _, _ => false
def eqVL : List CV → List CV → Bool
  | [], [] => true
  | x :: a, y :: b => eqV x y && eqVL a b
  | _, _ => false
end
mutual
theorem eqV_eq : ∀ (x y : CV), eqV x y = true → x = y
  | .int k n, y, h => by
    cases y <;> simp [eqV] at h
    obtain ⟨h1, rfl⟩ := h
    rw [ikCode_inj h1]
  | .bool a, y, h => by cases y <;> simp [eqV] at h; rw [h]
  | .str l v, y, h => by cases y <;> simp [eqV] at h; obtain ⟨rfl, rfl⟩ := h; rfl
  | .t x, y, h => by cases y <;> simp [eqV] at h; rw [eqT_eq x _ h]
  | .tok a b c d, y, h => by cases y <;> simp [eqV] at h; obtain ⟨⟨rfl, rfl⟩, rfl, rfl⟩ := h; rfl
  | .ptr a b, y, h => by cases y <;> simp [eqV] at h; obtain ⟨rfl, rfl⟩ := h; rfl
  | .eptr a b c d, y, h => by cases y <;> simp [eqV] at h; obtain ⟨⟨rfl, rfl⟩, rfl, rfl⟩ := h; rfl
  | .imm a, y, h => by cases y <;> simp [eqV] at h; rw [eqTL_eq a _ h]
  | .fn f a, y, h => by cases y <;> simp [eqV] at h; obtain ⟨rfl, h⟩ := h; rw [eqVL_eq a _ h]
  | .agg a, y, h => by cases y <;> simp [eqV] at h; rw [eqVL_eq a _ h]
  | .tup a, y, h => by cases y <;> simp [eqV] at h; rw [eqVL_eq a _ h]
  | .opt a b, y, h => by cases y <;> simp [eqV] at h; obtain ⟨rfl, h⟩ := h; rw [eqV_eq b _ h]
  | .unk, y, h => by cases y <;> simp [eqV] at h; rfl
theorem eqVL_eq : ∀ (x y : List CV), eqVL x y = true → x = y
  | [], y, h => by cases y <;> simp [eqVL] at h; rfl
  | x :: a, y, h => by cases y <;> simp [eqVL] at h; rw [eqV_eq x _ h.1, eqVL_eq a _ h.2]
end
def eqE : Ent → Ent → Bool
  | .row a b l c, .row d e r f => ((Nat.beq a d && Nat.beq b e) && (c == f)) && eqTR l r
  | .box a b, .box c d => (b == d) && eqVL a c
  | _, _ => false
theorem eqE_eq : ∀ {x y : Ent}, eqE x y = true → x = y
  | .row a b l c, y, h => by cases y <;> simp [eqE] at h; obtain ⟨⟨⟨rfl, rfl⟩, rfl⟩, h⟩ := h; rw [eqTR_eq l _ h]
  | .box a b, y, h => by cases y <;> simp [eqE] at h; obtain ⟨rfl, h⟩ := h; rw [eqVL_eq a _ h]
def eqS : St → St → Bool
  | [], [] => true
  | (a, e) :: r, (b, f) :: s => (Nat.beq a b && eqE e f) && eqS r s
  | _, _ => false
theorem eqS_eq : ∀ {x y : St}, eqS x y = true → x = y
  | [], y, h => by cases y <;> simp [eqS] at h; rfl
  | (a, e) :: r, y, h => by
    cases y with
    | nil => simp [eqS] at h
    | cons p s =>
      obtain ⟨b, f⟩ := p
      simp only [eqS, Bool.and_eq_true] at h
      obtain ⟨⟨h1, h2⟩, h3⟩ := h
      rw [beq_iff.1 h1, eqE_eq h2, eqS_eq h3]
def eq8 {γ : Type} (f : γ → γ → Bool) : N8 γ → N8 γ → Bool
  | ⟨a, b, c, d, e, x, g, h⟩, ⟨a', b', c', d', e', x', g', h'⟩ => (((f a a' && f b b') && (f c c' && f d d')) && ((f e e' && f x x') && (f g g' && f h h')))
theorem eq8_eq {γ : Type} {f : γ → γ → Bool} (hf : ∀ x y, f x y = true → x = y) : ∀ {x y : N8 γ}, eq8 f x y = true → x = y
  | ⟨a, b, c, d, e, x, g, h⟩, ⟨a', b', c', d', e', x', g', h'⟩, hh => by
    simp only [eq8, Bool.and_eq_true] at hh
    obtain ⟨⟨⟨h1, h2⟩, h3, h4⟩, ⟨h5, h6⟩, h7, h8⟩ := hh
    rw [hf _ _ h1, hf _ _ h2, hf _ _ h3, hf _ _ h4, hf _ _ h5, hf _ _ h6, hf _ _ h7, hf _ _ h8]
def eqR : Rt → Rt → Bool := eq8 (eq8 (eq8 eqV))
theorem eqR_eq {x y : Rt} (h : eqR x y = true) : x = y := eq8_eq (fun _ _ h => eq8_eq (fun _ _ h => eq8_eq eqV_eq h) h) h

/-! ### Are they alike, but for the tokens' names? -/
mutual
def eqW (f : Nat → Nat) : CV → CV → Bool
  | .int k n, .int k' n' => Nat.beq (ikCode k) (ikCode k') && decide (n = n')
  | .bool a, .bool b => a == b
  | .str l v, .str m w => Nat.beq l m && Nat.beq v w
  | .t x, .t y => eqT x y
  | .tok a b c d, .tok e b' c' d' => (Nat.beq (f a) e && Nat.beq b b') && (Nat.beq c c' && Nat.beq d d')
  | .ptr a b, .ptr c d => Nat.beq (f a) c && Nat.beq b d
  | .eptr a b c d, .eptr e b' c' d' => (Nat.beq (f a) e && Nat.beq b b') && (Nat.beq c c' && Nat.beq d d')
  | .imm a, .imm b => eqTL a b
  | .fn n a, .fn m b => Nat.beq n m && eqWL f a b
  | .agg a, .agg b => eqWL f a b
  | .tup a, .tup b => eqWL f a b
  | .opt a b, .opt c d => (a == c) && eqW f b d
  | .unk, .unk => true
  | _, _ => false
def eqWL (f : Nat → Nat) : List CV → List CV → Bool
  | [], [] => true
  | x :: a, y :: b => eqW f x y && eqWL f a b
  | _, _ => false
end
mutual
theorem eqW_R {f : Nat → Nat} {ρ : Ren} {u : AV} : ∀ (x y : CV), eqW f x y = true → R ρ y u → R (fun g => ρ (f g)) x u
  | .int k n, y, h, hr => by
    cases y <;> simp [eqW] at h
    obtain ⟨h1, rfl⟩ := h
    rw [ikCode_inj h1]; exact hr
  | .bool a, y, h, hr => by cases y <;> simp [eqW] at h; rw [h]; exact hr
  | .str l v, y, h, hr => by cases y <;> simp [eqW] at h; obtain ⟨rfl, rfl⟩ := h; exact hr
  | .t x, y, h, hr => by cases y <;> simp [eqW] at h; rw [eqT_eq x _ h]; exact hr
  | .tok a b c d, y, h, hr => by cases y <;> simp [eqW] at h; obtain ⟨⟨rfl, rfl⟩, rfl, rfl⟩ := h; exact hr
  | .ptr a b, y, h, hr => by cases y <;> simp [eqW] at h; obtain ⟨rfl, rfl⟩ := h; exact hr
  | .eptr a b c d, y, h, hr => by cases y <;> simp [eqW] at h; obtain ⟨⟨rfl, rfl⟩, rfl, rfl⟩ := h; exact hr
  | .imm a, y, h, hr => by cases y <;> simp [eqW] at h; rw [eqTL_eq a _ h]; exact hr
  | .fn n a, y, h, hr => by
    cases y <;> simp [eqW] at h
    obtain ⟨rfl, h⟩ := h
    obtain ⟨us, ⟨h1, h2⟩, rfl⟩ := hr
    exact ⟨us, ⟨eqWL_R a _ h h1, h2⟩, rfl⟩
  | .agg a, y, h, hr => by
    cases y <;> simp [eqW] at h
    obtain ⟨us, ⟨h1, h2⟩, rfl⟩ := hr
    exact ⟨us, ⟨eqWL_R a _ h h1, h2⟩, rfl⟩
  | .tup a, y, h, hr => by
    cases y <;> simp [eqW] at h
    obtain ⟨us, h1, rfl⟩ := hr
    exact ⟨us, eqWL_R a _ h h1, rfl⟩
  | .opt a b, y, h, hr => by
    cases y <;> simp [eqW] at h
    obtain ⟨rfl, h⟩ := h
    obtain ⟨w, h1, rfl⟩ := hr
    exact ⟨w, eqW_R b _ h h1, rfl⟩
  | .unk, y, h, hr => by cases y <;> simp [eqW] at h; exact hr
theorem eqWL_R {f : Nat → Nat} {ρ : Ren} {us : List AV} : ∀ (x y : List CV), eqWL f x y = true → RL ρ y us → RL (fun g => ρ (f g)) x us
  | [], y, h, hr => by cases y <;> simp [eqWL] at h; exact hr
  | x :: a, y, h, hr => by
    cases y <;> simp [eqWL] at h
    obtain ⟨u, t, rfl, h1, h2⟩ := hr
    exact ⟨u, t, rfl, eqW_R x _ h.1 h1, eqWL_R a _ h.2 h2⟩
end
def entF (f : Nat → Nat) : Ent → Ent → Bool
  | .row a b l c, .row d e r c' => ((Nat.beq a d && Nat.beq b e) && (c == c')) && eqTR l r
  | .box a b, .box c d => (b == d) && eqWL f a c
  | _, _ => false
theorem entF_RE {f : Nat → Nat} {ρ : Ren} {e : Entry} : ∀ {x y : Ent}, entF f x y = true → RE ρ y e → RE (fun g => ρ (f g)) x e
  | .row a b l c, y, h, hr => by cases y <;> simp [entF] at h; obtain ⟨⟨⟨rfl, rfl⟩, rfl⟩, h⟩ := h; rw [eqTR_eq l _ h]; exact hr
  | .box a b, y, h, hr => by
    cases y <;> simp [entF] at h
    obtain ⟨rfl, h⟩ := h
    obtain ⟨us, ⟨h1, h2⟩, rfl⟩ := hr
    exact ⟨us, ⟨eqWL_R a _ h h1, h2⟩, rfl⟩
def hasF (f : Nat → Nat) (e : Ent) : Option Ent → Bool
  | some e2 => entF f e e2
  | none => false
def stF (f : Nat → Nat) (t2 : St) : St → Bool
  | [] => true
  | (a, e) :: r => hasF f e (look (f a) t2) && stF f t2 r
theorem stF_look {f : Nat → Nat} {t2 : St} : ∀ {t : St} {g : Nat} {e : Ent}, stF f t2 t = true → look g t = some e → ∃ e2, look (f g) t2 = some e2 ∧ entF f e e2 = true
  | [], _, _, _, h => by cases h
  | (a, x) :: r, g, e, h, hl => by
    simp only [stF, Bool.and_eq_true] at h
    simp only [look] at hl
    split at hl
    · next hg =>
      subst hg; cases hl
      cases h2 : look (f g) t2 with
      | none => rw [h2] at h; cases h.1
      | some e2 => rw [h2] at h; exact ⟨e2, rfl, h.1⟩
    · exact stF_look h.2 hl
def cmp8 {γ : Type} (f : γ → γ → Bool) : N8 γ → N8 γ → Bool
  | ⟨a, b, c, d, e, x, g, h⟩, ⟨a', b', c', d', e', x', g', h'⟩ => (((f a a' && f b b') && (f c c' && f d d')) && ((f e e' && f x x') && (f g g' && f h h')))
theorem cmp8_sel {γ : Type} {f : γ → γ → Bool} : ∀ {x y : N8 γ} (i : Nat), cmp8 f x y = true → f (sel i x) (sel i y) = true
  | ⟨a, b, c, d, e, x, g, h⟩, ⟨a', b', c', d', e', x', g', h'⟩, i, hh => by
    simp only [cmp8, Bool.and_eq_true] at hh
    obtain ⟨⟨⟨h1, h2⟩, h3, h4⟩, ⟨h5, h6⟩, h7, h8⟩ := hh
    match i with
    | 0 => exact h1
    | 1 => exact h2
    | 2 => exact h3
    | 3 => exact h4
    | 4 => exact h5
    | 5 => exact h6
    | 6 => exact h7
    | i + 7 => exact h8
def cmpR (f : Nat → Nat) : Rt → Rt → Bool := cmp8 (cmp8 (cmp8 (eqW f)))
theorem cmpR_get {f : Nat → Nat} {x y : Rt} (h : cmpR f x y = true) (n : Nat) : eqW f (get n x) (get n y) = true := by
  unfold get
  split
  · exact cmp8_sel _ (cmp8_sel _ (cmp8_sel _ h))
  · rfl
/-- Two numbers change places. -/
def swp (a b g : Nat) : Nat := bif Nat.beq g a then b else bif Nat.beq g b then a else g
theorem swp_inj (a b g h : Nat) (e : swp a b g = swp a b h) : g = h := by
  unfold swp at e
  simp only [beq_if] at e
  repeat' split at e
  all_goals omega
theorem swp_out (a b g : Nat) (h : g ≠ a) (k : g ≠ b) : swp a b g = g := by
  unfold swp
  simp only [beq_if]
  rw [if_neg h, if_neg k]
/-- Is one state the other one, but for new tokens' names? -/
def likeK (a b nx : Nat) (r1 : Rt) (t1 : St) (n1 : Nat) (r2 : Rt) (t2 : St) (n2 : Nat) : Bool :=
  (Nat.beq n1 n2 && (Nat.ble nx a && Nat.ble nx b)) && ((Nat.ble (a + 1) n1 && Nat.ble (b + 1) n1) && (stF (swp a b) t2 t1 && cmpR (swp a b) r1 r2))
theorem likeK_sim {a b nx : Nat} {r1 : Rt} {t1 : St} {n1 : Nat} {r2 : Rt} {t2 : St} {n2 : Nat} (h : likeK a b nx r1 t1 n1 r2 t2 n2 = true) {ρ0 ρ : Ren} {r : Rt} {t : St} {σ0 σ : Eng.St}
    (h0 : Sim ρ0 r t nx σ0) (hx : Ext ρ0 ρ) (hS : Sim ρ r2 t2 n2 σ) : Ext ρ0 (fun g => ρ (swp a b g)) ∧ Sim (fun g => ρ (swp a b g)) r1 t1 n1 σ := by
  unfold likeK at h
  simp only [Bool.and_eq_true, Nat.ble_eq, beq_iff] at h
  obtain ⟨⟨rfl, h1, h2⟩, ⟨h3, h4⟩, h5, h6⟩ := h
  refine ⟨fun g g' hg => ?_, fun n => eqW_R _ _ (cmpR_get h6 n) (hS.regs n), ⟨fun g e hl => ?_, fun g k x hg hk e1 e2 => ?_, fun g hg => ?_⟩⟩
  · have hlt : g < nx := by
      rcases Nat.lt_or_ge g nx with h | h
      · exact h
      · rw [h0.st.born g h] at hg; cases hg
    show ρ (swp a b g) = _
    rw [swp_out _ _ _ (by omega) (by omega)]
    exact hx g g' hg
  · obtain ⟨e2, k1, k2⟩ := stF_look h5 hl
    obtain ⟨g', e', k3, k4, k5⟩ := hS.st.ent _ _ k1
    exact ⟨g', e', k3, k4, entF_RE k2 k5⟩
  · have live : ∀ g, look g t1 ≠ none → look (swp a b g) t2 ≠ none := fun g hg => by
      cases hl : look g t1 with
      | none => exact (hg hl).elim
      | some e => obtain ⟨e2, k1, _⟩ := stF_look h5 hl; rw [k1]; simp
    exact swp_inj a b g k (hS.st.inj _ _ x (live g hg) (live k hk) e1 e2)
  · show ρ (swp a b g) = none
    rw [swp_out _ _ _ (by omega) (by omega)]
    exact hS.st.born g hg

/-! ### Code -/
inductive Out where
  | n (r : Rt) (t : St) (nx : Nat)
  | x (id : Nat) (r : Rt) (t : St) (nx : Nat)
  | r (r : Rt) (t : St) (nx : Nat)

noncomputable def anyB (l : List (Nat × Nat)) (p : Nat → Nat → Bool) : Bool := List.rec false (fun x _ ih => Prod.rec (fun a b => bif p a b then true else ih) x) l
theorem anyB_some {p : Nat → Nat → Bool} : ∀ {l : List (Nat × Nat)}, anyB l p = true → ∃ a b, p a b = true
  | [], h => by cases h
  | (a, b) :: r, h => by
    have h : (bif p a b then true else anyB r p) = true := h
    cases hp : p a b with
    | true => exact ⟨a, b, hp⟩
    | false => rw [hp] at h; exact anyB_some h
/-- Alike as they stand, or with new tokens' names changed. -/
noncomputable def sameK (nx : Nat) (r1 : Rt) (t1 : St) (n1 : Nat) (r2 : Rt) (t2 : St) (n2 : Nat) : Bool :=
  bif Nat.beq n1 n2 && (eqR r1 r2 && eqS t1 t2) then true else anyB [(0, 1), (0, 2), (1, 2), (0, 3), (1, 3), (2, 3)] fun a b => likeK (nx + a) (nx + b) nx r1 t1 n1 r2 t2 n2
theorem sameK_sim {nx : Nat} {r1 : Rt} {t1 : St} {n1 : Nat} {r2 : Rt} {t2 : St} {n2 : Nat} (h : sameK nx r1 t1 n1 r2 t2 n2 = true) {ρ0 ρ : Ren} {r : Rt} {t : St} {σ0 σ : Eng.St}
    (h0 : Sim ρ0 r t nx σ0) (hx : Ext ρ0 ρ) (hS : Sim ρ r2 t2 n2 σ) : ∃ ρ', Ext ρ0 ρ' ∧ Sim ρ' r1 t1 n1 σ := by
  unfold sameK at h
  cases hb : Nat.beq n1 n2 && (eqR r1 r2 && eqS t1 t2) with
  | true =>
    simp only [Bool.and_eq_true] at hb
    obtain ⟨h1, h2, h3⟩ := hb
    rw [beq_iff.1 h1, eqR_eq h2, eqS_eq h3]
    exact ⟨ρ, hx, hS⟩
  | false =>
    rw [hb, cond_false] at h
    obtain ⟨a, b, h⟩ := anyB_some h
    exact ⟨_, likeK_sim h h0 hx hS⟩
noncomputable def bothK (nx0 : Nat) (a b : Option Out) : Option Out := match a with
  | some (.n r t nx) => match b with
    | some (.n r' t' nx') => bif sameK nx0 r t nx r' t' nx' then some (.n r t nx) else none
    | _ => none
  | _ => none
noncomputable def treeK (C : Ctx) (O : Orc) (tr : OTree) : Rt → St → Nat → Option Out :=
  OTree.rec (fun r t nx => some (.n r t nx)) (fun o _ ih r t nx => stepK C O o r t nx fun r t nx => ih r t nx) (fun _ _ iha ihb r t nx => bothK nx (iha r t nx) (ihb r t nx)) tr
theorem treeK_some {O : Orc} (hO : OrcOk C O) : ∀ {tr : OTree} {r : Rt} {t : St} {nx : Nat} {q : Out}, treeK C O tr r t nx = some q →
    ∃ r2 t2 n2, q = .n r2 t2 n2 ∧ ∀ ρ σ (K : Eng.St → Prop), Sim ρ r t nx σ → (∀ ρ' σ', Ext ρ ρ' → Sim ρ' r2 t2 n2 σ' → K σ') → avpT C tr K σ
  | .done, r, t, nx, q, h => by cases h; exact ⟨r, t, nx, rfl, fun ρ σ K hS hK => hK ρ σ (.refl _) hS⟩
  | .one o tr, r, t, nx, q, h => by
    have h : stepK C O o r t nx (fun r t nx => treeK C O tr r t nx) = some q := h
    obtain ⟨r1, t1, n1, h1, h2⟩ := stepK_some hO h
    obtain ⟨r2, t2, n2, h3, h4⟩ := treeK_some hO h1
    exact ⟨r2, t2, n2, h3, fun ρ σ K hS hK => h2 ρ σ _ hS fun ρ' σ' hx hS' => h4 ρ' σ' K hS' fun ρ2 σ2 hx2 hS2 => hK ρ2 σ2 (hx.trans hx2) hS2⟩
  | .both a b, r, t, nx, q, h => by
    have h : bothK nx (treeK C O a r t nx) (treeK C O b r t nx) = some q := h
    unfold bothK at h
    split at h
    · next r1 t1 n1 ha =>
      split at h
      · next r3 t3 n3 hb =>
        cases e1 : sameK nx r1 t1 n1 r3 t3 n3 with
        | false => rw [e1] at h; cases h
        | true =>
          rw [e1] at h
          cases h
          obtain ⟨r2, t2, n2, h3, h4⟩ := treeK_some hO ha
          cases h3
          obtain ⟨r2, t2, n2, h5, h6⟩ := treeK_some hO hb
          cases h5
          refine ⟨_, _, _, rfl, fun ρ σ K hS hK => ⟨h4 ρ σ K hS hK, h6 ρ σ K hS fun ρ' σ' hx hS' => ?_⟩⟩
          obtain ⟨ρ2, k1, k2⟩ := sameK_sim e1 hS hx hS'
          exact hK ρ2 σ' k1 k2
      · cases h
    · cases h

noncomputable def outK (o : Option Out) (k : Rt → St → Nat → Option Out) : Option Out := match o with
  | some (.n r t nx) => k r t nx
  | o => o
noncomputable def blkK (id : Nat) (o : Option Out) : Option Out := match o with
  | some (.x i r t nx) => bif Nat.beq i id then some (.n r t nx) else some (.x i r t nx)
  | o => o
noncomputable def boolK (v : CV) (a b : Option Out) : Option Out := match v with
  | .bool c => bif c then a else b
  | _ => none
noncomputable def loopK (body : Rt → St → Nat → Option Out) (n : Nat) : Rt → St → Nat → Option Out := Nat.rec (fun _ _ _ => none) (fun _ ih r t nx => outK (body r t nx) ih) n
noncomputable def runK (C : Ctx) (O : Orc) (L : Nat) (c : GCode) : Rt → St → Nat → Option Out := GCode.rec
  (fun r t nx => some (.n r t nx))
  (fun ops r t nx => regK C O ops r t nx fun r t nx => some (.n r t nx))
  (fun tr r t nx => treeK C O tr r t nx)
  (fun _ _ iha ihb r t nx => outK (iha r t nx) ihb)
  (fun c _ _ iha ihb r t nx => evK c r fun v => boolK v (iha r t nx) (ihb r t nx))
  (fun id _ ih r t nx => blkK id (ih r t nx))
  (fun _ ih r t nx => loopK ih L r t nx)
  (fun id r t nx => some (.x id r t nx))
  (fun r t nx => some (.r r t nx))
  (fun _ _ _ => none) c

def Out.exit : Out → Exit
  | .n .. => .normal
  | .x id .. => .exit id
  | .r .. => .ret
def SimO (ρ : Ren) : Out → Eng.St → Prop
  | .n r t nx, σ => Sim ρ r t nx σ
  | .x _ r t nx, σ => Sim ρ r t nx σ
  | .r r t nx, σ => Sim ρ r t nx σ

/-- **What the concrete machine carries out, the abstract one allows.** -/
theorem runK_some {O : Orc} (hO : OrcOk C O) {L : Nat} : ∀ {c : GCode} {r : Rt} {t : St} {nx : Nat} {out : Out}, runK C O L c r t nx = some out →
    ∀ ρ σ (Q : Exit → Eng.St → Prop), Sim ρ r t nx σ → (∀ ρ' σ', Ext ρ ρ' → SimO ρ' out σ' → Q out.exit σ') → avp C c Q σ
  | .skip, r, t, nx, out, h, ρ, σ, Q, hS, hQ => by cases h; exact hQ ρ σ (.refl _) hS
  | .region ops, r, t, nx, out, h, ρ, σ, Q, hS, hQ => by
    have h : regK C O ops r t nx (fun r t nx => some (Out.n r t nx)) = some out := h
    obtain ⟨r2, t2, n2, h1, h2⟩ := regK_some hO h
    cases h1
    exact h2 ρ σ _ hS hQ
  | .orders tr, r, t, nx, out, h, ρ, σ, Q, hS, hQ => by
    obtain ⟨r2, t2, n2, h1, h2⟩ := treeK_some hO (tr := tr) h
    subst h1
    exact h2 ρ σ _ hS hQ
  | .seq a b, r, t, nx, out, h, ρ, σ, Q, hS, hQ => by
    have h : outK (runK C O L a r t nx) (runK C O L b) = some out := h
    cases ha : runK C O L a r t nx with
    | none => rw [ha] at h; cases h
    | some o =>
      rw [ha] at h
      refine runK_some hO ha ρ σ _ hS fun ρ' σ' hx hS' => ?_
      cases o with
      | n r1 t1 n1 => exact runK_some hO (show runK C O L b r1 t1 n1 = some out from h) ρ' σ' Q hS' fun ρ2 σ2 hx2 hS2 => hQ ρ2 σ2 (hx.trans hx2) hS2
      | x id r1 t1 n1 => cases h; exact hQ ρ' σ' hx hS'
      | r r1 t1 n1 => cases h; exact hQ ρ' σ' hx hS'
  | .cond c a b, r, t, nx, out, h, ρ, σ, Q, hS, hQ => by
    have h : evK c r (fun v => boolK v (runK C O L a r t nx) (runK C O L b r t nx)) = some out := h
    rw [evK_eq] at h
    have hc := hS.ev c
    unfold boolK at h
    split at h
    · next x hx =>
      rw [hx] at hc
      have hc : σ.ev c = .t (.bool x) := hc
      simp only [avp, hc]
      cases x with
      | true => exact ⟨(fun _ => runK_some hO h ρ σ Q hS hQ), (fun h => by cases h)⟩
      | false => exact ⟨(fun h => by cases h), (fun _ => runK_some hO h ρ σ Q hS hQ)⟩
    · cases h
  | .block id b, r, t, nx, out, h, ρ, σ, Q, hS, hQ => by
    have h : blkK id (runK C O L b r t nx) = some out := h
    cases hb : runK C O L b r t nx with
    | none => rw [hb] at h; cases h
    | some o =>
      rw [hb] at h
      refine runK_some hO hb ρ σ _ hS fun ρ' σ' hx hS' => ?_
      cases o with
      | n r1 t1 n1 => cases h; exact hQ ρ' σ' hx hS'
      | r r1 t1 n1 => cases h; exact hQ ρ' σ' hx hS'
      | x i r1 t1 n1 =>
        have h : (bif Nat.beq i id then some (Out.n r1 t1 n1) else some (.x i r1 t1 n1)) = some out := h
        rw [beq_if] at h
        show Exit.inBlockA id Q (.exit i) σ'
        simp only [Exit.inBlockA]
        split at h
        · next e => cases h; rw [if_pos e]; exact hQ ρ' σ' hx hS'
        · next e => cases h; rw [if_neg e]; exact hQ ρ' σ' hx hS'
  | .loop b, r, t, nx, out, h, ρ, σ, Q, hS, hQ => by
    have h : loopK (runK C O L b) L r t nx = some out := h
    have key : ∀ (n : Nat) (r : Rt) (t : St) (nx : Nat) (ρ : Ren) (σ : Eng.St), loopK (runK C O L b) n r t nx = some out → Sim ρ r t nx σ → (∀ ρ' σ', Ext ρ ρ' → SimO ρ' out σ' → Q out.exit σ') → Rounds (avp C b) Q n σ := by
      intro n
      induction n with
      | zero => intro r t nx ρ σ h; cases h
      | succ n ih =>
        intro r t nx ρ σ h hS hQ
        have h : outK (runK C O L b r t nx) (loopK (runK C O L b) n) = some out := h
        cases ha : runK C O L b r t nx with
        | none => rw [ha] at h; cases h
        | some o =>
          rw [ha] at h
          refine runK_some hO ha ρ σ _ hS fun ρ' σ' hx hS' => ?_
          cases o with
          | n r1 t1 n1 => exact ih r1 t1 n1 ρ' σ' h hS' fun ρ2 σ2 hx2 hS2 => hQ ρ2 σ2 (hx.trans hx2) hS2
          | x id r1 t1 n1 => cases h; exact hQ ρ' σ' hx hS'
          | r r1 t1 n1 => cases h; exact hQ ρ' σ' hx hS'
    exact ⟨L, key L r t nx ρ σ h hS hQ⟩
  | .exit id, r, t, nx, out, h, ρ, σ, Q, hS, hQ => by cases h; exact hQ ρ σ (.refl _) hS
  | .ret, r, t, nx, out, h, ρ, σ, Q, hS, hQ => by cases h; exact hQ ρ σ (.refl _) hS
  | .weak, r, t, nx, out, h, ρ, σ, Q, hS, hQ => by cases h

end Go.Top

namespace Go.Top
open Go Go.Eng
universe u
variable {α : Type u} {C : Ctx}

abbrev RO := Option Out

/-! ### Looking at a value -/
noncomputable def onI64 (v : CV) (f : Int → RO) : RO :=
  CV.rec (motive_1 := fun _ => RO) (motive_2 := fun _ => PUnit) (fun k n => IntKind.rec none none none (f n) none none none none k) (fun _ => none) (fun _ _ => none) (fun _ => none) (fun _ _ _ _ => none) (fun _ _ => none) (fun _ _ _ _ => none) (fun _ => none) (fun _ _ _ => none) (fun _ _ => none) (fun _ _ => none) (fun _ _ _ => none) none PUnit.unit (fun _ _ _ _ => PUnit.unit) v
noncomputable def onInt (v : CV) (f : IntKind → Int → RO) : RO :=
  CV.rec (motive_1 := fun _ => RO) (motive_2 := fun _ => PUnit) f (fun _ => none) (fun _ _ => none) (fun _ => none) (fun _ _ _ _ => none) (fun _ _ => none) (fun _ _ _ _ => none) (fun _ => none) (fun _ _ _ => none) (fun _ _ => none) (fun _ _ => none) (fun _ _ _ => none) none PUnit.unit (fun _ _ _ _ => PUnit.unit) v
noncomputable def onBool (v : CV) (f : Bool → RO) : RO :=
  CV.rec (motive_1 := fun _ => RO) (motive_2 := fun _ => PUnit) (fun _ _ => none) f (fun _ _ => none) (fun _ => none) (fun _ _ _ _ => none) (fun _ _ => none) (fun _ _ _ _ => none) (fun _ => none) (fun _ _ _ => none) (fun _ _ => none) (fun _ _ => none) (fun _ _ _ => none) none PUnit.unit (fun _ _ _ _ => PUnit.unit) v
/-- An address. -/
noncomputable def onAd (v : CV) (p : Nat → Nat → RO) (e : Nat → Nat → Nat → Nat → RO) (i : List CT → RO) : RO :=
  CV.rec (motive_1 := fun _ => RO) (motive_2 := fun _ => PUnit) (fun _ _ => none) (fun _ => none) (fun _ _ => none) (fun _ => none) (fun _ _ _ _ => none) p e i (fun _ _ _ => none) (fun _ _ => none) (fun _ _ => none) (fun _ _ _ => none) none PUnit.unit (fun _ _ _ _ => PUnit.unit) v
/-- An own slice, or one that is only read. -/
noncomputable def onSl (v : CV) (k : Nat → Nat → Nat → Nat → RO) (t : CT → RO) : RO :=
  CV.rec (motive_1 := fun _ => RO) (motive_2 := fun _ => PUnit) (fun _ _ => none) (fun _ => none) (fun _ _ => none) t k (fun _ _ => none) (fun _ _ _ _ => none) (fun _ => none) (fun _ _ _ => none) (fun _ _ => none) (fun _ _ => none) (fun _ _ _ => none) none PUnit.unit (fun _ _ _ _ => PUnit.unit) v

noncomputable def fN (n : Nat) (k : Nat → RO) : RO := Nat.rec (k 0) (fun m _ => k (Nat.succ m)) n
theorem fN_eq (n : Nat) (k : Nat → RO) : fN n k = k n := by cases n <;> rfl
noncomputable def fI (n : Int) (k : Int → RO) : RO := Int.rec (fun n => fN n fun n => k (.ofNat n)) (fun n => fN n fun n => k (.negSucc n)) n
theorem fI_eq (n : Int) (k : Int → RO) : fI n k = k n := by cases n <;> simp [fI, fN_eq]

/-! ### Registers -/
structure S1 (α : Type u) where
  run : N8 (N8 (N8 CV)) → (N8 (N8 CV) → α) → α
noncomputable def s1 (i : Nat) : S1 α := match i with
  | 0 => ⟨fun x k => N8.rec (fun a _ _ _ _ _ _ _ => k a) x⟩
  | 1 => ⟨fun x k => N8.rec (fun _ b _ _ _ _ _ _ => k b) x⟩
  | 2 => ⟨fun x k => N8.rec (fun _ _ c _ _ _ _ _ => k c) x⟩
  | 3 => ⟨fun x k => N8.rec (fun _ _ _ d _ _ _ _ => k d) x⟩
  | 4 => ⟨fun x k => N8.rec (fun _ _ _ _ e _ _ _ => k e) x⟩
  | 5 => ⟨fun x k => N8.rec (fun _ _ _ _ _ f _ _ => k f) x⟩
  | 6 => ⟨fun x k => N8.rec (fun _ _ _ _ _ _ g _ => k g) x⟩
  | _ => ⟨fun x k => N8.rec (fun _ _ _ _ _ _ _ h => k h) x⟩
theorem s1_eq (i : Nat) (x : N8 (N8 (N8 CV))) (k : N8 (N8 CV) → α) : (s1 i).run x k = k (sel i x) := by
  match i with
  | 0 | 1 | 2 | 3 | 4 | 5 | 6 | 7 => rfl
  | i + 8 => rfl
structure S2 (α : Type u) where
  run : N8 (N8 CV) → (N8 CV → α) → α
noncomputable def s2 (i : Nat) : S2 α := match i with
  | 0 => ⟨fun x k => N8.rec (fun a _ _ _ _ _ _ _ => k a) x⟩
  | 1 => ⟨fun x k => N8.rec (fun _ b _ _ _ _ _ _ => k b) x⟩
  | 2 => ⟨fun x k => N8.rec (fun _ _ c _ _ _ _ _ => k c) x⟩
  | 3 => ⟨fun x k => N8.rec (fun _ _ _ d _ _ _ _ => k d) x⟩
  | 4 => ⟨fun x k => N8.rec (fun _ _ _ _ e _ _ _ => k e) x⟩
  | 5 => ⟨fun x k => N8.rec (fun _ _ _ _ _ f _ _ => k f) x⟩
  | 6 => ⟨fun x k => N8.rec (fun _ _ _ _ _ _ g _ => k g) x⟩
  | _ => ⟨fun x k => N8.rec (fun _ _ _ _ _ _ _ h => k h) x⟩
theorem s2_eq (i : Nat) (x : N8 (N8 CV)) (k : N8 CV → α) : (s2 i).run x k = k (sel i x) := by
  match i with
  | 0 | 1 | 2 | 3 | 4 | 5 | 6 | 7 => rfl
  | i + 8 => rfl
structure S3 (α : Type u) where
  run : N8 (CV) → (CV → α) → α
noncomputable def s3 (i : Nat) : S3 α := match i with
  | 0 => ⟨fun x k => N8.rec (fun a _ _ _ _ _ _ _ => k a) x⟩
  | 1 => ⟨fun x k => N8.rec (fun _ b _ _ _ _ _ _ => k b) x⟩
  | 2 => ⟨fun x k => N8.rec (fun _ _ c _ _ _ _ _ => k c) x⟩
  | 3 => ⟨fun x k => N8.rec (fun _ _ _ d _ _ _ _ => k d) x⟩
  | 4 => ⟨fun x k => N8.rec (fun _ _ _ _ e _ _ _ => k e) x⟩
  | 5 => ⟨fun x k => N8.rec (fun _ _ _ _ _ f _ _ => k f) x⟩
  | 6 => ⟨fun x k => N8.rec (fun _ _ _ _ _ _ g _ => k g) x⟩
  | _ => ⟨fun x k => N8.rec (fun _ _ _ _ _ _ _ h => k h) x⟩
theorem s3_eq (i : Nat) (x : N8 (CV)) (k : CV → α) : (s3 i).run x k = k (sel i x) := by
  match i with
  | 0 | 1 | 2 | 3 | 4 | 5 | 6 | 7 => rfl
  | i + 8 => rfl
structure M1 (α : Type u) where
  run : (N8 (N8 CV) → (N8 (N8 CV) → α) → α) → N8 (N8 (N8 CV)) → (N8 (N8 (N8 CV)) → α) → α
noncomputable def m1 (i : Nat) : M1 α := match i with
  | 0 => ⟨fun p x k => N8.rec (fun a b c d e f g h => p a fun y => k ⟨y, b, c, d, e, f, g, h⟩) x⟩
  | 1 => ⟨fun p x k => N8.rec (fun a b c d e f g h => p b fun y => k ⟨a, y, c, d, e, f, g, h⟩) x⟩
  | 2 => ⟨fun p x k => N8.rec (fun a b c d e f g h => p c fun y => k ⟨a, b, y, d, e, f, g, h⟩) x⟩
  | 3 => ⟨fun p x k => N8.rec (fun a b c d e f g h => p d fun y => k ⟨a, b, c, y, e, f, g, h⟩) x⟩
  | 4 => ⟨fun p x k => N8.rec (fun a b c d e f g h => p e fun y => k ⟨a, b, c, d, y, f, g, h⟩) x⟩
  | 5 => ⟨fun p x k => N8.rec (fun a b c d e f g h => p f fun y => k ⟨a, b, c, d, e, y, g, h⟩) x⟩
  | 6 => ⟨fun p x k => N8.rec (fun a b c d e f g h => p g fun y => k ⟨a, b, c, d, e, f, y, h⟩) x⟩
  | _ => ⟨fun p x k => N8.rec (fun a b c d e f g h => p h fun y => k ⟨a, b, c, d, e, f, g, y⟩) x⟩
theorem m1_eq (i : Nat) (p : N8 (N8 CV) → (N8 (N8 CV) → α) → α) (q : N8 (N8 CV) → N8 (N8 CV)) (hp : ∀ x k, p x k = k (q x)) (x : N8 (N8 (N8 CV))) (k : N8 (N8 (N8 CV)) → α) : (m1 i).run p x k = k (upS i (q (sel i x)) x) := by
  match i with
  | 0 | 1 | 2 | 3 | 4 | 5 | 6 | 7 => exact hp _ _
  | i + 8 => exact hp _ _
structure M2 (α : Type u) where
  run : (N8 CV → (N8 CV → α) → α) → N8 (N8 CV) → (N8 (N8 CV) → α) → α
noncomputable def m2 (i : Nat) : M2 α := match i with
  | 0 => ⟨fun p x k => N8.rec (fun a b c d e f g h => p a fun y => k ⟨y, b, c, d, e, f, g, h⟩) x⟩
  | 1 => ⟨fun p x k => N8.rec (fun a b c d e f g h => p b fun y => k ⟨a, y, c, d, e, f, g, h⟩) x⟩
  | 2 => ⟨fun p x k => N8.rec (fun a b c d e f g h => p c fun y => k ⟨a, b, y, d, e, f, g, h⟩) x⟩
  | 3 => ⟨fun p x k => N8.rec (fun a b c d e f g h => p d fun y => k ⟨a, b, c, y, e, f, g, h⟩) x⟩
  | 4 => ⟨fun p x k => N8.rec (fun a b c d e f g h => p e fun y => k ⟨a, b, c, d, y, f, g, h⟩) x⟩
  | 5 => ⟨fun p x k => N8.rec (fun a b c d e f g h => p f fun y => k ⟨a, b, c, d, e, y, g, h⟩) x⟩
  | 6 => ⟨fun p x k => N8.rec (fun a b c d e f g h => p g fun y => k ⟨a, b, c, d, e, f, y, h⟩) x⟩
  | _ => ⟨fun p x k => N8.rec (fun a b c d e f g h => p h fun y => k ⟨a, b, c, d, e, f, g, y⟩) x⟩
theorem m2_eq (i : Nat) (p : N8 CV → (N8 CV → α) → α) (q : N8 CV → N8 CV) (hp : ∀ x k, p x k = k (q x)) (x : N8 (N8 CV)) (k : N8 (N8 CV) → α) : (m2 i).run p x k = k (upS i (q (sel i x)) x) := by
  match i with
  | 0 | 1 | 2 | 3 | 4 | 5 | 6 | 7 => exact hp _ _
  | i + 8 => exact hp _ _
structure M3 (α : Type u) where
  run : CV → N8 CV → (N8 CV → α) → α
noncomputable def m3 (i : Nat) : M3 α := match i with
  | 0 => ⟨fun v x k => N8.rec (fun _ b c d e f g h => k ⟨v, b, c, d, e, f, g, h⟩) x⟩
  | 1 => ⟨fun v x k => N8.rec (fun a _ c d e f g h => k ⟨a, v, c, d, e, f, g, h⟩) x⟩
  | 2 => ⟨fun v x k => N8.rec (fun a b _ d e f g h => k ⟨a, b, v, d, e, f, g, h⟩) x⟩
  | 3 => ⟨fun v x k => N8.rec (fun a b c _ e f g h => k ⟨a, b, c, v, e, f, g, h⟩) x⟩
  | 4 => ⟨fun v x k => N8.rec (fun a b c d _ f g h => k ⟨a, b, c, d, v, f, g, h⟩) x⟩
  | 5 => ⟨fun v x k => N8.rec (fun a b c d e _ g h => k ⟨a, b, c, d, e, v, g, h⟩) x⟩
  | 6 => ⟨fun v x k => N8.rec (fun a b c d e f _ h => k ⟨a, b, c, d, e, f, v, h⟩) x⟩
  | _ => ⟨fun v x k => N8.rec (fun a b c d e f g _ => k ⟨a, b, c, d, e, f, g, v⟩) x⟩
theorem m3_eq (i : Nat) (v : CV) (x : N8 CV) (k : N8 CV → α) : (m3 i).run v x k = k (upS i v x) := by
  match i with
  | 0 | 1 | 2 | 3 | 4 | 5 | 6 | 7 => rfl
  | i + 8 => rfl


/-! ### What is worked out once -/
structure Ev (α : Type u) where
  get : Rt → (CV → α) → α
structure Pb (α : Type u) where
  run : CV → Rt → (Rt → Option α) → Option α
structure Bn where
  run : CV → CV → (CV → RO) → RO
structure Un where
  run : CV → St → (CV → RO) → RO
structure Bx where
  run : Rt → St → Nat → (Rt → St → Nat → RO) → RO

noncomputable def getB (n : Nat) : Ev α := match Nat.ble 512 n with
  | true => ⟨fun _ k => k .unk⟩
  | false => ⟨fun r k => (s1 (n / 64)).run r fun y => (s2 (n / 8 % 8)).run y fun z => (s3 (n % 8)).run z k⟩
theorem getB_eq (n : Nat) (r : Rt) (k : CV → α) : (getB n).get r k = k (get n r) := by
  unfold getB get
  cases h : Nat.ble 512 n with
  | true => rw [Nat.ble_eq] at h; rw [if_neg (by omega)]
  | false =>
    have h' : ¬ 512 ≤ n := by rw [← Nat.ble_eq, h]; simp
    rw [if_pos (by omega)]
    show (s1 (n / 64)).run r (fun y => (s2 (n / 8 % 8)).run y fun z => (s3 (n % 8)).run z k) = _
    rw [s1_eq, s2_eq, s3_eq]
noncomputable def evB (x : Operand) : Ev α := match x with
  | .tmp t => getB t
  | .const v => ⟨fun _ k => k (ofVal v)⟩
  | .func f => ⟨fun _ k => k (.fn f [])⟩
  | .global _ => ⟨fun _ k => k .unk⟩
theorem evB_eq (x : Operand) (r : Rt) (k : CV → α) : (evB x).get r k = evK x r k := by cases x <;> first | rfl | exact getB_eq _ _ _
structure Evs (α : Type u) where
  get : Rt → (List CV → α) → α
noncomputable def evLB (xs : List Operand) : Evs α := List.rec ⟨fun _ k => k []⟩ (fun x _ ih => ⟨fun r k => (evB x).get r fun v => ih.get r fun vs => k (v :: vs)⟩) xs
theorem evLB_eq (r : Rt) : ∀ (xs : List Operand) (k : List CV → α), (evLB xs).get r k = evLK xs r k
  | [], _ => rfl
  | x :: xs, k => by
    show (evB x).get r (fun v => (evLB xs).get r fun vs => k (v :: vs)) = evK x r fun v => evLK xs r fun t => k (v :: t)
    rw [evB_eq]
    congr 1
    funext v
    exact evLB_eq r xs _
noncomputable def putB (d : Option Nat) : Pb α := match d with
  | none => ⟨fun _ r k => k r⟩
  | some d => match Nat.ble 512 d with
    | true => ⟨fun _ _ _ => none⟩
    | false => ⟨fun v r k => (m1 (d / 64)).run (fun y k => (m2 (d / 8 % 8)).run (fun z k => (m3 (d % 8)).run v z k) y k) r k⟩
theorem putB_eq (d : Option Nat) (v : CV) (r : Rt) (k : Rt → Option α) : (putB d).run v r k = putK d v r k := by
  cases d with
  | none => rfl
  | some d =>
    cases h : Nat.ble 512 d with
    | true => simp only [putB, putK, setK, h, cond_true]
    | false =>
      have e : (putB (some d)).run v r k = (m1 (d / 64)).run (fun y k => (m2 (d / 8 % 8)).run (fun z k => (m3 (d % 8)).run v z k) y k) r k := by simp only [putB, h]
      have e2 : putK (some d) v r k = k (set d v r) := by simp only [putK, setK, h, cond_false]
      rw [e, e2, m1_eq _ _ (fun y => upS (d / 8 % 8) (upS (d % 8) v (sel (d / 8 % 8) y)) y) (fun y k => by rw [m2_eq _ _ (fun z => upS (d % 8) v z) (fun z k => m3_eq _ _ _ _)])]
      rfl

/-! ### Numbers -/
noncomputable def add64 (x y : Int) (K : CV → RO) : RO :=
  Int.rec (fun a => Int.rec (fun b => fN (Nat.add a b) fun n => bif Nat.ble 9223372036854775808 n then addK .i64 x y K else K (.int .i64 (.ofNat n))) (fun _ => addK .i64 x y K) y) (fun _ => addK .i64 x y K) x
theorem add64_eq (x y : Int) (K : CV → RO) : add64 x y K = addK .i64 x y K := by
  unfold add64
  cases x with
  | negSucc => rfl
  | ofNat a =>
    cases y with
    | negSucc => rfl
    | ofNat b =>
      simp only [fN_eq]
      cases h : Nat.ble 9223372036854775808 (Nat.add a b) with
      | true => rfl
      | false =>
        have h' : ¬ 9223372036854775808 ≤ Nat.add a b := by rw [← Nat.ble_eq, h]; simp
        simp only [cond_false, addK, frcI_eq]
        congr 2
        show _ = wrapN .i64 (a + b)
        unfold wrapN
        rw [blt_iff.2 (show a + b < ikM .i64 by have : a + b < 9223372036854775808 := Nat.lt_of_not_le h'; exact this)]
        rfl
noncomputable def i2 (f : Int → Int → (CV → RO) → RO) : Bn := ⟨fun x y K => onI64 x fun a => onI64 y fun b => f a b K⟩
noncomputable def int2 (f : IntKind → Int → Int → (CV → RO) → RO) : Bn :=
  ⟨fun x y K => onInt x fun k a => onInt y fun k' b => bif Nat.beq (ikCode k) (ikCode k') then f k a b K else none⟩
noncomputable def int2s (f : IntKind → Int → Int → (CV → RO) → RO) : Bn := ⟨fun x y K => onInt x fun k a => onInt y fun _ b => f k a b K⟩
noncomputable def int64B (slow : Bn) (op : BinOp) : Bn := match op with
  | .add => i2 add64
  | .sub => i2 (subK .i64)
  | .mul => i2 (mulK .i64)
  | .eql => i2 eqlK
  | .neq => i2 neqK
  | .lss => i2 lssK
  | .leq => i2 leqK
  | .gtr => i2 fun a b => lssK b a
  | .geq => i2 fun a b => leqK b a
  | _ => slow
noncomputable def intB (slow : Bn) (op : BinOp) : Bn := match op with
  | .add => int2 addK
  | .sub => int2 subK
  | .mul => int2 mulK
  | .and => int2 andK
  | .or => int2 orK
  | .shl => int2s shlK
  | .shr => int2s shrK
  | .eql => int2 fun _ => eqlK
  | .neq => int2 fun _ => neqK
  | .lss => int2 fun _ => lssK
  | .leq => int2 fun _ => leqK
  | .gtr => int2 fun _ a b => lssK b a
  | .geq => int2 fun _ a b => leqK b a
  | _ => slow
noncomputable def binB' (C : Ctx) (op : BinOp) (T : Nat) : Bn := match C.ty T with
  | some d => match d.sh with
    | .int .i64 => int64B (intB ⟨fun x y K => binK C op T x y K⟩ op) op
    | .int _ => intB ⟨fun x y K => binK C op T x y K⟩ op
    | _ => ⟨fun x y K => binK C op T x y K⟩
  | none => ⟨fun x y K => binK C op T x y K⟩
theorem i2_ref {f : Int → Int → (CV → RO) → RO} {x y : CV} {K : CV → RO} {q : Out} (h : (i2 f).run x y K = some q) : ∃ a b, x = .int .i64 a ∧ y = .int .i64 b ∧ f a b K = some q := by
  cases x <;> first | (cases h; done) | skip
  next k a =>
    cases k <;> first | (cases h; done) | skip
    cases y <;> first | (cases h; done) | skip
    next k' b =>
      cases k' <;> first | (cases h; done) | exact ⟨_, _, rfl, rfl, h⟩
theorem int2_ref {f : IntKind → Int → Int → (CV → RO) → RO} {x y : CV} {K : CV → RO} {q : Out} (h : (int2 f).run x y K = some q) : ∃ k a b, x = .int k a ∧ y = .int k b ∧ f k a b K = some q := by
  cases x <;> first | (cases h; done) | skip
  cases y <;> first | (cases h; done) | skip
  next k a k' b =>
    have h9 : (bif Nat.beq (ikCode k) (ikCode k') then f k a b K else none) = some q := h
    clear h
    rw [beq_if] at h9
    split at h9
    · next e => have := ikCode_inj e; subst this; exact ⟨_, _, _, rfl, rfl, h9⟩
    · cases h9
theorem int2s_ref {f : IntKind → Int → Int → (CV → RO) → RO} {x y : CV} {K : CV → RO} {q : Out} (h : (int2s f).run x y K = some q) : ∃ k a k' b, x = .int k a ∧ y = .int k' b ∧ f k a b K = some q := by
  cases x <;> first | (cases h; done) | skip
  cases y <;> first | (cases h; done) | skip
  exact ⟨_, _, _, _, rfl, rfl, h⟩
theorem beqc (k : IntKind) : Nat.beq (ikCode k) (ikCode k) = true := beq_iff.2 rfl
theorem intB_ref {op : BinOp} {T : Nat} {x y : CV} {K : CV → RO} {q : Out} (h : (intB ⟨fun x y K => binK C op T x y K⟩ op).run x y K = some q) : binK C op T x y K = some q := by
  cases op <;> simp only [intB] at h <;> first
    | exact h
    | (obtain ⟨k, a, b, rfl, rfl, h9⟩ := int2_ref h; simp only [binK, intYK, isSh, beqc, cond_true, cond_false, intK]; exact h9)
    | (obtain ⟨k, a, k', b, rfl, rfl, h9⟩ := int2s_ref h; simp only [binK, intYK, isSh, cond_true, intK]; exact h9)
theorem binB_ref {op : BinOp} {T : Nat} {x y : CV} {K : CV → RO} {q : Out} (h : (binB' C op T).run x y K = some q) : binK C op T x y K = some q := by
  unfold binB' at h
  split at h
  · split at h
    · unfold int64B at h
      split at h <;> first
        | exact intB_ref h
        | (obtain ⟨a, b, rfl, rfl, h9⟩ := i2_ref h; rw [add64_eq] at h9; simp only [binK, intYK, isSh, beqc, cond_true, cond_false, intK]; exact h9)
        | (obtain ⟨a, b, rfl, rfl, h9⟩ := i2_ref h; simp only [binK, intYK, isSh, beqc, cond_true, cond_false, intK]; exact h9)
    · exact intB_ref h
    · exact h
  · exact h

/-! ### Loads -/
noncomputable def fLook (g : Nat) (k : Ent → RO) (t : St) : RO := List.rec none (fun x _ ih => Prod.rec (fun h e => bif Nat.beq g h then k e else ih) x) t
theorem fLook_eq (g : Nat) (k : Ent → RO) (t : St) : fLook g k t = lookK g k t := rfl
noncomputable def fDrop (n : Nat) {γ : Type} (l : List γ) (k : List γ → RO) : RO := bif Nat.beq n 0 then k l else dropK n l k
theorem fDrop_eq {γ : Type} (n : Nat) (l : List γ) (k : List γ → RO) : fDrop n l k = dropK n l k := by
  unfold fDrop
  rw [beq_if]
  split
  · next h => subst h; rfl
  · rfl
noncomputable def part1 (cs : List CV) (K : CV → RO) : RO := List.rec none (fun x _ _ => K x) cs
noncomputable def part1T (cs : List CT) (K : CV → RO) : RO := List.rec none (fun x _ _ => toCVK x K) cs
noncomputable def onBox (e : Ent) (k : List CV → RO) : RO := Ent.rec (fun _ _ _ _ => none) (fun cs _ => k cs) e
noncomputable def onRow (e : Ent) (k : Nat → List (List CT) → RO) : RO := Ent.rec (fun n _ l _ => k n l) (fun _ _ => none) e
noncomputable def loadP (pk : List CV → (CV → RO) → RO) (pt : List CT → (CV → RO) → RO) : Un :=
  ⟨fun x t K => onAd x (fun g off => fLook g (fun e => onBox e fun cs => fDrop off cs fun cs => pk cs K) t)
    (fun g n i off => fLook g (fun e => onRow e fun m l => bif Nat.beq m n then nthX i l fun row => fDrop off row fun row => pt row K else none) t) (fun cells => pt cells K)⟩
noncomputable def loadU (C : Ctx) (T : Nat) : Un := match C.ty T with
  | some d => match d.agg with
    | true => loadP (fun cs K => takeX d.size cs fun l => K (.agg l)) (fun cs K => takeX d.size cs fun l => toCVsK l fun l => K (.agg l))
    | false => loadP part1 part1T
  | none => ⟨fun _ _ _ => none⟩
theorem lookK_congr {g : Nat} {f f' : Ent → RO} {t : St} (h : ∀ e, f e = f' e) : lookK g f t = lookK g f' t := by
  rw [lookK_eq, lookK_eq]; congr 1; exact funext h
theorem loadP_ref {d : TyD} {T : Nat} (hd : C.ty T = some d) {x : CV} {t : St} {K : CV → RO} {q : Out} (h : (loadP (partK d) (partT d)).run x t K = some q) : loadK C T x t K = some q := by
  unfold loadK
  rw [hd]
  cases x <;> first | (cases h; done) | skip
  · exact (lookK_congr fun e => by cases e <;> first | rfl | exact (fDrop_eq _ _ _).symm).trans h
  · refine (lookK_congr fun e => ?_).trans h
    cases e with
    | row => simp only [onRow, fDrop_eq]
    | box => rfl
  · exact h
theorem loadU_ref {T : Nat} {x : CV} {t : St} {K : CV → RO} {q : Out} (h : (loadU C T).run x t K = some q) : loadK C T x t K = some q := by
  unfold loadU at h
  split at h
  · next d hd =>
    cases ha : d.agg with
    | true =>
      rw [ha] at h
      refine loadP_ref hd ?_
      have e1 : (partK d : List CV → (CV → RO) → RO) = fun cs K => takeX d.size cs fun l => K (.agg l) := by funext cs K; unfold partK; rw [ha]; rfl
      have e2 : (partT d : List CT → (CV → RO) → RO) = fun cs K => takeX d.size cs fun l => toCVsK l fun l => K (.agg l) := by funext cs K; unfold partT; rw [ha]; rfl
      rw [e1, e2]; exact h
    | false =>
      rw [ha] at h
      refine loadP_ref hd ?_
      have e1 : (partK d : List CV → (CV → RO) → RO) = part1 := by funext cs K; unfold partK; rw [ha]; rfl
      have e2 : (partT d : List CT → (CV → RO) → RO) = part1T := by funext cs K; unfold partT; rw [ha]; rfl
      rw [e1, e2]; exact h
  · cases h

/-! ### Addresses -/
noncomputable def fadU (i : Option (TyD × Nat)) : Un := match i with
  | some (dt, o) => match Nat.beq dt.size 0 with
    | true => ⟨fun _ _ _ => none⟩
    | false => ⟨fun x _ K => onAd x (fun g off => fN (Nat.add off o) fun off => K (.ptr g off)) (fun g n k off => fN (Nat.add off o) fun off => K (.eptr g n k off)) (fun cells => dropK o cells fun cells => K (.imm cells))⟩
  | none => ⟨fun _ _ _ => none⟩
theorem fadU_ref {i : Option (TyD × Nat)} {x : CV} {t : St} {K : CV → RO} {q : Out} (h : (fadU i).run x t K = some q) : fadK i x K = some q := by
  unfold fadU at h
  unfold fadK
  split at h
  · next dt o =>
    cases hz : Nat.beq dt.size 0 with
    | true => rw [hz] at h; cases h
    | false =>
      rw [hz] at h
      simp only [hz, cond_false]
      cases x <;> first | exact h | (cases h; done)
  · cases h
noncomputable def natF (v : CV) (k : Nat → RO) : RO := onInt v fun _ n => Int.rec (fun n => k n) (fun _ => none) n
theorem natF_ref {v : CV} {k : Nat → RO} {q : Out} (h : natF v k = some q) : natK v k = some q := by cases v <;> first | exact h | (cases h; done)
noncomputable def idxU (C : Ctx) (T : Nat) : Bn := match slI C T with
  | some m => ⟨fun x i K => natF i fun i => onSl x (fun g n off len => bif Nat.beq m n then (bif Nat.blt i len then fN (Nat.add off i) fun j => K (.eptr g n j 0) else none) else none) (fun c => idxS m (.t c) i K)⟩
  | none => match arI C T with
    | some (m, de) => ⟨fun x i K => natF i fun i => bif Nat.blt i m then onAd x (fun g off => fN (Nat.add off (Nat.mul i de.size)) fun o => K (.ptr g o)) (fun g n k off => fN (Nat.add off (Nat.mul i de.size)) fun o => K (.eptr g n k o)) (fun cells => dropK (Nat.mul i de.size) cells fun cells => K (.imm cells)) else none⟩
    | none => ⟨fun _ _ _ => none⟩
theorem natK_congr {v : CV} {k k' : Nat → RO} {q : Out} (h : natK v k = some q) (hk : ∀ n, k n = some q → k' n = some q) : natK v k' = some q := by
  unfold natK at h ⊢
  split at h
  · next n => cases n with
    | ofNat n => exact hk n h
    | negSucc n => cases h
  · cases h
theorem idxU_ref {T : Nat} {x i : CV} {K : CV → RO} {q : Out} (h : (idxU C T).run x i K = some q) : idxK C T x i K = some q := by
  unfold idxU at h
  unfold idxK
  split at h
  · next m hm =>
    refine natK_congr (natF_ref h) fun n hn => ?_
    rw [hm]
    cases x <;> first | exact hn | (cases hn; done)
  · next hm =>
    split at h
    · next m de ha =>
      refine natK_congr (natF_ref h) fun n hn => ?_
      rw [hm]
      simp only [idxA, ha]
      cases hb : Nat.blt n m with
      | false => rw [hb] at hn; cases hn
      | true =>
        rw [hb] at hn
        cases x <;> first | exact hn | (cases hn; done)
    · cases h

noncomputable def lenU (C : Ctx) (T : Nat) : Un := match C.ty T with
  | some d => match d.sh with
    | .slice e => ⟨fun x _ K => onSl x (fun _ _ _ len => K (.int .i64 (.ofNat len))) (fun c => lenS (C.ty T) (.t c) K)⟩
    | _ => ⟨fun x _ K => lenS (C.ty T) x K⟩
  | none => ⟨fun _ _ _ => none⟩
theorem lenU_ref {T : Nat} {x : CV} {t : St} {K : CV → RO} {q : Out} (h : (lenU C T).run x t K = some q) : lenS (C.ty T) x K = some q := by
  unfold lenU at h
  split at h
  · next d hd =>
    split at h
    · next e hs =>
      cases x <;> first | (cases h; done) | skip
      · exact h
      · rw [hd]; unfold lenS; simp only [hs]; exact h
    · exact h
  · cases h
/-! ### One operation -/
noncomputable def un1 (u : Un) (x : Operand) (dst : Option Nat) : Bx := ⟨fun r t nx k => (evB x).get r fun x => u.run x t fun v => (putB dst).run v r fun r => k r t nx⟩
noncomputable def bn1 (b : Bn) (x y : Operand) (dst : Option Nat) : Bx := ⟨fun r t nx k => (evB x).get r fun x => (evB y).get r fun y => b.run x y fun v => (putB dst).run v r fun r => k r t nx⟩
noncomputable def slowB (C : Ctx) (O : Orc) (o : GOp) : Bx := ⟨fun r t nx k => stepK C O o r t nx k⟩
noncomputable def freeB (C : Ctx) (O : Orc) (dst : Option Nat) (op : Op) : Bx := match op with
  | .move x => ⟨fun r t nx k => (evB x).get r fun v => (putB dst).run v r fun r => k r t nx⟩
  | .assign x => ⟨fun r t nx k => (evB x).get r fun v => (putB dst).run v r fun r => k r t nx⟩
  | .binOp op T x y _ => bn1 (binB' C op T) x y dst
  | .load T a => un1 (loadU C T) a dst
  | .fieldAddr T x f => un1 (fadU (fldI C T f)) x dst
  | .indexAddr T x i => bn1 (idxU C T) x i dst
  | .nilCheck x => ⟨fun r t nx k => (evB x).get r fun x => nilcK x fun v => (putB dst).run v r fun r => k r t nx⟩
  | .extract x i => ⟨fun r t nx k => (evB x).get r fun x => extK x i fun v => (putB dst).run v r fun r => k r t nx⟩
  | .convert a b x => ⟨fun r t nx k => (evB x).get r fun x => convK C a b x t nx fun v t nx => (putB dst).run v r fun r => k r t nx⟩
  | .store T a v => match dst with
    | none => ⟨fun r t nx k => (evB a).get r fun a => (evB v).get r fun v => storeK C T a v t fun t => k r t nx⟩
    | some _ => ⟨fun _ _ _ _ => none⟩
  | .call c => match c.callee with
    | .builtin .len => match c.argTypes.toList, c.args.toList with
      | T :: _, [x] => un1 (lenU C T) x dst
      | _, _ => ⟨fun _ _ _ _ => none⟩
    | .value (.func f) => match O.kind f with
      | .gen => ⟨fun r t nx k => (evLB c.args.toList).get r fun as => genK O f as t nx fun v t nx => (putB dst).run v r fun r => k r t nx⟩
      | .scal => ⟨fun r t nx k => (evLB c.args.toList).get r fun as => scalK O f as t fun v => (putB dst).run v r fun r => k r t nx⟩
      | .pure => ⟨fun r t nx k => (evLB c.args.toList).get r fun as => pureK O f as t nx fun v t nx => (putB dst).run v r fun r => k r t nx⟩
      | .no => ⟨fun _ _ _ _ => none⟩
    | .builtin .append => match c.argTypes.toList, c.args.toList with
      | [T, T'], [x, y] => match Nat.beq T T' with
        | true => ⟨fun r t nx k => (evB x).get r fun x => (evB y).get r fun y => appendK C T x y t nx fun v t nx => (putB dst).run v r fun r => k r t nx⟩
        | false => ⟨fun _ _ _ _ => none⟩
      | _, _ => ⟨fun _ _ _ _ => none⟩
    | .value (.tmp h) => ⟨fun r t nx k => (getB h).get r fun h => (evLB c.args.toList).get r fun as => callOp O h as t nx fun v t nx => (putB dst).run v r fun r => k r t nx⟩
    | _ => slowB C O ⟨dst, none, .call c⟩
  | .alloc T => ⟨fun r t nx k => allocK (C.ty T) t nx fun v t nx => (putB dst).run v r fun r => k r t nx⟩
  | .box _ x => ⟨fun r t nx k => (evB x).get r fun x => boxK x t nx fun v t nx => (putB dst).run v r fun r => k r t nx⟩
  | .unOp op _ x => ⟨fun r t nx k => (evB x).get r fun x => unK op x fun v => (putB dst).run v r fun r => k r t nx⟩
  | .pick c a b => ⟨fun r t nx k => (evB c).get r fun c => (evB a).get r fun a => (evB b).get r fun b => pickK c a b fun v => (putB dst).run v r fun r => k r t nx⟩
  | .field T x f => ⟨fun r t nx k => (evB x).get r fun x => fieldK (fldI C T f) x fun v => (putB dst).run v r fun r => k r t nx⟩
  | .index T x i => ⟨fun r t nx k => (evB x).get r fun x => (evB i).get r fun i => indexK C T x i fun v => (putB dst).run v r fun r => k r t nx⟩
  | .slice T x lo hi mx => ⟨fun r t nx k => (evB x).get r fun x => sliceK C T x lo hi mx r fun v => (putB dst).run v r fun r => k r t nx⟩
  | .build T ps => ⟨fun r t nx k => buildK C T ps r fun v => (putB dst).run v r fun r => k r t nx⟩
  | .buildSlice T n ps => ⟨fun r t nx k => bslK C T n ps r t nx fun v t nx => (putB dst).run v r fun r => k r t nx⟩
  | .makeSlice T l c => ⟨fun r t nx k => (evB l).get r fun l => (evB c).get r fun c => mslK C T l c t nx fun v t nx => (putB dst).run v r fun r => k r t nx⟩
  | .makeFunc fn first caps => match fn, first.toList with
    | .func f, [] => ⟨fun r t nx k => (evLB caps.toList).get r fun cs => allOneX cs ((putB dst).run (.fn f cs) r fun r => k r t nx)⟩
    | _, _ => ⟨fun _ _ _ _ => none⟩
  | op => slowB C O ⟨dst, none, op⟩
theorem un1_ref {u : Un} {x : Operand} {dst : Option Nat} {r : Rt} {t : St} {nx : Nat} {k : Rt → St → Nat → RO} {q : Out} (h : (un1 u x dst).run r t nx k = some q) : u.run (evC r x) t (fun v => putK dst v r fun r => k r t nx) = some q := by
  have h : (evB x).get r (fun x => u.run x t fun v => (putB dst).run v r fun r => k r t nx) = some q := h
  rw [evB_eq, evK_eq] at h
  simp only [putB_eq] at h
  exact h
theorem bn1_ref {b : Bn} {x y : Operand} {dst : Option Nat} {r : Rt} {t : St} {nx : Nat} {k : Rt → St → Nat → RO} {q : Out} (h : (bn1 b x y dst).run r t nx k = some q) : b.run (evC r x) (evC r y) (fun v => putK dst v r fun r => k r t nx) = some q := by
  have h : (evB x).get r (fun x => (evB y).get r fun y => b.run x y fun v => (putB dst).run v r fun r => k r t nx) = some q := h
  rw [evB_eq, evK_eq, evB_eq, evK_eq] at h
  simp only [putB_eq] at h
  exact h

theorem freeB_ref {O : Orc} {dst : Option Nat} {op : Op} {r : Rt} {t : St} {nx : Nat} {k : Rt → St → Nat → RO} {q : Out} (h : (freeB C O dst op).run r t nx k = some q) : stepK C O ⟨dst, none, op⟩ r t nx k = some q := by
  unfold freeB at h
  split at h
  · next x =>
    have h : (evB x).get r (fun v => (putB dst).run v r fun r => k r t nx) = some q := h
    rw [evB_eq] at h
    simp only [putB_eq] at h
    exact h
  · next x =>
    have h : (evB x).get r (fun v => (putB dst).run v r fun r => k r t nx) = some q := h
    rw [evB_eq] at h
    simp only [putB_eq] at h
    exact h
  · next op T x y T' =>
    have h := binB_ref (bn1_ref h)
    show evK x r (fun x => evK y r fun y => binK C op T x y fun v => putK dst v r fun r => k r t nx) = some q
    rw [evK_eq, evK_eq]; exact h
  · next T a =>
    have h := loadU_ref (un1_ref h)
    show evK a r (fun a => loadK C T a t fun v => putK dst v r fun r => k r t nx) = some q
    rw [evK_eq]; exact h
  · next T x f =>
    have h := fadU_ref (un1_ref h)
    show evK x r (fun x => fadK (fldI C T f) x fun v => putK dst v r fun r => k r t nx) = some q
    rw [evK_eq]; exact h
  · next T x i =>
    have h := idxU_ref (bn1_ref h)
    show evK x r (fun x => evK i r fun i => idxK C T x i fun v => putK dst v r fun r => k r t nx) = some q
    rw [evK_eq, evK_eq]; exact h
  · next x =>
    have h : (evB x).get r (fun x => nilcK x fun v => (putB dst).run v r fun r => k r t nx) = some q := h
    rw [evB_eq] at h
    simp only [putB_eq] at h
    exact h
  · next x i =>
    have h : (evB x).get r (fun x => extK x i fun v => (putB dst).run v r fun r => k r t nx) = some q := h
    rw [evB_eq] at h
    simp only [putB_eq] at h
    exact h
  · next a b x =>
    have h : (evB x).get r (fun x => convK C a b x t nx fun v t nx => (putB dst).run v r fun r => k r t nx) = some q := h
    rw [evB_eq] at h
    simp only [putB_eq] at h
    exact h
  · next T a v =>
    split at h
    · have h : (evB a).get r (fun a => (evB v).get r fun v => storeK C T a v t fun t => k r t nx) = some q := h
      simp only [evB_eq] at h
      exact h
    · cases h
  · next c =>
    obtain ⟨callee, args, argTypes⟩ := c
    dsimp only at h
    split at h
    · split at h
      · next T _ x h1 h2 =>
        have h := lenU_ref (un1_ref h)
        show biV C ⟨.builtin .len, args, argTypes⟩ r (fun v => putK dst v r fun r => k r t nx) .len = some q
        simp only [biV, h1, h2]
        rw [evK_eq]; exact h
      · cases h
    · next f =>
      cases hk : O.kind f with
      | gen =>
        rw [hk] at h
        have h : (evLB args.toList).get r (fun as => genK O f as t nx fun v t nx => (putB dst).run v r fun r => k r t nx) = some q := h
        simp only [putB_eq, evLB_eq] at h
        show (match O.kind f with
          | .gen => genC O f dst args.toList r r t nx k
          | _ => _) = some q
        rw [hk]; exact h
      | scal =>
        rw [hk] at h
        have h : (evLB args.toList).get r (fun as => scalK O f as t fun v => (putB dst).run v r fun r => k r t nx) = some q := h
        simp only [putB_eq, evLB_eq] at h
        rw [evLK_eq] at h
        show (match O.kind f with
          | .gen => genC O f dst args.toList r r t nx k
          | _ => evLK args.toList r fun as => callOp O (.fn f []) as t nx fun v t nx => putK dst v r fun r => k r t nx) = some q
        rw [hk]
        simp only []
        rw [evLK_eq]
        unfold callOp
        dsimp only
        rw [appK_eq, List.append_nil, hk]
        exact h
      | pure =>
        rw [hk] at h
        have h : (evLB args.toList).get r (fun as => pureK O f as t nx fun v t nx => (putB dst).run v r fun r => k r t nx) = some q := h
        simp only [putB_eq, evLB_eq] at h
        rw [evLK_eq] at h
        show (match O.kind f with
          | .gen => genC O f dst args.toList r r t nx k
          | _ => evLK args.toList r fun as => callOp O (.fn f []) as t nx fun v t nx => putK dst v r fun r => k r t nx) = some q
        rw [hk]
        simp only []
        rw [evLK_eq]
        unfold callOp
        dsimp only
        rw [appK_eq, List.append_nil, hk]
        exact h
      | no => rw [hk] at h; cases h
    · split at h
      · next T T' x y h1 h2 =>
        show appC C dst argTypes.toList args.toList r r t nx k = some q
        rw [h1, h2]
        cases hb : Nat.beq T T' with
        | false => rw [hb] at h; cases h
        | true =>
          rw [hb] at h
          have h : (evB x).get r (fun x => (evB y).get r fun y => appendK C T x y t nx fun v t nx => (putB dst).run v r fun r => k r t nx) = some q := h
          simp only [putB_eq, evB_eq] at h
          simp only [appC, hb, cond_true]
          exact h
      · cases h
    · next hh =>
      have h : (getB hh).get r (fun h => (evLB args.toList).get r fun as => callOp O h as t nx fun v t nx => (putB dst).run v r fun r => k r t nx) = some q := h
      simp only [putB_eq, evLB_eq, getB_eq] at h
      show evK (.tmp hh) r (fun h => evLK args.toList r fun as => callOp O h as t nx fun v t nx => putK dst v r fun r => k r t nx) = some q
      rw [evK_eq]
      exact h
    · exact h
  · next T =>
    have h : allocK (C.ty T) t nx (fun v t nx => (putB dst).run v r fun r => k r t nx) = some q := h
    simp only [putB_eq] at h
    exact h
  · next T x =>
    have h : (evB x).get r (fun x => boxK x t nx fun v t nx => (putB dst).run v r fun r => k r t nx) = some q := h
    simp only [putB_eq, evB_eq] at h
    exact h
  · next op T x =>
    have h : (evB x).get r (fun x => unK op x fun v => (putB dst).run v r fun r => k r t nx) = some q := h
    simp only [putB_eq, evB_eq] at h
    exact h
  · next c a b =>
    have h : (evB c).get r (fun c => (evB a).get r fun a => (evB b).get r fun b => pickK c a b fun v => (putB dst).run v r fun r => k r t nx) = some q := h
    simp only [putB_eq, evB_eq] at h
    exact h
  · next T x f =>
    have h : (evB x).get r (fun x => fieldK (fldI C T f) x fun v => (putB dst).run v r fun r => k r t nx) = some q := h
    simp only [putB_eq, evB_eq] at h
    exact h
  · next T x i =>
    have h : (evB x).get r (fun x => (evB i).get r fun i => indexK C T x i fun v => (putB dst).run v r fun r => k r t nx) = some q := h
    simp only [putB_eq, evB_eq] at h
    exact h
  · next T x lo hi mx =>
    have h : (evB x).get r (fun x => sliceK C T x lo hi mx r fun v => (putB dst).run v r fun r => k r t nx) = some q := h
    simp only [putB_eq, evB_eq] at h
    exact h
  · next T ps =>
    have h : buildK C T ps r (fun v => (putB dst).run v r fun r => k r t nx) = some q := h
    simp only [putB_eq] at h
    exact h
  · next T n ps =>
    have h : bslK C T n ps r t nx (fun v t nx => (putB dst).run v r fun r => k r t nx) = some q := h
    simp only [putB_eq] at h
    exact h
  · next T l c =>
    have h : (evB l).get r (fun l => (evB c).get r fun c => mslK C T l c t nx fun v t nx => (putB dst).run v r fun r => k r t nx) = some q := h
    simp only [putB_eq, evB_eq] at h
    exact h
  · next fn first caps =>
    split at h
    · next f h1 =>
      have h : (evLB caps.toList).get r (fun cs => allOneX cs ((putB dst).run (.fn f cs) r fun r => k r t nx)) = some q := h
      simp only [putB_eq, evLB_eq] at h
      show mkfK (.func f) first.toList caps r (fun v => putK dst v r fun r => k r t nx) = some q
      rw [h1]
      exact h
    · cases h
  · exact h

/-! ### Under a guard -/
noncomputable def onOpt (v : CV) (t : CV → RO) (f e : RO) : RO :=
  CV.rec (motive_1 := fun _ => RO) (motive_2 := fun _ => PUnit) (fun _ _ => e) (fun _ => e) (fun _ _ => e) (fun _ => e) (fun _ _ _ _ => e) (fun _ _ => e) (fun _ _ _ _ => e) (fun _ => e) (fun _ _ _ => e) (fun _ _ => e) (fun _ _ => e) (fun b w _ => Bool.rec f (t w) b) e PUnit.unit (fun _ _ _ _ => PUnit.unit) v
noncomputable def onWant (want : Bool) (v : CV) (k : Bool → RO) : RO :=
  CV.rec (motive_1 := fun _ => RO) (motive_2 := fun _ => PUnit) (fun _ _ => none) (fun b => k (bif want then b else !b)) (fun _ _ => none) (fun _ => none) (fun _ _ _ _ => none) (fun _ _ => none) (fun _ _ _ _ => none) (fun _ => none) (fun _ _ _ => none) (fun _ _ => none) (fun _ _ => none)
    (fun c v _ => Bool.rec (k false) (onBool v fun b => k (bif want then b else !b)) c) none PUnit.unit (fun _ _ _ _ => PUnit.unit) v
theorem onWant_ref {want : Bool} {v : CV} {k : Bool → RO} {q : Out} (h : onWant want v k = some q) : wantK want v k = some q := by
  cases v with
  | bool b => exact h
  | opt c w =>
    cases c with
    | false =>
      have h : k false = some q := h
      cases w <;> exact h
    | true =>
      have h : onBool w (fun b => k (bif want then b else !b)) = some q := h
      cases w <;> first
        | exact h
        | (cases h; done)
  | _ => cases h
theorem wantK_mono {want : Bool} {v : CV} {k k' : Bool → RO} {q : Out} (h : wantK want v k = some q) (hk : ∀ b, k b = some q → k' b = some q) : wantK want v k' = some q := by
  cases v with
  | bool b => exact hk _ h
  | opt c w => cases w <;> cases c <;> first | exact hk _ h | (cases h; done)
  | _ => cases h
structure Sb where
  run : Rt → (Rt → RO) → RO
noncomputable def stripB (xs : List Operand) : Sb := List.rec ⟨fun r k => k r⟩ (fun x _ ih => match x with
  | .tmp n => ⟨fun r k => (getB n).get r fun v => onOpt v (fun w => plainK w ((putB (some n)).run w r fun r => ih.run r k)) none (ih.run r k)⟩
  | _ => ih) xs
theorem stripB_ref : ∀ {xs : List Operand} {r : Rt} {k : Rt → RO} {q : Out}, (stripB xs).run r k = some q → stripK xs r k = some q
  | [], r, k, q, h => h
  | x :: xs, r, k, q, h => by
    cases x with
    | tmp n =>
      have h : (getB n).get r (fun v => onOpt v (fun w => plainK w ((putB (some n)).run w r fun r => (stripB xs).run r k)) none ((stripB xs).run r k)) = some q := h
      rw [getB_eq] at h
      show getK (pth n) r (fun v => (match v with
        | .opt true w => plainK w (setK (pth n) w r fun r => stripK xs r k)
        | .opt false _ => none
        | _ => stripK xs r k)) = some q
      rw [getK_eq]
      generalize get n r = v at h ⊢
      cases v with
      | opt c w =>
        cases c with
        | false => cases h
        | true =>
          have h : plainK w ((putB (some n)).run w r fun r => (stripB xs).run r k) = some q := h
          show plainK w (setK (pth n) w r fun r => stripK xs r k) = some q
          rw [putB_eq] at h
          unfold plainK at h ⊢
          split at h
          · cases h
          · next hne =>
            have h : setK (pth n) w r (fun r => (stripB xs).run r k) = some q := h
            obtain ⟨h1, h2⟩ := setK_some h
            have h3 := stripB_ref h2
            unfold setK
            have hb : Nat.ble 512 n = false := by rw [← Bool.not_eq_true, Nat.ble_eq]; exact Nat.not_le.2 h1
            rw [hb]; exact h3
      | _ => exact stripB_ref h
    | _ => exact stripB_ref (xs := xs) h
structure Gx where
  run : Rt → Rt → St → Nat → (Rt → St → Nat → RO) → RO
noncomputable def gun1 (u : Un) (x : Operand) (dst : Option Nat) : Gx := ⟨fun r' r t nx k => (evB x).get r' fun x => u.run x t fun v => (putB dst).run (.opt true v) r fun r => k r t nx⟩
noncomputable def gbn1 (b : Bn) (x y : Operand) (dst : Option Nat) : Gx := ⟨fun r' r t nx k => (evB x).get r' fun x => (evB y).get r' fun y => b.run x y fun v => (putB dst).run (.opt true v) r fun r => k r t nx⟩
noncomputable def gateB (C : Ctx) (O : Orc) (dst : Option Nat) (op : Op) : Gx := match op with
  | .move x => ⟨fun r' r t nx k => (evB x).get r' fun v => (putB dst).run (.opt true v) r fun r => k r t nx⟩
  | .binOp op T x y _ => gbn1 (binB' C op T) x y dst
  | .load T a => gun1 (loadU C T) a dst
  | .fieldAddr T x f => gun1 (fadU (fldI C T f)) x dst
  | .indexAddr T x i => gbn1 (idxU C T) x i dst
  | .nilCheck x => ⟨fun r' r t nx k => (evB x).get r' fun x => nilcK x fun v => (putB dst).run (.opt true v) r fun r => k r t nx⟩
  | .unOp op _ x => ⟨fun r' r t nx k => (evB x).get r' fun x => unK op x fun v => (putB dst).run (.opt true v) r fun r => k r t nx⟩
  | .field T x f => ⟨fun r' r t nx k => (evB x).get r' fun x => fieldK (fldI C T f) x fun v => (putB dst).run (.opt true v) r fun r => k r t nx⟩
  | .index T x i => ⟨fun r' r t nx k => (evB x).get r' fun x => (evB i).get r' fun i => indexK C T x i fun v => (putB dst).run (.opt true v) r fun r => k r t nx⟩
  | o => ⟨fun r' r t nx k => barC C O o dst r' r t nx k (gK C O o r' t nx fun v t nx => putK dst (.opt true v) r fun r => k r t nx)⟩
theorem gateB_ref {O : Orc} {dst : Option Nat} {op : Op} {r' r : Rt} {t : St} {nx : Nat} {k : Rt → St → Nat → RO} {q : Out} (h : (gateB C O dst op).run r' r t nx k = some q) :
    barC C O op dst r' r t nx k (gK C O op r' t nx fun v t nx => putK dst (.opt true v) r fun r => k r t nx) = some q := by
  unfold gateB at h
  split at h
  · next x =>
    have h : (evB x).get r' (fun v => (putB dst).run (.opt true v) r fun r => k r t nx) = some q := h
    simp only [evB_eq, putB_eq] at h
    exact h
  · next op T x y T' =>
    have h : (evB x).get r' (fun x => (evB y).get r' fun y => (binB' C op T).run x y fun v => (putB dst).run (.opt true v) r fun r => k r t nx) = some q := h
    simp only [evB_eq, putB_eq] at h
    rw [evK_eq, evK_eq] at h
    have h := binB_ref h
    show evK x r' (fun x => evK y r' fun y => binK C op T x y fun v => putK dst (.opt true v) r fun r => k r t nx) = some q
    rw [evK_eq, evK_eq]; exact h
  · next T a =>
    have h : (evB a).get r' (fun x => (loadU C T).run x t fun v => (putB dst).run (.opt true v) r fun r => k r t nx) = some q := h
    simp only [evB_eq, putB_eq] at h
    rw [evK_eq] at h
    have h := loadU_ref h
    show evK a r' (fun a => loadK C T a t fun v => putK dst (.opt true v) r fun r => k r t nx) = some q
    rw [evK_eq]; exact h
  · next T x f =>
    have h : (evB x).get r' (fun x => (fadU (fldI C T f)).run x t fun v => (putB dst).run (.opt true v) r fun r => k r t nx) = some q := h
    simp only [evB_eq, putB_eq] at h
    rw [evK_eq] at h
    have h := fadU_ref h
    show evK x r' (fun x => fadK (fldI C T f) x fun v => putK dst (.opt true v) r fun r => k r t nx) = some q
    rw [evK_eq]; exact h
  · next T x i =>
    have h : (evB x).get r' (fun x => (evB i).get r' fun y => (idxU C T).run x y fun v => (putB dst).run (.opt true v) r fun r => k r t nx) = some q := h
    simp only [evB_eq, putB_eq] at h
    rw [evK_eq, evK_eq] at h
    have h := idxU_ref h
    show evK x r' (fun x => evK i r' fun i => idxK C T x i fun v => putK dst (.opt true v) r fun r => k r t nx) = some q
    rw [evK_eq, evK_eq]; exact h
  · next x =>
    have h : (evB x).get r' (fun x => nilcK x fun v => (putB dst).run (.opt true v) r fun r => k r t nx) = some q := h
    simp only [evB_eq, putB_eq] at h
    exact h
  · next op T x =>
    have h : (evB x).get r' (fun x => unK op x fun v => (putB dst).run (.opt true v) r fun r => k r t nx) = some q := h
    simp only [evB_eq, putB_eq] at h
    exact h
  · next T x f =>
    have h : (evB x).get r' (fun x => fieldK (fldI C T f) x fun v => (putB dst).run (.opt true v) r fun r => k r t nx) = some q := h
    simp only [evB_eq, putB_eq] at h
    exact h
  · next T x i =>
    have h : (evB x).get r' (fun x => (evB i).get r' fun i => indexK C T x i fun v => (putB dst).run (.opt true v) r fun r => k r t nx) = some q := h
    simp only [evB_eq, putB_eq] at h
    exact h
  · exact h
noncomputable def guardB (C : Ctx) (O : Orc) (dst : Option Nat) (op : Op) : Bx := match op with
  | .pick c a b => ⟨fun r t nx k => (evB c).get r fun c => (evB a).get r fun a => (evB b).get r fun b => pickK c a b fun v => (putB dst).run (.opt true v) r fun r => k r t nx⟩
  | o => ⟨fun r t nx k => (stripB o.operands.toList).run r fun r' => (gateB C O dst o).run r' r t nx k⟩
theorem stripK_mono : ∀ {xs : List Operand} {r : Rt} {k k' : Rt → RO} {q : Out}, stripK xs r k = some q → (∀ r, k r = some q → k' r = some q) → stripK xs r k' = some q
  | [], r, k, k', q, h, hk => hk r h
  | x :: xs, r, k, k', q, h, hk => by
    cases x with
    | tmp n =>
      have h : getK (pth n) r (fun v => (match v with
        | .opt true w => plainK w (setK (pth n) w r fun r => stripK xs r k)
        | .opt false _ => none
        | _ => stripK xs r k)) = some q := h
      show getK (pth n) r (fun v => (match v with
        | .opt true w => plainK w (setK (pth n) w r fun r => stripK xs r k')
        | .opt false _ => none
        | _ => stripK xs r k')) = some q
      rw [getK_eq] at h ⊢
      generalize get n r = v at h ⊢
      cases v with
      | opt c w =>
        cases c with
        | false => cases h
        | true =>
          have h : plainK w (setK (pth n) w r fun r => stripK xs r k) = some q := h
          show plainK w (setK (pth n) w r fun r => stripK xs r k') = some q
          unfold plainK at h ⊢
          split at h
          · cases h
          · next hne =>
            obtain ⟨h1, h2⟩ := setK_some h
            unfold setK
            have hb : Nat.ble 512 (pth n) = false := by rw [← Bool.not_eq_true, Nat.ble_eq]; exact Nat.not_le.2 h1
            rw [hb]; exact stripK_mono h2 hk
      | _ => exact stripK_mono (xs := xs) h hk
    | _ => exact stripK_mono (xs := xs) h hk
theorem guardB_ref {O : Orc} {dst : Option Nat} {op : Op} {r : Rt} {t : St} {nx : Nat} {k : Rt → St → Nat → RO} {q : Out} (h : (guardB C O dst op).run r t nx k = some q) : guardT C O op dst r t nx k = some q := by
  unfold guardB at h
  split at h
  · next c a b =>
    have h : (evB c).get r (fun c => (evB a).get r fun a => (evB b).get r fun b => pickK c a b fun v => (putB dst).run (.opt true v) r fun r => k r t nx) = some q := h
    simp only [evB_eq, putB_eq] at h
    exact h
  · next hne =>
    have h : (stripB op.operands.toList).run r (fun r' => (gateB C O dst op).run r' r t nx k) = some q := h
    have h := stripK_mono (stripB_ref h) fun r' h' => gateB_ref h'
    unfold guardT
    split
    · exact (hne _ _ _ rfl).elim
    · exact h
noncomputable def stepB (C : Ctx) (O : Orc) (o : GOp) : Bx := match o with
  | ⟨dst, g, op⟩ => match g with
    | none => freeB C O dst op
    | some (j, want) => ⟨fun r t nx k => (getB j).get r fun g => onWant want g fun wb => Bool.rec ((putB dst).run (.opt false .unk) r fun r => k r t nx) ((guardB C O dst op).run r t nx k) wb⟩

theorem stepB_some {O : Orc} (hO : OrcOk C O) {o : GOp} {r : Rt} {t : St} {nx : Nat} {k : Rt → St → Nat → RO} {q : Out} (h : (stepB C O o).run r t nx k = some q) :
    ∃ r2 t2 n2, k r2 t2 n2 = some q ∧ AOk C o r t nx r2 t2 n2 := by
  obtain ⟨dst, g, op⟩ := o
  cases g with
  | none => exact stepK_some hO (freeB_ref h)
  | some p =>
    obtain ⟨j, want⟩ := p
    have h : (getB j).get r (fun g => onWant want g fun wb => Bool.rec ((putB dst).run (.opt false .unk) r fun r => k r t nx) ((guardB C O dst op).run r t nx k) wb) = some q := h
    rw [getB_eq] at h
    refine stepK_some hO (o := ⟨dst, some (j, want), op⟩) ?_
    show getK (pth j) r (fun g => wantK want g fun wb => bif wb then guardT C O op dst r t nx k else putK dst (.opt false .unk) r fun r => k r t nx) = some q
    rw [getK_eq]
    refine wantK_mono (onWant_ref h) fun wb hwb => ?_
    cases wb with
    | true => exact guardB_ref hwb
    | false =>
      have hwb : (putB dst).run (.opt false .unk) r (fun r => k r t nx) = some q := hwb
      rw [putB_eq] at hwb
      exact hwb

/-! ### Code, with what comes behind it -/
structure Cb where
  run : Rt → St → Nat → RO
noncomputable def regB (C : Ctx) (O : Orc) (k : Cb) (ops : List GOp) : Cb := List.rec k (fun o _ ih => ⟨fun r t nx => (stepB C O o).run r t nx ih.run⟩) ops
/-- Ends, and what comes behind each. -/
noncomputable def contB (k : Cb) (x : Nat → Cb) (e : Cb) (o : RO) : RO := match o with
  | some o => match o with
    | .n r t nx => k.run r t nx
    | .x i r t nx => (x i).run r t nx
    | .r r t nx => e.run r t nx
  | none => none
noncomputable def loopB (body k : Cb) (x : Nat → Cb) (e : Cb) (n : Nat) : Rt → St → Nat → RO := Nat.rec (fun _ _ _ => none) (fun _ ih r t nx => contB ⟨ih⟩ x e (body.run r t nx)) n
def outN : Cb := ⟨fun r t nx => some (.n r t nx)⟩
def outX (i : Nat) : Cb := ⟨fun r t nx => some (.x i r t nx)⟩
def outR : Cb := ⟨fun r t nx => some (.r r t nx)⟩
noncomputable def codeB (C : Ctx) (O : Orc) (L : Nat) (c : GCode) : Cb → (Nat → Cb) → Cb → Cb := GCode.rec
  (fun k _ _ => k)
  (fun ops k _ _ => regB C O k ops)
  (fun tr k x e => ⟨fun r t nx => contB k x e (treeK C O tr r t nx)⟩)
  (fun _ _ a b k x e => a (b k x e) x e)
  (fun c _ _ a b k x e => ⟨fun r t nx => (evB c).get r fun v => onBool v fun c => Bool.rec ((b k x e).run r t nx) ((a k x e).run r t nx) c⟩)
  (fun id _ b k x e => b k (fun i => bif Nat.beq i id then k else x i) e)
  (fun _ b k x e => ⟨loopB (b outN outX outR) k x e L⟩)
  (fun id _ x _ => x id)
  (fun _ _ e => e)
  (fun _ _ _ => ⟨fun _ _ _ => none⟩) c

/-- What code comes to. -/
def RunsTo (C : Ctx) (c : GCode) (r : Rt) (t : St) (nx : Nat) (out : Out) : Prop :=
  ∀ ρ σ (Q : Exit → Eng.St → Prop), Sim ρ r t nx σ → (∀ ρ' σ', Ext ρ ρ' → SimO ρ' out σ' → Q out.exit σ') → avp C c Q σ
def After (k : Cb) (x : Nat → Cb) (e : Cb) : Out → RO
  | .n r t nx => k.run r t nx
  | .x i r t nx => (x i).run r t nx
  | .r r t nx => e.run r t nx

theorem regB_some {O : Orc} (hO : OrcOk C O) {k : Cb} : ∀ {ops : List GOp} {r : Rt} {t : St} {nx : Nat} {q : Out}, (regB C O k ops).run r t nx = some q →
    ∃ r2 t2 n2, k.run r2 t2 n2 = some q ∧ ∀ ρ σ (K : Eng.St → Prop), Sim ρ r t nx σ → (∀ ρ' σ', Ext ρ ρ' → Sim ρ' r2 t2 n2 σ' → K σ') → aOps C ops K σ
  | [], r, t, nx, q, h => ⟨r, t, nx, h, fun ρ σ K hS hK => hK ρ σ (.refl _) hS⟩
  | o :: ops, r, t, nx, q, h => by
    have h : (stepB C O o).run r t nx (regB C O k ops).run = some q := h
    obtain ⟨r1, t1, n1, h1, h2⟩ := stepB_some hO h
    obtain ⟨r2, t2, n2, h3, h4⟩ := regB_some hO h1
    exact ⟨r2, t2, n2, h3, fun ρ σ K hS hK => h2 ρ σ _ hS fun ρ' σ' hx hS' => h4 ρ' σ' K hS' fun ρ2 σ2 hx2 hS2 => hK ρ2 σ2 (hx.trans hx2) hS2⟩

theorem contB_some {k : Cb} {x : Nat → Cb} {e : Cb} {o : RO} {q : Out} (h : contB k x e o = some q) : ∃ out, o = some out ∧ After k x e out = some q := by
  cases o with
  | none => cases h
  | some out => exact ⟨out, rfl, by cases out <;> exact h⟩

theorem codeB_some {O : Orc} (hO : OrcOk C O) {L : Nat} : ∀ {c : GCode} {k : Cb} {x : Nat → Cb} {e : Cb} {r : Rt} {t : St} {nx : Nat} {q : Out}, (codeB C O L c k x e).run r t nx = some q →
    ∃ out, After k x e out = some q ∧ RunsTo C c r t nx out
  | .skip, k, x, e, r, t, nx, q, h => ⟨.n r t nx, h, fun ρ σ Q hS hQ => hQ ρ σ (.refl _) hS⟩
  | .region ops, k, x, e, r, t, nx, q, h => by
    obtain ⟨r2, t2, n2, h1, h2⟩ := regB_some hO (k := k) (ops := ops) h
    exact ⟨.n r2 t2 n2, h1, fun ρ σ Q hS hQ => h2 ρ σ _ hS hQ⟩
  | .orders tr, k, x, e, r, t, nx, q, h => by
    have h : contB k x e (treeK C O tr r t nx) = some q := h
    obtain ⟨out, h0, h3⟩ := contB_some h
    obtain ⟨r2, t2, n2, h1, h2⟩ := treeK_some hO h0
    subst h1
    exact ⟨_, h3, fun ρ σ Q hS hQ => h2 ρ σ _ hS hQ⟩
  | .seq a b, k, x, e, r, t, nx, q, h => by
    have h : (codeB C O L a (codeB C O L b k x e) x e).run r t nx = some q := h
    obtain ⟨o1, h1, h2⟩ := codeB_some hO h
    cases o1 with
    | n r1 t1 n1 =>
      obtain ⟨o2, h3, h4⟩ := codeB_some hO (show (codeB C O L b k x e).run r1 t1 n1 = some q from h1)
      exact ⟨o2, h3, fun ρ σ Q hS hQ => h2 ρ σ _ hS fun ρ' σ' hx hS' => h4 ρ' σ' Q hS' fun ρ2 σ2 hx2 hS2 => hQ ρ2 σ2 (hx.trans hx2) hS2⟩
    | x id r1 t1 n1 => exact ⟨.x id r1 t1 n1, h1, fun ρ σ Q hS hQ => h2 ρ σ _ hS fun ρ' σ' hx hS' => hQ ρ' σ' hx hS'⟩
    | r r1 t1 n1 => exact ⟨.r r1 t1 n1, h1, fun ρ σ Q hS hQ => h2 ρ σ _ hS fun ρ' σ' hx hS' => hQ ρ' σ' hx hS'⟩
  | .cond c a b, k, x, e, r, t, nx, q, h => by
    have h : (evB c).get r (fun v => onBool v fun c => Bool.rec ((codeB C O L b k x e).run r t nx) ((codeB C O L a k x e).run r t nx) c) = some q := h
    rw [evB_eq, evK_eq] at h
    have hc : ∀ ρ σ, Sim ρ r t nx σ → R ρ (evC r c) (σ.ev c) := fun ρ σ hS => hS.ev c
    generalize evC r c = v at h hc
    cases v <;> first | (cases h; done) | skip
    next y =>
      cases y with
      | true =>
        obtain ⟨o, h1, h2⟩ := codeB_some hO (show (codeB C O L a k x e).run r t nx = some q from h)
        refine ⟨o, h1, fun ρ σ Q hS hQ => ?_⟩
        have e1 : σ.ev c = .t (.bool true) := hc ρ σ hS
        simp only [avp, e1]
        exact ⟨(fun _ => h2 ρ σ Q hS hQ), (fun h => by cases h)⟩
      | false =>
        obtain ⟨o, h1, h2⟩ := codeB_some hO (show (codeB C O L b k x e).run r t nx = some q from h)
        refine ⟨o, h1, fun ρ σ Q hS hQ => ?_⟩
        have e1 : σ.ev c = .t (.bool false) := hc ρ σ hS
        simp only [avp, e1]
        exact ⟨(fun h => by cases h), (fun _ => h2 ρ σ Q hS hQ)⟩
  | .block id b, k, x, e, r, t, nx, q, h => by
    obtain ⟨o, h1, h2⟩ := codeB_some hO (show (codeB C O L b k (fun i => bif Nat.beq i id then k else x i) e).run r t nx = some q from h)
    cases o with
    | n r1 t1 n1 => exact ⟨.n r1 t1 n1, h1, fun ρ σ Q hS hQ => h2 ρ σ _ hS fun ρ' σ' hx hS' => hQ ρ' σ' hx hS'⟩
    | r r1 t1 n1 => exact ⟨.r r1 t1 n1, h1, fun ρ σ Q hS hQ => h2 ρ σ _ hS fun ρ' σ' hx hS' => hQ ρ' σ' hx hS'⟩
    | x i r1 t1 n1 =>
      have h1 : (bif Nat.beq i id then k else x i).run r1 t1 n1 = some q := h1
      rw [beq_if] at h1
      split at h1
      · next ei => exact ⟨.n r1 t1 n1, h1, fun ρ σ Q hS hQ => h2 ρ σ _ hS fun ρ' σ' hx hS' => by
          show Exit.inBlockA id Q (.exit i) σ'
          simp only [Exit.inBlockA]
          rw [if_pos ei]; exact hQ ρ' σ' hx hS'⟩
      · next ei => exact ⟨.x i r1 t1 n1, h1, fun ρ σ Q hS hQ => h2 ρ σ _ hS fun ρ' σ' hx hS' => by
          show Exit.inBlockA id Q (.exit i) σ'
          simp only [Exit.inBlockA]
          rw [if_neg ei]; exact hQ ρ' σ' hx hS'⟩
  | .loop b, k, x, e, r, t, nx, q, h => by
    have h : loopB (codeB C O L b outN outX outR) k x e L r t nx = some q := h
    have aft : ∀ {out o : Out}, After outN outX outR out = some o → o = out := fun {out o} h => by cases out <;> (cases h; rfl)
    have key : ∀ (n : Nat) (r : Rt) (t : St) (nx : Nat), loopB (codeB C O L b outN outX outR) k x e n r t nx = some q →
        ∃ out, After k x e out = some q ∧ ∀ ρ σ (Q : Exit → Eng.St → Prop), Sim ρ r t nx σ → (∀ ρ' σ', Ext ρ ρ' → SimO ρ' out σ' → Q out.exit σ') → Rounds (avp C b) Q n σ := by
      intro n
      induction n with
      | zero => intro r t nx h; cases h
      | succ n ih =>
        intro r t nx h
        have h : contB ⟨loopB (codeB C O L b outN outX outR) k x e n⟩ x e ((codeB C O L b outN outX outR).run r t nx) = some q := h
        obtain ⟨o0, h1, h2⟩ := contB_some h
        obtain ⟨o, h3, h4⟩ := codeB_some hO h1
        have := aft h3
        subst this
        cases o0 with
        | n r1 t1 n1 =>
          obtain ⟨out, h5, h6⟩ := ih r1 t1 n1 h2
          exact ⟨out, h5, fun ρ σ Q hS hQ => h4 ρ σ _ hS fun ρ' σ' hx hS' => h6 ρ' σ' Q hS' fun ρ2 σ2 hx2 hS2 => hQ ρ2 σ2 (hx.trans hx2) hS2⟩
        | x i r1 t1 n1 => exact ⟨.x i r1 t1 n1, h2, fun ρ σ Q hS hQ => h4 ρ σ _ hS fun ρ' σ' hx hS' => hQ ρ' σ' hx hS'⟩
        | r r1 t1 n1 => exact ⟨.r r1 t1 n1, h2, fun ρ σ Q hS hQ => h4 ρ σ _ hS fun ρ' σ' hx hS' => hQ ρ' σ' hx hS'⟩
    obtain ⟨out, h1, h2⟩ := key L r t nx h
    exact ⟨out, h1, fun ρ σ Q hS hQ => ⟨L, h2 ρ σ Q hS hQ⟩⟩
  | .exit id, k, x, e, r, t, nx, q, h => ⟨.x id r t nx, h, fun ρ σ Q hS hQ => hQ ρ σ (.refl _) hS⟩
  | .ret, k, x, e, r, t, nx, q, h => ⟨.r r t nx, h, fun ρ σ Q hS hQ => hQ ρ σ (.refl _) hS⟩
  | .weak, k, x, e, r, t, nx, q, h => by cases h

theorem codeB_one {O : Orc} (hO : OrcOk C O) {L : Nat} {c : GCode} {r : Rt} {t : St} {nx : Nat} {out : Out} (h : (codeB C O L c outN outX outR).run r t nx = some out) : RunsTo C c r t nx out := by
  obtain ⟨o, h1, h2⟩ := codeB_some hO h
  have : out = o := by cases o <;> (cases h1; rfl)
  subst this
  exact h2

end Go.Top

namespace Go.Top
open Go Go.Eng
universe u
variable {α : Type u} {β : Type u} {C : Ctx}

noncomputable def regsK (args : List CV) : Nat → Rt → (Rt → Option β) → Option β :=
  List.rec (fun _ r k => k r) (fun v _ ih i r k => (putB (some i)).run v r fun r => ih (i + 1) r k) args
theorem regsK_some : ∀ {args : List CV} {i : Nat} {r : Rt} {k : Rt → Option β} {q : β}, regsK args i r k = some q →
    ∃ r', k r' = some q ∧ ∀ n, get (pth n) r' = if i ≤ n ∧ n < i + args.length then args.getD (n - i) .unk else get (pth n) r
  | [], i, r, k, q, h => ⟨r, h, fun n => by rw [if_neg (by simp only [List.length_nil]; omega)]⟩
  | v :: args, i, r, k, q, h => by
    have h : (putB (some i)).run v r (fun r => regsK args (i + 1) r k) = some q := h
    rw [putB_eq] at h
    have h : setK (pth i) v r (fun r => regsK args (i + 1) r k) = some q := h
    obtain ⟨hi, h⟩ := setK_some h
    obtain ⟨r', h1, h2⟩ := regsK_some h
    refine ⟨r', h1, fun n => ?_⟩
    rw [h2]
    simp only [List.length_cons]
    by_cases hn : n = i
    · subst hn
      rw [if_neg (by omega), if_pos (by omega), get_set_same _ _ _ hi]
      simp
    · have hp : pth n ≠ pth i := hn
      by_cases hr : i + 1 ≤ n ∧ n < i + 1 + args.length
      · rw [if_pos hr, if_pos (by omega), show n - i = (n - (i + 1)) + 1 from by omega]
        simp
      · rw [if_neg hr, if_neg (by omega), get_set_other _ _ _ _ hi hp]
theorem RL.getD {ρ : Ren} : ∀ {vs : List CV} {us : List AV} (n : Nat), RL ρ vs us → R ρ (vs.getD n .unk) (us.getD n .unk)
  | [], _, n, h => by cases h; simp [R]
  | _ :: _, _, 0, ⟨_, _, h1, h2, _⟩ => by subst h1; simpa using h2
  | _ :: _, _, n + 1, ⟨_, _, h1, _, h3⟩ => by subst h1; simpa using RL.getD n h3

noncomputable def resK (C : Ctx) (r : Rt) (t : St) (rs : List ResultVar) : (List CV → Option β) → Option β :=
  List.rec (fun k => k []) (fun x _ ih k => match x with
    | .tmp n => (getB n).get r fun v => ih fun vs => k (v :: vs)
    | .cell a T => (getB a).get r fun a => loadK C T a t fun v => ih fun vs => k (v :: vs)) rs
theorem resK_some {r : Rt} {t : St} {nx : Nat} : ∀ {rs : List ResultVar} {k : List CV → Option β} {q : β}, resK C r t rs k = some q →
    ∃ vs, k vs = some q ∧ ∀ ρ σ, Sim ρ r t nx σ → (∀ x ∈ rs, (resB C σ x).c) ∧ RL ρ vs (rs.map fun x => (resB C σ x).av [])
  | [], k, q, h => ⟨[], h, fun ρ σ hS => ⟨fun x hx => (by cases hx), rfl⟩⟩
  | x :: rs, k, q, h => by
    cases x with
    | tmp n =>
      have h : (getB n).get r (fun v => resK C r t rs fun vs => k (v :: vs)) = some q := h
      rw [getB_eq] at h
      obtain ⟨vs, h1, h2⟩ := resK_some h
      refine ⟨_, h1, fun ρ σ hS => ?_⟩
      obtain ⟨a, b⟩ := h2 ρ σ hS
      refine ⟨fun x hx => ?_, ⟨_, _, rfl, hS.regs n, b⟩⟩
      rcases List.mem_cons.1 hx with rfl | hx
      · trivial
      · exact a x hx
    | cell b T =>
      have h : (getB b).get r (fun a => loadK C T a t fun v => resK C r t rs fun vs => k (v :: vs)) = some q := h
      rw [getB_eq] at h
      obtain ⟨v, h1, hv⟩ := loadK_some h
      obtain ⟨vs, h2, h3⟩ := resK_some h1
      refine ⟨_, h2, fun ρ σ hS => ?_⟩
      obtain ⟨a, c⟩ := h3 ρ σ hS
      have := hv ρ nx σ.st _ hS.st (hS.regs b)
      refine ⟨fun x hx => ?_, ⟨_, _, rfl, this.av, c⟩⟩
      rcases List.mem_cons.1 hx with rfl | hx
      · exact this.c
      · exact a x hx
noncomputable def packK (vs : List CV) (k : CV → Option β) : Option β := match vs with
  | [x] => k x
  | xs => k (.tup xs)
theorem packK_some {vs : List CV} {k : CV → Option β} {q : β} (h : packK vs k = some q) : ∃ v, k v = some q ∧ ∀ ρ us, RL ρ vs us → R ρ v (packA us) := by
  unfold packK at h
  split at h
  · exact ⟨_, h, fun ρ us hu => by obtain ⟨u, t, rfl, h1, h2⟩ := hu; cases h2; exact h1⟩
  · next hne =>
    refine ⟨_, h, fun ρ us hu => ⟨us, hu, ?_⟩⟩
    match vs, us, hu with
    | [], _, h => cases h; rfl
    | [x], _, _ => exact (hne x rfl).elim
    | x :: y :: r, _, ⟨u, t, h1, h2, ⟨u', t', h3, _⟩⟩ => subst h1; subst h3; rfl
noncomputable def endK (C : Ctx) (rs : List ResultVar) (o : Option Out) (k : CV → St → Nat → Option β) : Option β := match o with
  | some (.n r t nx) => resK C r t rs fun vs => packK vs fun v => k v t nx
  | some (.r r t nx) => resK C r t rs fun vs => packK vs fun v => k v t nx
  | _ => none
noncomputable def bodyK (C : Ctx) (O : Orc) (L : Nat) (G : GCode) (rs : List ResultVar) (args : List CV) (t : St) (nx : Nat) (k : CV → St → Nat → Option β) : Option β :=
  regsK args 0 .e fun r => endK C rs ((codeB C O L G outN outX outR).run r t nx) k
/-- What a body comes to. -/
def BodyOk (C : Ctx) (G : GCode) (rs : List ResultVar) (args : List CV) (t : St) (nx : Nat) (v : CV) (t' : St) (n' : Nat) : Prop :=
  ∀ ρ s us (Q : AV → Store → Prop), SimS ρ t nx s → RL ρ args us → (∀ ρ' u s', Ext ρ ρ' → R ρ' v u → SimS ρ' t' n' s' → Q u s') → avp C G (Ret C rs Q) (entry us s)
theorem bodyK_some {O : Orc} (hO : OrcOk C O) {L : Nat} {G : GCode} {rs : List ResultVar} {args : List CV} {t : St} {nx : Nat} {k : CV → St → Nat → Option β} {q : β} (h : bodyK C O L G rs args t nx k = some q) :
    ∃ v t' n', k v t' n' = some q ∧ BodyOk C G rs args t nx v t' n' := by
  obtain ⟨r, h1, h2⟩ := regsK_some h
  have start : ∀ ρ s us, SimS ρ t nx s → RL ρ args us → Sim ρ r t nx (entry us s) := fun ρ s us hs hu => by
    refine ⟨fun n => ?_, hs⟩
    rw [h2]
    show R ρ _ (us.getD n .unk)
    split
    · exact hu.getD n
    · next hn =>
      rw [get_e]
      have hl := hu.length
      rw [List.getD_eq_getElem?_getD, List.getElem?_eq_none (by omega)]
      rfl
  unfold endK at h1
  split at h1
  · next r1 t1 n1 hr =>
    obtain ⟨vs, h3, h4⟩ := resK_some (nx := n1) h1
    obtain ⟨v, h5, h6⟩ := packK_some h3
    refine ⟨v, t1, n1, h5, fun ρ s us Q hs hu hQ => codeB_one hO hr ρ _ _ (start ρ s us hs hu) fun ρ' σ' hx hS => ?_⟩
    obtain ⟨a, b⟩ := h4 ρ' σ' hS
    exact ⟨a, hQ ρ' _ _ hx (h6 ρ' _ b) hS.st⟩
  · next r1 t1 n1 hr =>
    obtain ⟨vs, h3, h4⟩ := resK_some (nx := n1) h1
    obtain ⟨v, h5, h6⟩ := packK_some h3
    refine ⟨v, t1, n1, h5, fun ρ s us Q hs hu hQ => codeB_one hO hr ρ _ _ (start ρ s us hs hu) fun ρ' σ' hx hS => ?_⟩
    obtain ⟨a, b⟩ := h4 ρ' σ' hS
    exact ⟨a, hQ ρ' _ _ hx (h6 ρ' _ b) hS.st⟩
  · cases h1

/-! ### Results without tokens -/
mutual
/-- What a value stands for. -/
def absR (ρ : Ren) : CV → AV
  | .int k n => .t (.int k n)
  | .bool b => .t (.bool b)
  | .str l v => .t (.str (bts l v))
  | .t x => .t (tv x)
  | .tok g n off len => .tok ((ρ g).getD 0) n off len
  | .ptr g off => .ptr ((ρ g).getD 0) off
  | .eptr g n i off => .eptr ((ρ g).getD 0) n i off
  | .imm cs => .imm (tvL cs)
  | .fn f caps => .fn f (absRL ρ caps)
  | .agg cs => .agg (absRL ρ cs)
  | .tup vs => .tup (absRL ρ vs)
  | .opt b v => .opt b (absR ρ v)
  | .unk => .unk
def absRL (ρ : Ren) : List CV → List AV
  | [] => []
  | v :: r => absR ρ v :: absRL ρ r
end
mutual
theorem abs_of : ∀ {ρ : Ren} {v : CV} {u : AV}, R ρ v u → absR ρ v = u
  | _, .int .., _, h => h.symm
  | _, .bool _, _, h => h.symm
  | _, .str .., _, ⟨_, h⟩ => h.symm
  | _, .t _, _, ⟨_, _, h⟩ => h.symm
  | _, .tok .., _, ⟨g', h1, h2⟩ => by subst h2; simp only [absR, h1, Option.getD_some]
  | _, .ptr .., _, ⟨g', h1, h2⟩ => by subst h2; simp only [absR, h1, Option.getD_some]
  | _, .eptr .., _, ⟨g', h1, h2⟩ => by subst h2; simp only [absR, h1, Option.getD_some]
  | _, .imm _, _, ⟨_, h⟩ => h.symm
  | _, .fn .., _, ⟨us, h1, h2⟩ => by subst h2; simp only [absR, absL_of h1.1]
  | _, .agg _, _, ⟨us, h1, h2⟩ => by subst h2; simp only [absR, absL_of h1.1]
  | _, .tup _, _, ⟨us, h1, h2⟩ => by subst h2; simp only [absR, absL_of h1]
  | _, .opt _ v, _, ⟨w, h1, h2⟩ => by subst h2; simp only [absR, abs_of h1]
  | _, .unk, _, h => h.symm
theorem absL_of : ∀ {ρ : Ren} {vs : List CV} {us : List AV}, RL ρ vs us → absRL ρ vs = us
  | _, [], _, h => h.symm
  | _, _ :: _, _, ⟨u, t, h1, h2, h3⟩ => by subst h1; simp only [absRL, abs_of h2, absL_of h3]
end

noncomputable def scal0 (v : CV) (k : Option β) : Option β := match v with
  | .int _ _ => k
  | .bool _ => k
  | .str _ _ => k
  | _ => none
noncomputable def scalL0 (vs : List CV) (k : Option β) : Option β := List.rec k (fun v _ ih => scal0 v ih) vs
noncomputable def scal1 (v : CV) (k : Option β) : Option β := match v with
  | .agg cs => scalL0 cs k
  | v => scal0 v k
noncomputable def scalL1 (vs : List CV) (k : Option β) : Option β := List.rec k (fun v _ ih => scal1 v ih) vs
noncomputable def scal2 (v : CV) (k : Option β) : Option β := match v with
  | .tup vs => scalL1 vs k
  | v => scal1 v k
theorem scal0_some {v : CV} {k : Option β} {q : β} (h : scal0 v k = some q) : k = some q ∧ ∀ ρ u, R ρ v u → u.scal = true ∧ R nor v u := by
  unfold scal0 at h
  split at h
  · exact ⟨h, fun ρ u hu => by cases hu; exact ⟨by simp [AV.scal], rfl⟩⟩
  · exact ⟨h, fun ρ u hu => by cases hu; exact ⟨by simp [AV.scal], rfl⟩⟩
  · exact ⟨h, fun ρ u hu => by obtain ⟨a, rfl⟩ := hu; exact ⟨by simp [AV.scal], a, rfl⟩⟩
  · cases h
theorem scalL0_some : ∀ {vs : List CV} {k : Option β} {q : β}, scalL0 vs k = some q → k = some q ∧ ∀ ρ us, RL ρ vs us → (∀ u ∈ us, u.scal = true) ∧ RL nor vs us
  | [], k, q, h => ⟨h, fun ρ us hu => by cases hu; exact ⟨fun u hu => (by cases hu), rfl⟩⟩
  | v :: vs, k, q, h => by
    have h : scal0 v (scalL0 vs k) = some q := h
    obtain ⟨h1, h2⟩ := scal0_some h
    obtain ⟨h3, h4⟩ := scalL0_some h1
    refine ⟨h3, fun ρ us hu => ?_⟩
    obtain ⟨u, t, rfl, a, b⟩ := hu
    obtain ⟨c1, c2⟩ := h2 ρ u a
    obtain ⟨d1, d2⟩ := h4 ρ t b
    exact ⟨fun x hx => by rcases List.mem_cons.1 hx with rfl | hx; exact c1; exact d1 x hx, ⟨u, t, rfl, c2, d2⟩⟩
theorem scal_list {l : List AV} (h : ∀ u ∈ l, u.scal = true) : (l.attach.all fun ⟨x, _⟩ => x.scal) = true := by
  rw [List.all_eq_true]
  rintro ⟨x, hx⟩ _
  exact h x hx
theorem scal1_some {v : CV} {k : Option β} {q : β} (h : scal1 v k = some q) : k = some q ∧ ∀ ρ u, R ρ v u → u.scal = true ∧ R nor v u := by
  unfold scal1 at h
  split at h
  · obtain ⟨h1, h2⟩ := scalL0_some h
    refine ⟨h1, fun ρ u hu => ?_⟩
    obtain ⟨us, ⟨a, b⟩, rfl⟩ := hu
    obtain ⟨c, d⟩ := h2 ρ us a
    exact ⟨by unfold AV.scal; exact scal_list c, us, ⟨d, b⟩, rfl⟩
  · exact scal0_some h
theorem scalL1_some : ∀ {vs : List CV} {k : Option β} {q : β}, scalL1 vs k = some q → k = some q ∧ ∀ ρ us, RL ρ vs us → (∀ u ∈ us, u.scal = true) ∧ RL nor vs us
  | [], k, q, h => ⟨h, fun ρ us hu => by cases hu; exact ⟨fun u hu => (by cases hu), rfl⟩⟩
  | v :: vs, k, q, h => by
    have h : scal1 v (scalL1 vs k) = some q := h
    obtain ⟨h1, h2⟩ := scal1_some h
    obtain ⟨h3, h4⟩ := scalL1_some h1
    refine ⟨h3, fun ρ us hu => ?_⟩
    obtain ⟨u, t, rfl, a, b⟩ := hu
    obtain ⟨c1, c2⟩ := h2 ρ u a
    obtain ⟨d1, d2⟩ := h4 ρ t b
    exact ⟨fun x hx => by rcases List.mem_cons.1 hx with rfl | hx; exact c1; exact d1 x hx, ⟨u, t, rfl, c2, d2⟩⟩
theorem scal2_some {v : CV} {k : Option β} {q : β} (h : scal2 v k = some q) : k = some q ∧ ∀ ρ u, R ρ v u → u.scal = true ∧ R nor v u := by
  unfold scal2 at h
  split at h
  · obtain ⟨h1, h2⟩ := scalL1_some h
    refine ⟨h1, fun ρ u hu => ?_⟩
    obtain ⟨us, a, rfl⟩ := hu
    obtain ⟨c, d⟩ := h2 ρ us a
    exact ⟨by unfold AV.scal; exact scal_list c, us, d, rfl⟩
  · exact scal1_some h

/-! ### Results with new tokens -/
/-- Tokens that are there, one after the other. -/
def Pick (s : Store) : List Nat → List Entry → Prop
  | [], es => es = []
  | g :: gs, es => ∃ e t, es = e :: t ∧ s.f g = some e ∧ Pick (s.set g none) gs t
theorem Pick.mem : ∀ {gs : List Nat} {es : List Entry} {s : Store}, Pick s gs es → ∀ g ∈ gs, s.f g ≠ none
  | [], _, _, _, g, hg => by cases hg
  | g :: gs, _, s, ⟨e, t, h1, h2, h3⟩, k, hk => by
    rcases List.mem_cons.1 hk with rfl | hk
    · rw [h2]; simp
    · have := Pick.mem h3 k hk
      intro h0
      apply this
      by_cases hkg : k = g
      · subst hkg; exact Store.set_same _ _ _
      · rw [Store.set_other _ _ hkg]; exact h0
theorem Pick.fresh : ∀ {gs : List Nat} {es : List Entry} {s t : Store}, Pick s gs es → (∀ g ∈ gs, t.f g = none) → Fresh t gs es ∧ ∀ k x, (t.adds gs es).f k = some x → t.f k = some x ∨ s.f k = some x
  | [], es, s, t, h, _ => by cases h; exact ⟨trivial, fun k x hk => .inl hk⟩
  | g :: gs, _, s, t, ⟨e, es, h1, h2, h3⟩, hn => by
    subst h1
    have hmem := h3.mem
    have hne : ∀ k ∈ gs, k ≠ g := fun k hk e => by
      subst e
      exact hmem k hk (Store.set_same _ _ _)
    obtain ⟨f1, f2⟩ := Pick.fresh (t := t.set g (some e)) h3 fun k hk => by rw [Store.set_other _ _ (hne k hk)]; exact hn k (by simp [hk])
    refine ⟨⟨hn g (by simp), f1⟩, fun k x hk => ?_⟩
    rcases f2 k x hk with h | h
    · by_cases hkg : k = g
      · subst hkg; rw [Store.set_same] at h; cases h; exact .inr h2
      · rw [Store.set_other _ _ hkg] at h; exact .inl h
    · by_cases hkg : k = g
      · subst hkg; rw [Store.set_same] at h; cases h
      · rw [Store.set_other _ _ hkg] at h; exact .inr h
theorem Pick.append : ∀ {gs : List Nat} {es : List Entry} {s : Store} {gs' : List Nat} {es' : List Entry} {s' : Store}, Pick s gs es → (∀ k, s'.f k = if k ∈ gs then none else s.f k) → Pick s' gs' es' → Pick s (gs ++ gs') (es ++ es')
  | [], es, s, gs', es', s', h, hs, h' => by
    cases h
    have : s' = s := Store.ext' fun k => by rw [hs]; simp
    subst this
    exact h'
  | g :: gs, _, s, gs', es', s', ⟨e, t, h1, h2, h3⟩, hs, h' => by
    subst h1
    refine ⟨e, t ++ es', rfl, h2, Pick.append h3 (fun k => ?_) h'⟩
    rw [hs]
    by_cases hkg : k = g
    · subst hkg
      rw [Store.set_same]; simp
    · rw [Store.set_other _ _ hkg]; simp [hkg]

/-- What is exported: its tokens from number i on. -/
def XOk (v : CV) (t : St) (i : Nat) (v' : CV) (t' : St) (i' : Nat) (es : List Ent) : Prop :=
  i' = i + es.length ∧ ∀ ρ nx s u, SimS ρ t nx s → R ρ v u → ∃ gs es' s', gs.length = es.length ∧ REs es es' ∧ Pick s gs es' ∧ (∀ k, s'.f k = if k ∈ gs then none else s.f k) ∧ SimS ρ t' nx s' ∧
    ∀ η : Ren, (∀ j g, gs[j]? = some g → η (i + j) = some g) → R η v' u
def XLOk (v : List CV) (t : St) (i : Nat) (v' : List CV) (t' : St) (i' : Nat) (es : List Ent) : Prop :=
  i' = i + es.length ∧ ∀ ρ nx s u, SimS ρ t nx s → RL ρ v u → ∃ gs es' s', gs.length = es.length ∧ REs es es' ∧ Pick s gs es' ∧ (∀ k, s'.f k = if k ∈ gs then none else s.f k) ∧ SimS ρ t' nx s' ∧
    ∀ η : Ren, (∀ j g, gs[j]? = some g → η (i + j) = some g) → RL η v' u
theorem XOk.same {v : CV} {t : St} {i : Nat} (h : ∀ ρ η u, R ρ v u → R η v u) : XOk v t i v t i [] :=
  ⟨rfl, fun ρ nx s u hs hu => ⟨[], [], s, rfl, rfl, rfl, fun k => by simp, hs, fun η _ => h ρ η u hu⟩⟩
theorem REs.append : ∀ {a b : List Ent} {a' b' : List Entry}, REs a a' → REs b b' → REs (a ++ b) (a' ++ b')
  | [], _, _, _, h, k => by cases h; exact k
  | _ :: _, _, _, _, ⟨_, _, h1, h2, h3⟩, k => by subst h1; exact ⟨_, _, rfl, h2, h3.append k⟩
theorem XLOk.cons {v : CV} {vs : List CV} {t : St} {i : Nat} {v' : CV} {t1 : St} {i1 : Nat} {es1 : List Ent} {vs' : List CV} {t2 : St} {i2 : Nat} {es2 : List Ent} (h : XOk v t i v' t1 i1 es1) (k : XLOk vs t1 i1 vs' t2 i2 es2) :
    XLOk (v :: vs) t i (v' :: vs') t2 i2 (es1 ++ es2) := by
  refine ⟨by rw [k.1, h.1]; simp; omega, fun ρ nx s u hs hu => ?_⟩
  obtain ⟨x, q, rfl, hu1, hu2⟩ := hu
  obtain ⟨g1, e1, s1, a1, a2, a3, a4, a5, a6⟩ := h.2 ρ nx s x hs hu1
  obtain ⟨g2, e2, s2, b1, b2, b3, b4, b5, b6⟩ := k.2 ρ nx s1 q a5 hu2
  refine ⟨g1 ++ g2, e1 ++ e2, s2, by simp [a1, b1], a2.append b2, a3.append a4 b3, fun k => ?_, b5, fun η hη => ⟨x, q, rfl, a6 η fun j g hj => hη j g ?_, b6 η fun j g hj => ?_⟩⟩
  · rw [b4, a4]
    by_cases h1 : k ∈ g1
    · simp [h1]
    · simp [h1]
  · rw [List.getElem?_append_left (List.getElem?_eq_some_iff.1 hj).1]; exact hj
  · have := hη (g1.length + j) g (by rw [List.getElem?_append_right (by omega)]; simpa using hj)
    rw [h.1, ← a1, Nat.add_assoc]; exact this

noncomputable def exp0 (v : CV) (t : St) (i : Nat) (k : CV → St → Nat → List Ent → Option β) : Option β := match v with
  | .tok g n off len => lookK g (fun e => match e with
    | .row m c l ro => delK g t fun t => frcN (i + 1) fun j => k (.tok i n off len) t j [.row m c l ro]
    | _ => none) t
  | .int a n => k (.int a n) t i []
  | .bool b => k (.bool b) t i []
  | .str l v => k (.str l v) t i []
  | .t x => k (.t x) t i []
  | .imm c => k (.imm c) t i []
  | _ => none
theorem exp0_some {v : CV} {t : St} {i : Nat} {k : CV → St → Nat → List Ent → Option β} {q : β} (h : exp0 v t i k = some q) : ∃ v' t' i' es, k v' t' i' es = some q ∧ XOk v t i v' t' i' es := by
  unfold exp0 at h
  split at h
  · next g n off len =>
    rw [lookK_eq] at h
    cases hl : look g t with
    | none => rw [hl] at h; cases h
    | some e =>
      rw [hl] at h
      simp only [Option.bind_some] at h
      split at h
      · next m c l ro =>
        rw [delK_eq, frcN_eq] at h
        refine ⟨_, _, _, _, h, rfl, fun ρ nx s u hs hu => ?_⟩
        obtain ⟨g', e0, rfl⟩ := hu
        obtain ⟨e', e1, e2⟩ := hs.live hl e0
        refine ⟨[g'], [e'], s.set g' none, rfl, ⟨e', [], rfl, fun _ => e2, rfl⟩, ⟨e', [], rfl, e1, rfl⟩, fun k => ?_, hs.del hl e0, fun η hη => ⟨g', hη 0 g' rfl, rfl⟩⟩
        by_cases hk : k = g'
        · subst hk; rw [Store.set_same]; simp
        · rw [Store.set_other _ _ hk]; simp [hk]
      · cases h
  · exact ⟨_, _, _, _, h, .same fun ρ η u hu => hu⟩
  · exact ⟨_, _, _, _, h, .same fun ρ η u hu => hu⟩
  · exact ⟨_, _, _, _, h, .same fun ρ η u hu => hu⟩
  · exact ⟨_, _, _, _, h, .same fun ρ η u hu => hu⟩
  · exact ⟨_, _, _, _, h, .same fun ρ η u hu => hu⟩
  · cases h
noncomputable def appE (a b : List Ent) : List Ent := List.rec b (fun x _ ih => x :: ih) a
theorem appE_eq (b : List Ent) : ∀ a : List Ent, appE a b = a ++ b
  | [] => rfl
  | x :: a => by show x :: appE a b = _; rw [appE_eq b a]; rfl
noncomputable def expL0 (vs : List CV) : St → Nat → (List CV → St → Nat → List Ent → Option β) → Option β :=
  List.rec (fun t i k => k [] t i []) (fun v _ ih t i k => exp0 v t i fun v t i es => ih t i fun vs t i fs => k (v :: vs) t i (appE es fs)) vs
theorem expL0_some : ∀ {vs : List CV} {t : St} {i : Nat} {k : List CV → St → Nat → List Ent → Option β} {q : β}, expL0 vs t i k = some q → ∃ v' t' i' es, k v' t' i' es = some q ∧ XLOk vs t i v' t' i' es
  | [], t, i, k, q, h => ⟨_, _, _, _, h, rfl, fun ρ nx s u hs hu => ⟨[], [], s, rfl, rfl, rfl, fun k => by simp, hs, fun η _ => hu⟩⟩
  | v :: vs, t, i, k, q, h => by
    have h : exp0 v t i (fun v t i es => expL0 vs t i fun vs t i fs => k (v :: vs) t i (appE es fs)) = some q := h
    obtain ⟨v', t1, i1, es, h1, h2⟩ := exp0_some h
    obtain ⟨vs', t2, i2, fs, h3, h4⟩ := expL0_some h1
    rw [appE_eq] at h3
    exact ⟨_, _, _, _, h3, XLOk.cons h2 h4⟩
noncomputable def exp1 (v : CV) (t : St) (i : Nat) (k : CV → St → Nat → List Ent → Option β) : Option β := match v with
  | .agg cs => expL0 cs t i fun cs t i es => k (.agg cs) t i es
  | v => exp0 v t i k
theorem exp1_some {v : CV} {t : St} {i : Nat} {k : CV → St → Nat → List Ent → Option β} {q : β} (h : exp1 v t i k = some q) : ∃ v' t' i' es, k v' t' i' es = some q ∧ XOk v t i v' t' i' es := by
  unfold exp1 at h
  split at h
  · obtain ⟨cs, t', i', es, h1, h2⟩ := expL0_some h
    refine ⟨_, _, _, _, h1, h2.1, fun ρ nx s u hs hu => ?_⟩
    obtain ⟨us, ⟨a, b⟩, rfl⟩ := hu
    obtain ⟨gs, es', s', c1, c2, c3, c4, c5, c6⟩ := h2.2 ρ nx s us hs a
    exact ⟨gs, es', s', c1, c2, c3, c4, c5, fun η hη => ⟨us, ⟨c6 η hη, b⟩, rfl⟩⟩
  · exact exp0_some h
noncomputable def expL1 (vs : List CV) : St → Nat → (List CV → St → Nat → List Ent → Option β) → Option β :=
  List.rec (fun t i k => k [] t i []) (fun v _ ih t i k => exp1 v t i fun v t i es => ih t i fun vs t i fs => k (v :: vs) t i (appE es fs)) vs
theorem expL1_some : ∀ {vs : List CV} {t : St} {i : Nat} {k : List CV → St → Nat → List Ent → Option β} {q : β}, expL1 vs t i k = some q → ∃ v' t' i' es, k v' t' i' es = some q ∧ XLOk vs t i v' t' i' es
  | [], t, i, k, q, h => ⟨_, _, _, _, h, rfl, fun ρ nx s u hs hu => ⟨[], [], s, rfl, rfl, rfl, fun k => by simp, hs, fun η _ => hu⟩⟩
  | v :: vs, t, i, k, q, h => by
    have h : exp1 v t i (fun v t i es => expL1 vs t i fun vs t i fs => k (v :: vs) t i (appE es fs)) = some q := h
    obtain ⟨v', t1, i1, es, h1, h2⟩ := exp1_some h
    obtain ⟨vs', t2, i2, fs, h3, h4⟩ := expL1_some h1
    rw [appE_eq] at h3
    exact ⟨_, _, _, _, h3, XLOk.cons h2 h4⟩
noncomputable def exp2 (v : CV) (t : St) (k : CV → List Ent → Option β) : Option β := match v with
  | .tup vs => expL1 vs t 0 fun vs _ _ es => k (.tup vs) es
  | v => exp1 v t 0 fun v _ _ es => k v es
theorem exp2_some {v : CV} {t : St} {k : CV → List Ent → Option β} {q : β} (h : exp2 v t k = some q) : ∃ v' es, k v' es = some q ∧ ∀ ρ nx s u, SimS ρ t nx s → R ρ v u →
    ∃ gs es', gs.length = es.length ∧ REs es es' ∧ Pick s gs es' ∧ R (fun k => gs[k]?) v' u := by
  unfold exp2 at h
  split at h
  · obtain ⟨cs, t', i', es, h1, h2⟩ := expL1_some h
    refine ⟨_, _, h1, fun ρ nx s u hs hu => ?_⟩
    obtain ⟨us, a, rfl⟩ := hu
    obtain ⟨gs, es', s', c1, c2, c3, c4, c5, c6⟩ := h2.2 ρ nx s us hs a
    exact ⟨gs, es', c1, c2, c3, us, c6 _ fun j g hj => by rw [Nat.zero_add]; exact hj, rfl⟩
  · obtain ⟨w, t', i', es, h1, h2⟩ := exp1_some h
    refine ⟨_, _, h1, fun ρ nx s u hs hu => ?_⟩
    obtain ⟨gs, es', s', c1, c2, c3, c4, c5, c6⟩ := h2.2 ρ nx s u hs hu
    exact ⟨gs, es', c1, c2, c3, c6 _ fun j g hj => by rw [Nat.zero_add]; exact hj⟩

end Go.Top
