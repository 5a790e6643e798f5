/-
  Copies of slices.
-/
import Derived.Test.YtenckbcdfdmckaaGreatDoorFnsA
import Derived.Shelf.Strings.Builder1
import Derived.Shelf.Strings.Builder2
import Derived.Shelf.Small.Strs
import Derived.Shelf.Strings.BuilderF
import Derived.Shelf.Strings.Search1
import Derived.Shelf.Strings.Search2
import Derived.Shelf.Strings.Search3
import Derived.Shelf.Strings.Count
import Derived.Shelf.LaysM
import Derived.Shelf.Strings.Shaped
import Derived.Shelf.Sort.Plain
import Derived.Shelf.Strings.Prefix
import Derived.Shelf.Strings.Repeat
import Derived.Shelf.Unicode.DecodeSlow
import Derived.Shelf.Slices.CompactI
import Derived.Shelf.Slices.In.SortNone
import Derived.Shelf.SlGeneric
import Derived.Shelf.Spec.SlicesGrow
import Derived.Laws.AppendOwn
import Derived.RangeFuncNested
import Derived.RangeFuncLeaves
import Derived.Shelf.Abstract
import Derived.WalkKit
import Derived.TacticsIn
import Derived.BigFrameIn
import Derived.LoopIn
import Derived.Deep.RegionHeld
set_option linter.unusedSimpArgs false
set_option linter.unusedVariables false
namespace Go.Proofs.YtenckbcdfdmckaaGreatDoor
open Go Go.Eng
set_option maxRecDepth 100000
/-- Cells as they come. -/
structure Raw (n : Nat) where
  l : List TV
  h : l.length = n
instance iRaw (n : Nat) : Inhabited (Raw n) := ⟨⟨List.replicate n default, List.length_replicate ..⟩⟩
instance cRaw (n : Nat) : Cell (Raw n) where
  width := n
  enc x := x.l
  dec cs := if h : cs.length = n then some ⟨cs, h⟩ else none
  len x := x.h
  dec_enc x := by rw [dif_pos x.h]
  sound := sound_exact (fun x => x.h) fun cs x h => by
    split at h
    · cases h; rfl
    · cases h
def G_slices_Clone___string_string_ : GCode := .seq (.region [⟨(some 2), none, .assign (.const (.slice none 0 0))⟩]) (.seq (.seq (.region [⟨(some 3), none, .move (.tmp 0)⟩, ⟨(some 4), none, .binOp .eql 23 (.tmp 3) (.const (.slice none 0 0)) 23⟩]) (.cond (.tmp 4) (.seq (.region [⟨(some 2), none, .assign (.const (.slice none 0 0))⟩]) (.ret)) (.skip))) (.seq (.region [⟨(some 5), none, .buildSlice 23 0 #[]⟩, ⟨(some 6), none, .move (.tmp 0)⟩, ⟨(some 7), none, .call ⟨.builtin .append, #[.tmp 5, .tmp 6], #[23, 23]⟩⟩, ⟨(some 2), none, .assign (.tmp 7)⟩]) (.ret)))
noncomputable def l_slices_Clone___string_string_ : List (Nat × Con) := []
noncomputable abbrev K_slices_Clone___string_string_ : Ctx := ctx (cl l_slices_Clone___string_string_)
theorem geq_slices_Clone___string_string_ : gof K_slices_Clone___string_string_ Tryz.f43 = some G_slices_Clone___string_string_.strip := by kernel_rfl
theorem sys_slices_Clone___string_string_ : Go.Eng.Sys Tryz.prog K_slices_Clone___string_string_ := sys_of' (l := []) trivial
theorem hm_slices_Clone___string_string_ : ConMono K_slices_Clone___string_string_ := conMono_of sys_slices_Clone___string_string_.con
theorem nil_slices_Clone___string_string_ : avp K_slices_Clone___string_string_ G_slices_Clone___string_string_ (Ret K_slices_Clone___string_string_ [.tmp 2] fun r _ => r = .t .nilS) (entry [.t (.emq true)] .empty) := by
  unfold G_slices_Clone___string_string_
  simp only [vP.down, vS.down, vE.down, Nat.reduceEqDiff, Nat.reduceAdd, Nat.reduceSub, Nat.reduceMul, Nat.reduceLeDiff, Nat.reduceLT, Int.reduceToNat, reduceIte, reduceCtorEq, Int.reduceEq, Int.reduceLT, Int.reduceLE, ↓avp_condG, ↓tf_arrow, ↓ft_arrow, eql_emq ty_Lstring, false_implies]
  simp only [vP.down, vS.down, vE.down, Nat.reduceEqDiff, Nat.reduceAdd, Nat.reduceSub, Nat.reduceMul, Nat.reduceLeDiff, Nat.reduceLT, Int.reduceToNat, reduceIte, reduceCtorEq, Int.reduceEq, Int.reduceLT, Int.reduceLE, ↓avp_condG, ↓tf_arrow, ↓ft_arrow, vT.down]
theorem row_slices_Clone___string_string_ (x : TV) (l : List (Raw 1)) (h : (x = .emq false ∧ l = []) ∨ (∃ y r, x = sl l ∧ l = y :: r)) (hl : l.length ≤ 1099511627776) :
    avp K_slices_Clone___string_string_ G_slices_Clone___string_string_ (Ret K_slices_Clone___string_string_ [.tmp 2] fun r s' => ∃ g, r = .tok g (Cell.width (Raw 1)) 0 l.length ∧ s'.f g = some (.row (Cell.width (Raw 1)) (l.map Cell.enc) false)) (entry [.t x] .empty) := by
  have fin : ∀ g, Store.empty.f g = none → Shows (Store.empty.set g (some (.row 1 [] false))) (.t x) l → appendV K_slices_Clone___string_string_ 23 (.tok g 1 0 0) (.t x) (fun v s => ∃ g', v = .tok g' (Cell.width (Raw 1)) 0 l.length ∧ s.f g' = some (.row (Cell.width (Raw 1)) (l.map Cell.enc) false)) (Store.empty.set g (some (.row 1 [] false))) := fun g hg hs => by
    refine append_tok (l := ([] : List (Raw 1))) ty_Lstring ty_string rfl (by decide) (Store.set_same _ _ _) hs (by simp; omega) (by simp; omega) fun g' hg' => ⟨g', rfl, Store.set_same _ _ _⟩
  unfold G_slices_Clone___string_string_
  rcases h with ⟨rfl, rfl⟩ | ⟨y, r, rfl, rfl⟩
  · simp only [vP.down, vS.down, vE.down, Nat.reduceEqDiff, Nat.reduceAdd, Nat.reduceSub, Nat.reduceMul, Nat.reduceLeDiff, Nat.reduceLT, Int.reduceToNat, reduceIte, reduceCtorEq, Int.reduceEq, Int.reduceLT, Int.reduceLE, ↓avp_condG, ↓tf_arrow, ↓ft_arrow, eql_emq ty_Lstring, false_implies]
    ((repeat' with_reducible refine And.intro ?_ ?_) <;> try (first | omega | (simp only [List.length_take, List.length_drop, List.length_append, List.length_map, List.length_replicate] <;> omega)))
    intro g hg
    simp only [vP.down, vS.down, vE.down, Nat.reduceEqDiff, Nat.reduceAdd, Nat.reduceSub, Nat.reduceMul, Nat.reduceLeDiff, Nat.reduceLT, Int.reduceToNat, reduceIte, reduceCtorEq, Int.reduceEq, Int.reduceLT, Int.reduceLE, ↓avp_condG, ↓tf_arrow, ↓ft_arrow, vT.down]
    exact fin g hg shows_emq
  · simp only [vP.down, vS.down, vE.down, Nat.reduceEqDiff, Nat.reduceAdd, Nat.reduceSub, Nat.reduceMul, Nat.reduceLeDiff, Nat.reduceLT, Int.reduceToNat, reduceIte, reduceCtorEq, Int.reduceEq, Int.reduceLT, Int.reduceLE, ↓avp_condG, ↓tf_arrow, ↓ft_arrow, eql_seq ty_Lstring, false_implies]
    ((repeat' with_reducible refine And.intro ?_ ?_) <;> try (first | omega | (simp only [List.length_take, List.length_drop, List.length_append, List.length_map, List.length_replicate] <;> omega)))
    intro g hg
    simp only [vP.down, vS.down, vE.down, Nat.reduceEqDiff, Nat.reduceAdd, Nat.reduceSub, Nat.reduceMul, Nat.reduceLeDiff, Nat.reduceLT, Int.reduceToNat, reduceIte, reduceCtorEq, Int.reduceEq, Int.reduceLT, Int.reduceLE, ↓avp_condG, ↓tf_arrow, ↓ft_arrow, vT.down]
    exact fin g hg shows_sl
abbrev A_slices_Clone___string_string_ := clA (Raw 1)
abbrev p_slices_Clone___string_string_ := clP (α := (Raw 1))
abbrev e_slices_Clone___string_string_ := clE (α := (Raw 1))
abbrev mk_slices_Clone___string_string_ := clM (α := (Raw 1))
noncomputable def c_slices_Clone___string_string_ : Con := ownCon A_slices_Clone___string_string_ p_slices_Clone___string_string_ e_slices_Clone___string_string_ mk_slices_Clone___string_string_
theorem ok_slices_Clone___string_string_ : COk Tryz.prog 43 c_slices_Clone___string_string_ := clone_ok sys_slices_Clone___string_string_ mixed Tryz.func43 (by kernel_rfl) geq_slices_Clone___string_string_ Tryz.ntmps43 (by rw [Tryz.results43]) (by decide) nil_slices_Clone___string_string_ row_slices_Clone___string_string_
def G_slices_Clone___api_Put_api_Put_ : GCode := .seq (.region [⟨(some 2), none, .assign (.const (.slice none 0 0))⟩]) (.seq (.seq (.region [⟨(some 3), none, .move (.tmp 0)⟩, ⟨(some 4), none, .binOp .eql 24 (.tmp 3) (.const (.slice none 0 0)) 24⟩]) (.cond (.tmp 4) (.seq (.region [⟨(some 2), none, .assign (.const (.slice none 0 0))⟩]) (.ret)) (.skip))) (.seq (.region [⟨(some 5), none, .buildSlice 24 0 #[]⟩, ⟨(some 6), none, .move (.tmp 0)⟩, ⟨(some 7), none, .call ⟨.builtin .append, #[.tmp 5, .tmp 6], #[24, 24]⟩⟩, ⟨(some 2), none, .assign (.tmp 7)⟩]) (.ret)))
noncomputable def l_slices_Clone___api_Put_api_Put_ : List (Nat × Con) := []
noncomputable abbrev K_slices_Clone___api_Put_api_Put_ : Ctx := ctx (cl l_slices_Clone___api_Put_api_Put_)
theorem geq_slices_Clone___api_Put_api_Put_ : gof K_slices_Clone___api_Put_api_Put_ Tryz.f44 = some G_slices_Clone___api_Put_api_Put_.strip := by kernel_rfl
theorem sys_slices_Clone___api_Put_api_Put_ : Go.Eng.Sys Tryz.prog K_slices_Clone___api_Put_api_Put_ := sys_of' (l := []) trivial
theorem hm_slices_Clone___api_Put_api_Put_ : ConMono K_slices_Clone___api_Put_api_Put_ := conMono_of sys_slices_Clone___api_Put_api_Put_.con
theorem nil_slices_Clone___api_Put_api_Put_ : avp K_slices_Clone___api_Put_api_Put_ G_slices_Clone___api_Put_api_Put_ (Ret K_slices_Clone___api_Put_api_Put_ [.tmp 2] fun r _ => r = .t .nilS) (entry [.t (.emq true)] .empty) := by
  unfold G_slices_Clone___api_Put_api_Put_
  simp only [vP.down, vS.down, vE.down, Nat.reduceEqDiff, Nat.reduceAdd, Nat.reduceSub, Nat.reduceMul, Nat.reduceLeDiff, Nat.reduceLT, Int.reduceToNat, reduceIte, reduceCtorEq, Int.reduceEq, Int.reduceLT, Int.reduceLE, ↓avp_condG, ↓tf_arrow, ↓ft_arrow, eql_emq ty_Lapi_Put, false_implies]
  simp only [vP.down, vS.down, vE.down, Nat.reduceEqDiff, Nat.reduceAdd, Nat.reduceSub, Nat.reduceMul, Nat.reduceLeDiff, Nat.reduceLT, Int.reduceToNat, reduceIte, reduceCtorEq, Int.reduceEq, Int.reduceLT, Int.reduceLE, ↓avp_condG, ↓tf_arrow, ↓ft_arrow, vT.down]
theorem row_slices_Clone___api_Put_api_Put_ (x : TV) (l : List (Raw 2)) (h : (x = .emq false ∧ l = []) ∨ (∃ y r, x = sl l ∧ l = y :: r)) (hl : l.length ≤ 1099511627776) :
    avp K_slices_Clone___api_Put_api_Put_ G_slices_Clone___api_Put_api_Put_ (Ret K_slices_Clone___api_Put_api_Put_ [.tmp 2] fun r s' => ∃ g, r = .tok g (Cell.width (Raw 2)) 0 l.length ∧ s'.f g = some (.row (Cell.width (Raw 2)) (l.map Cell.enc) false)) (entry [.t x] .empty) := by
  have fin : ∀ g, Store.empty.f g = none → Shows (Store.empty.set g (some (.row 2 [] false))) (.t x) l → appendV K_slices_Clone___api_Put_api_Put_ 24 (.tok g 2 0 0) (.t x) (fun v s => ∃ g', v = .tok g' (Cell.width (Raw 2)) 0 l.length ∧ s.f g' = some (.row (Cell.width (Raw 2)) (l.map Cell.enc) false)) (Store.empty.set g (some (.row 2 [] false))) := fun g hg hs => by
    refine append_tok (l := ([] : List (Raw 2))) ty_Lapi_Put ty_api_Put rfl (by decide) (Store.set_same _ _ _) hs (by simp; omega) (by simp; omega) fun g' hg' => ⟨g', rfl, Store.set_same _ _ _⟩
  unfold G_slices_Clone___api_Put_api_Put_
  rcases h with ⟨rfl, rfl⟩ | ⟨y, r, rfl, rfl⟩
  · simp only [vP.down, vS.down, vE.down, Nat.reduceEqDiff, Nat.reduceAdd, Nat.reduceSub, Nat.reduceMul, Nat.reduceLeDiff, Nat.reduceLT, Int.reduceToNat, reduceIte, reduceCtorEq, Int.reduceEq, Int.reduceLT, Int.reduceLE, ↓avp_condG, ↓tf_arrow, ↓ft_arrow, eql_emq ty_Lapi_Put, false_implies]
    ((repeat' with_reducible refine And.intro ?_ ?_) <;> try (first | omega | (simp only [List.length_take, List.length_drop, List.length_append, List.length_map, List.length_replicate] <;> omega)))
    intro g hg
    simp only [vP.down, vS.down, vE.down, Nat.reduceEqDiff, Nat.reduceAdd, Nat.reduceSub, Nat.reduceMul, Nat.reduceLeDiff, Nat.reduceLT, Int.reduceToNat, reduceIte, reduceCtorEq, Int.reduceEq, Int.reduceLT, Int.reduceLE, ↓avp_condG, ↓tf_arrow, ↓ft_arrow, vT.down]
    exact fin g hg shows_emq
  · simp only [vP.down, vS.down, vE.down, Nat.reduceEqDiff, Nat.reduceAdd, Nat.reduceSub, Nat.reduceMul, Nat.reduceLeDiff, Nat.reduceLT, Int.reduceToNat, reduceIte, reduceCtorEq, Int.reduceEq, Int.reduceLT, Int.reduceLE, ↓avp_condG, ↓tf_arrow, ↓ft_arrow, eql_seq ty_Lapi_Put, false_implies]
    ((repeat' with_reducible refine And.intro ?_ ?_) <;> try (first | omega | (simp only [List.length_take, List.length_drop, List.length_append, List.length_map, List.length_replicate] <;> omega)))
    intro g hg
    simp only [vP.down, vS.down, vE.down, Nat.reduceEqDiff, Nat.reduceAdd, Nat.reduceSub, Nat.reduceMul, Nat.reduceLeDiff, Nat.reduceLT, Int.reduceToNat, reduceIte, reduceCtorEq, Int.reduceEq, Int.reduceLT, Int.reduceLE, ↓avp_condG, ↓tf_arrow, ↓ft_arrow, vT.down]
    exact fin g hg shows_sl
abbrev A_slices_Clone___api_Put_api_Put_ := clA (Raw 2)
abbrev p_slices_Clone___api_Put_api_Put_ := clP (α := (Raw 2))
abbrev e_slices_Clone___api_Put_api_Put_ := clE (α := (Raw 2))
abbrev mk_slices_Clone___api_Put_api_Put_ := clM (α := (Raw 2))
noncomputable def c_slices_Clone___api_Put_api_Put_ : Con := ownCon A_slices_Clone___api_Put_api_Put_ p_slices_Clone___api_Put_api_Put_ e_slices_Clone___api_Put_api_Put_ mk_slices_Clone___api_Put_api_Put_
theorem ok_slices_Clone___api_Put_api_Put_ : COk Tryz.prog 44 c_slices_Clone___api_Put_api_Put_ := clone_ok sys_slices_Clone___api_Put_api_Put_ mixed Tryz.func44 (by kernel_rfl) geq_slices_Clone___api_Put_api_Put_ Tryz.ntmps44 (by rw [Tryz.results44]) (by decide) nil_slices_Clone___api_Put_api_Put_ row_slices_Clone___api_Put_api_Put_
def G_slices_Clone___api_Run_api_Run_ : GCode := .seq (.region [⟨(some 2), none, .assign (.const (.slice none 0 0))⟩]) (.seq (.seq (.region [⟨(some 3), none, .move (.tmp 0)⟩, ⟨(some 4), none, .binOp .eql 34 (.tmp 3) (.const (.slice none 0 0)) 34⟩]) (.cond (.tmp 4) (.seq (.region [⟨(some 2), none, .assign (.const (.slice none 0 0))⟩]) (.ret)) (.skip))) (.seq (.region [⟨(some 5), none, .buildSlice 34 0 #[]⟩, ⟨(some 6), none, .move (.tmp 0)⟩, ⟨(some 7), none, .call ⟨.builtin .append, #[.tmp 5, .tmp 6], #[34, 34]⟩⟩, ⟨(some 2), none, .assign (.tmp 7)⟩]) (.ret)))
noncomputable def l_slices_Clone___api_Run_api_Run_ : List (Nat × Con) := []
noncomputable abbrev K_slices_Clone___api_Run_api_Run_ : Ctx := ctx (cl l_slices_Clone___api_Run_api_Run_)
theorem geq_slices_Clone___api_Run_api_Run_ : gof K_slices_Clone___api_Run_api_Run_ Tryz.f45 = some G_slices_Clone___api_Run_api_Run_.strip := by kernel_rfl
theorem sys_slices_Clone___api_Run_api_Run_ : Go.Eng.Sys Tryz.prog K_slices_Clone___api_Run_api_Run_ := sys_of' (l := []) trivial
theorem hm_slices_Clone___api_Run_api_Run_ : ConMono K_slices_Clone___api_Run_api_Run_ := conMono_of sys_slices_Clone___api_Run_api_Run_.con
theorem nil_slices_Clone___api_Run_api_Run_ : avp K_slices_Clone___api_Run_api_Run_ G_slices_Clone___api_Run_api_Run_ (Ret K_slices_Clone___api_Run_api_Run_ [.tmp 2] fun r _ => r = .t .nilS) (entry [.t (.emq true)] .empty) := by
  unfold G_slices_Clone___api_Run_api_Run_
  simp only [vP.down, vS.down, vE.down, Nat.reduceEqDiff, Nat.reduceAdd, Nat.reduceSub, Nat.reduceMul, Nat.reduceLeDiff, Nat.reduceLT, Int.reduceToNat, reduceIte, reduceCtorEq, Int.reduceEq, Int.reduceLT, Int.reduceLE, ↓avp_condG, ↓tf_arrow, ↓ft_arrow, eql_emq ty_Lapi_Run, false_implies]
  simp only [vP.down, vS.down, vE.down, Nat.reduceEqDiff, Nat.reduceAdd, Nat.reduceSub, Nat.reduceMul, Nat.reduceLeDiff, Nat.reduceLT, Int.reduceToNat, reduceIte, reduceCtorEq, Int.reduceEq, Int.reduceLT, Int.reduceLE, ↓avp_condG, ↓tf_arrow, ↓ft_arrow, vT.down]
theorem row_slices_Clone___api_Run_api_Run_ (x : TV) (l : List (Raw 2)) (h : (x = .emq false ∧ l = []) ∨ (∃ y r, x = sl l ∧ l = y :: r)) (hl : l.length ≤ 1099511627776) :
    avp K_slices_Clone___api_Run_api_Run_ G_slices_Clone___api_Run_api_Run_ (Ret K_slices_Clone___api_Run_api_Run_ [.tmp 2] fun r s' => ∃ g, r = .tok g (Cell.width (Raw 2)) 0 l.length ∧ s'.f g = some (.row (Cell.width (Raw 2)) (l.map Cell.enc) false)) (entry [.t x] .empty) := by
  have fin : ∀ g, Store.empty.f g = none → Shows (Store.empty.set g (some (.row 2 [] false))) (.t x) l → appendV K_slices_Clone___api_Run_api_Run_ 34 (.tok g 2 0 0) (.t x) (fun v s => ∃ g', v = .tok g' (Cell.width (Raw 2)) 0 l.length ∧ s.f g' = some (.row (Cell.width (Raw 2)) (l.map Cell.enc) false)) (Store.empty.set g (some (.row 2 [] false))) := fun g hg hs => by
    refine append_tok (l := ([] : List (Raw 2))) ty_Lapi_Run ty_api_Run rfl (by decide) (Store.set_same _ _ _) hs (by simp; omega) (by simp; omega) fun g' hg' => ⟨g', rfl, Store.set_same _ _ _⟩
  unfold G_slices_Clone___api_Run_api_Run_
  rcases h with ⟨rfl, rfl⟩ | ⟨y, r, rfl, rfl⟩
  · simp only [vP.down, vS.down, vE.down, Nat.reduceEqDiff, Nat.reduceAdd, Nat.reduceSub, Nat.reduceMul, Nat.reduceLeDiff, Nat.reduceLT, Int.reduceToNat, reduceIte, reduceCtorEq, Int.reduceEq, Int.reduceLT, Int.reduceLE, ↓avp_condG, ↓tf_arrow, ↓ft_arrow, eql_emq ty_Lapi_Run, false_implies]
    ((repeat' with_reducible refine And.intro ?_ ?_) <;> try (first | omega | (simp only [List.length_take, List.length_drop, List.length_append, List.length_map, List.length_replicate] <;> omega)))
    intro g hg
    simp only [vP.down, vS.down, vE.down, Nat.reduceEqDiff, Nat.reduceAdd, Nat.reduceSub, Nat.reduceMul, Nat.reduceLeDiff, Nat.reduceLT, Int.reduceToNat, reduceIte, reduceCtorEq, Int.reduceEq, Int.reduceLT, Int.reduceLE, ↓avp_condG, ↓tf_arrow, ↓ft_arrow, vT.down]
    exact fin g hg shows_emq
  · simp only [vP.down, vS.down, vE.down, Nat.reduceEqDiff, Nat.reduceAdd, Nat.reduceSub, Nat.reduceMul, Nat.reduceLeDiff, Nat.reduceLT, Int.reduceToNat, reduceIte, reduceCtorEq, Int.reduceEq, Int.reduceLT, Int.reduceLE, ↓avp_condG, ↓tf_arrow, ↓ft_arrow, eql_seq ty_Lapi_Run, false_implies]
    ((repeat' with_reducible refine And.intro ?_ ?_) <;> try (first | omega | (simp only [List.length_take, List.length_drop, List.length_append, List.length_map, List.length_replicate] <;> omega)))
    intro g hg
    simp only [vP.down, vS.down, vE.down, Nat.reduceEqDiff, Nat.reduceAdd, Nat.reduceSub, Nat.reduceMul, Nat.reduceLeDiff, Nat.reduceLT, Int.reduceToNat, reduceIte, reduceCtorEq, Int.reduceEq, Int.reduceLT, Int.reduceLE, ↓avp_condG, ↓tf_arrow, ↓ft_arrow, vT.down]
    exact fin g hg shows_sl
abbrev A_slices_Clone___api_Run_api_Run_ := clA (Raw 2)
abbrev p_slices_Clone___api_Run_api_Run_ := clP (α := (Raw 2))
abbrev e_slices_Clone___api_Run_api_Run_ := clE (α := (Raw 2))
abbrev mk_slices_Clone___api_Run_api_Run_ := clM (α := (Raw 2))
noncomputable def c_slices_Clone___api_Run_api_Run_ : Con := ownCon A_slices_Clone___api_Run_api_Run_ p_slices_Clone___api_Run_api_Run_ e_slices_Clone___api_Run_api_Run_ mk_slices_Clone___api_Run_api_Run_
theorem ok_slices_Clone___api_Run_api_Run_ : COk Tryz.prog 45 c_slices_Clone___api_Run_api_Run_ := clone_ok sys_slices_Clone___api_Run_api_Run_ mixed Tryz.func45 (by kernel_rfl) geq_slices_Clone___api_Run_api_Run_ Tryz.ntmps45 (by rw [Tryz.results45]) (by decide) nil_slices_Clone___api_Run_api_Run_ row_slices_Clone___api_Run_api_Run_
def G_slices_Clone___api_Dset_api_Dset_ : GCode := .seq (.region [⟨(some 2), none, .assign (.const (.slice none 0 0))⟩]) (.seq (.seq (.region [⟨(some 3), none, .move (.tmp 0)⟩, ⟨(some 4), none, .binOp .eql 37 (.tmp 3) (.const (.slice none 0 0)) 37⟩]) (.cond (.tmp 4) (.seq (.region [⟨(some 2), none, .assign (.const (.slice none 0 0))⟩]) (.ret)) (.skip))) (.seq (.region [⟨(some 5), none, .buildSlice 37 0 #[]⟩, ⟨(some 6), none, .move (.tmp 0)⟩, ⟨(some 7), none, .call ⟨.builtin .append, #[.tmp 5, .tmp 6], #[37, 37]⟩⟩, ⟨(some 2), none, .assign (.tmp 7)⟩]) (.ret)))
noncomputable def l_slices_Clone___api_Dset_api_Dset_ : List (Nat × Con) := []
noncomputable abbrev K_slices_Clone___api_Dset_api_Dset_ : Ctx := ctx (cl l_slices_Clone___api_Dset_api_Dset_)
theorem geq_slices_Clone___api_Dset_api_Dset_ : gof K_slices_Clone___api_Dset_api_Dset_ Tryz.f46 = some G_slices_Clone___api_Dset_api_Dset_.strip := by kernel_rfl
theorem sys_slices_Clone___api_Dset_api_Dset_ : Go.Eng.Sys Tryz.prog K_slices_Clone___api_Dset_api_Dset_ := sys_of' (l := []) trivial
theorem hm_slices_Clone___api_Dset_api_Dset_ : ConMono K_slices_Clone___api_Dset_api_Dset_ := conMono_of sys_slices_Clone___api_Dset_api_Dset_.con
theorem nil_slices_Clone___api_Dset_api_Dset_ : avp K_slices_Clone___api_Dset_api_Dset_ G_slices_Clone___api_Dset_api_Dset_ (Ret K_slices_Clone___api_Dset_api_Dset_ [.tmp 2] fun r _ => r = .t .nilS) (entry [.t (.emq true)] .empty) := by
  unfold G_slices_Clone___api_Dset_api_Dset_
  simp only [vP.down, vS.down, vE.down, Nat.reduceEqDiff, Nat.reduceAdd, Nat.reduceSub, Nat.reduceMul, Nat.reduceLeDiff, Nat.reduceLT, Int.reduceToNat, reduceIte, reduceCtorEq, Int.reduceEq, Int.reduceLT, Int.reduceLE, ↓avp_condG, ↓tf_arrow, ↓ft_arrow, eql_emq ty_Lapi_Dset, false_implies]
  simp only [vP.down, vS.down, vE.down, Nat.reduceEqDiff, Nat.reduceAdd, Nat.reduceSub, Nat.reduceMul, Nat.reduceLeDiff, Nat.reduceLT, Int.reduceToNat, reduceIte, reduceCtorEq, Int.reduceEq, Int.reduceLT, Int.reduceLE, ↓avp_condG, ↓tf_arrow, ↓ft_arrow, vT.down]
theorem row_slices_Clone___api_Dset_api_Dset_ (x : TV) (l : List (Raw 5)) (h : (x = .emq false ∧ l = []) ∨ (∃ y r, x = sl l ∧ l = y :: r)) (hl : l.length ≤ 1099511627776) :
    avp K_slices_Clone___api_Dset_api_Dset_ G_slices_Clone___api_Dset_api_Dset_ (Ret K_slices_Clone___api_Dset_api_Dset_ [.tmp 2] fun r s' => ∃ g, r = .tok g (Cell.width (Raw 5)) 0 l.length ∧ s'.f g = some (.row (Cell.width (Raw 5)) (l.map Cell.enc) false)) (entry [.t x] .empty) := by
  have fin : ∀ g, Store.empty.f g = none → Shows (Store.empty.set g (some (.row 5 [] false))) (.t x) l → appendV K_slices_Clone___api_Dset_api_Dset_ 37 (.tok g 5 0 0) (.t x) (fun v s => ∃ g', v = .tok g' (Cell.width (Raw 5)) 0 l.length ∧ s.f g' = some (.row (Cell.width (Raw 5)) (l.map Cell.enc) false)) (Store.empty.set g (some (.row 5 [] false))) := fun g hg hs => by
    refine append_tok (l := ([] : List (Raw 5))) ty_Lapi_Dset ty_api_Dset rfl (by decide) (Store.set_same _ _ _) hs (by simp; omega) (by simp; omega) fun g' hg' => ⟨g', rfl, Store.set_same _ _ _⟩
  unfold G_slices_Clone___api_Dset_api_Dset_
  rcases h with ⟨rfl, rfl⟩ | ⟨y, r, rfl, rfl⟩
  · simp only [vP.down, vS.down, vE.down, Nat.reduceEqDiff, Nat.reduceAdd, Nat.reduceSub, Nat.reduceMul, Nat.reduceLeDiff, Nat.reduceLT, Int.reduceToNat, reduceIte, reduceCtorEq, Int.reduceEq, Int.reduceLT, Int.reduceLE, ↓avp_condG, ↓tf_arrow, ↓ft_arrow, eql_emq ty_Lapi_Dset, false_implies]
    ((repeat' with_reducible refine And.intro ?_ ?_) <;> try (first | omega | (simp only [List.length_take, List.length_drop, List.length_append, List.length_map, List.length_replicate] <;> omega)))
    intro g hg
    simp only [vP.down, vS.down, vE.down, Nat.reduceEqDiff, Nat.reduceAdd, Nat.reduceSub, Nat.reduceMul, Nat.reduceLeDiff, Nat.reduceLT, Int.reduceToNat, reduceIte, reduceCtorEq, Int.reduceEq, Int.reduceLT, Int.reduceLE, ↓avp_condG, ↓tf_arrow, ↓ft_arrow, vT.down]
    exact fin g hg shows_emq
  · simp only [vP.down, vS.down, vE.down, Nat.reduceEqDiff, Nat.reduceAdd, Nat.reduceSub, Nat.reduceMul, Nat.reduceLeDiff, Nat.reduceLT, Int.reduceToNat, reduceIte, reduceCtorEq, Int.reduceEq, Int.reduceLT, Int.reduceLE, ↓avp_condG, ↓tf_arrow, ↓ft_arrow, eql_seq ty_Lapi_Dset, false_implies]
    ((repeat' with_reducible refine And.intro ?_ ?_) <;> try (first | omega | (simp only [List.length_take, List.length_drop, List.length_append, List.length_map, List.length_replicate] <;> omega)))
    intro g hg
    simp only [vP.down, vS.down, vE.down, Nat.reduceEqDiff, Nat.reduceAdd, Nat.reduceSub, Nat.reduceMul, Nat.reduceLeDiff, Nat.reduceLT, Int.reduceToNat, reduceIte, reduceCtorEq, Int.reduceEq, Int.reduceLT, Int.reduceLE, ↓avp_condG, ↓tf_arrow, ↓ft_arrow, vT.down]
    exact fin g hg shows_sl
abbrev A_slices_Clone___api_Dset_api_Dset_ := clA (Raw 5)
abbrev p_slices_Clone___api_Dset_api_Dset_ := clP (α := (Raw 5))
abbrev e_slices_Clone___api_Dset_api_Dset_ := clE (α := (Raw 5))
abbrev mk_slices_Clone___api_Dset_api_Dset_ := clM (α := (Raw 5))
noncomputable def c_slices_Clone___api_Dset_api_Dset_ : Con := ownCon A_slices_Clone___api_Dset_api_Dset_ p_slices_Clone___api_Dset_api_Dset_ e_slices_Clone___api_Dset_api_Dset_ mk_slices_Clone___api_Dset_api_Dset_
theorem ok_slices_Clone___api_Dset_api_Dset_ : COk Tryz.prog 46 c_slices_Clone___api_Dset_api_Dset_ := clone_ok sys_slices_Clone___api_Dset_api_Dset_ mixed Tryz.func46 (by kernel_rfl) geq_slices_Clone___api_Dset_api_Dset_ Tryz.ntmps46 (by rw [Tryz.results46]) (by decide) nil_slices_Clone___api_Dset_api_Dset_ row_slices_Clone___api_Dset_api_Dset_
def G_slices_Clone_api_Set_api_Node_ : GCode := .seq (.region [⟨(some 2), none, .assign (.const (.slice none 0 0))⟩]) (.seq (.seq (.region [⟨(some 3), none, .move (.tmp 0)⟩, ⟨(some 4), none, .binOp .eql 75 (.tmp 3) (.const (.slice none 0 0)) 75⟩]) (.cond (.tmp 4) (.seq (.region [⟨(some 2), none, .assign (.const (.slice none 0 0))⟩]) (.ret)) (.skip))) (.seq (.region [⟨(some 5), none, .buildSlice 75 0 #[]⟩, ⟨(some 6), none, .move (.tmp 0)⟩, ⟨(some 7), none, .call ⟨.builtin .append, #[.tmp 5, .tmp 6], #[75, 75]⟩⟩, ⟨(some 2), none, .assign (.tmp 7)⟩]) (.ret)))
noncomputable def l_slices_Clone_api_Set_api_Node_ : List (Nat × Con) := []
noncomputable abbrev K_slices_Clone_api_Set_api_Node_ : Ctx := ctx (cl l_slices_Clone_api_Set_api_Node_)
theorem geq_slices_Clone_api_Set_api_Node_ : gof K_slices_Clone_api_Set_api_Node_ Tryz.f47 = some G_slices_Clone_api_Set_api_Node_.strip := by kernel_rfl
theorem sys_slices_Clone_api_Set_api_Node_ : Go.Eng.Sys Tryz.prog K_slices_Clone_api_Set_api_Node_ := sys_of' (l := []) trivial
theorem hm_slices_Clone_api_Set_api_Node_ : ConMono K_slices_Clone_api_Set_api_Node_ := conMono_of sys_slices_Clone_api_Set_api_Node_.con
theorem nil_slices_Clone_api_Set_api_Node_ : avp K_slices_Clone_api_Set_api_Node_ G_slices_Clone_api_Set_api_Node_ (Ret K_slices_Clone_api_Set_api_Node_ [.tmp 2] fun r _ => r = .t .nilS) (entry [.t (.emq true)] .empty) := by
  unfold G_slices_Clone_api_Set_api_Node_
  simp only [vP.down, vS.down, vE.down, Nat.reduceEqDiff, Nat.reduceAdd, Nat.reduceSub, Nat.reduceMul, Nat.reduceLeDiff, Nat.reduceLT, Int.reduceToNat, reduceIte, reduceCtorEq, Int.reduceEq, Int.reduceLT, Int.reduceLE, ↓avp_condG, ↓tf_arrow, ↓ft_arrow, eql_emq ty_api_Set, false_implies]
  simp only [vP.down, vS.down, vE.down, Nat.reduceEqDiff, Nat.reduceAdd, Nat.reduceSub, Nat.reduceMul, Nat.reduceLeDiff, Nat.reduceLT, Int.reduceToNat, reduceIte, reduceCtorEq, Int.reduceEq, Int.reduceLT, Int.reduceLE, ↓avp_condG, ↓tf_arrow, ↓ft_arrow, vT.down]
theorem row_slices_Clone_api_Set_api_Node_ (x : TV) (l : List (Raw 5)) (h : (x = .emq false ∧ l = []) ∨ (∃ y r, x = sl l ∧ l = y :: r)) (hl : l.length ≤ 1099511627776) :
    avp K_slices_Clone_api_Set_api_Node_ G_slices_Clone_api_Set_api_Node_ (Ret K_slices_Clone_api_Set_api_Node_ [.tmp 2] fun r s' => ∃ g, r = .tok g (Cell.width (Raw 5)) 0 l.length ∧ s'.f g = some (.row (Cell.width (Raw 5)) (l.map Cell.enc) false)) (entry [.t x] .empty) := by
  have fin : ∀ g, Store.empty.f g = none → Shows (Store.empty.set g (some (.row 5 [] false))) (.t x) l → appendV K_slices_Clone_api_Set_api_Node_ 75 (.tok g 5 0 0) (.t x) (fun v s => ∃ g', v = .tok g' (Cell.width (Raw 5)) 0 l.length ∧ s.f g' = some (.row (Cell.width (Raw 5)) (l.map Cell.enc) false)) (Store.empty.set g (some (.row 5 [] false))) := fun g hg hs => by
    refine append_tok (l := ([] : List (Raw 5))) ty_api_Set ty_api_Node rfl (by decide) (Store.set_same _ _ _) hs (by simp; omega) (by simp; omega) fun g' hg' => ⟨g', rfl, Store.set_same _ _ _⟩
  unfold G_slices_Clone_api_Set_api_Node_
  rcases h with ⟨rfl, rfl⟩ | ⟨y, r, rfl, rfl⟩
  · simp only [vP.down, vS.down, vE.down, Nat.reduceEqDiff, Nat.reduceAdd, Nat.reduceSub, Nat.reduceMul, Nat.reduceLeDiff, Nat.reduceLT, Int.reduceToNat, reduceIte, reduceCtorEq, Int.reduceEq, Int.reduceLT, Int.reduceLE, ↓avp_condG, ↓tf_arrow, ↓ft_arrow, eql_emq ty_api_Set, false_implies]
    ((repeat' with_reducible refine And.intro ?_ ?_) <;> try (first | omega | (simp only [List.length_take, List.length_drop, List.length_append, List.length_map, List.length_replicate] <;> omega)))
    intro g hg
    simp only [vP.down, vS.down, vE.down, Nat.reduceEqDiff, Nat.reduceAdd, Nat.reduceSub, Nat.reduceMul, Nat.reduceLeDiff, Nat.reduceLT, Int.reduceToNat, reduceIte, reduceCtorEq, Int.reduceEq, Int.reduceLT, Int.reduceLE, ↓avp_condG, ↓tf_arrow, ↓ft_arrow, vT.down]
    exact fin g hg shows_emq
  · simp only [vP.down, vS.down, vE.down, Nat.reduceEqDiff, Nat.reduceAdd, Nat.reduceSub, Nat.reduceMul, Nat.reduceLeDiff, Nat.reduceLT, Int.reduceToNat, reduceIte, reduceCtorEq, Int.reduceEq, Int.reduceLT, Int.reduceLE, ↓avp_condG, ↓tf_arrow, ↓ft_arrow, eql_seq ty_api_Set, false_implies]
    ((repeat' with_reducible refine And.intro ?_ ?_) <;> try (first | omega | (simp only [List.length_take, List.length_drop, List.length_append, List.length_map, List.length_replicate] <;> omega)))
    intro g hg
    simp only [vP.down, vS.down, vE.down, Nat.reduceEqDiff, Nat.reduceAdd, Nat.reduceSub, Nat.reduceMul, Nat.reduceLeDiff, Nat.reduceLT, Int.reduceToNat, reduceIte, reduceCtorEq, Int.reduceEq, Int.reduceLT, Int.reduceLE, ↓avp_condG, ↓tf_arrow, ↓ft_arrow, vT.down]
    exact fin g hg shows_sl
abbrev A_slices_Clone_api_Set_api_Node_ := clA (Raw 5)
abbrev p_slices_Clone_api_Set_api_Node_ := clP (α := (Raw 5))
abbrev e_slices_Clone_api_Set_api_Node_ := clE (α := (Raw 5))
abbrev mk_slices_Clone_api_Set_api_Node_ := clM (α := (Raw 5))
noncomputable def c_slices_Clone_api_Set_api_Node_ : Con := ownCon A_slices_Clone_api_Set_api_Node_ p_slices_Clone_api_Set_api_Node_ e_slices_Clone_api_Set_api_Node_ mk_slices_Clone_api_Set_api_Node_
theorem ok_slices_Clone_api_Set_api_Node_ : COk Tryz.prog 47 c_slices_Clone_api_Set_api_Node_ := clone_ok sys_slices_Clone_api_Set_api_Node_ mixed Tryz.func47 (by kernel_rfl) geq_slices_Clone_api_Set_api_Node_ Tryz.ntmps47 (by rw [Tryz.results47]) (by decide) nil_slices_Clone_api_Set_api_Node_ row_slices_Clone_api_Set_api_Node_
def G_slices_Clone___int_int_ : GCode := .seq (.region [⟨(some 2), none, .assign (.const (.slice none 0 0))⟩]) (.seq (.seq (.region [⟨(some 3), none, .move (.tmp 0)⟩, ⟨(some 4), none, .binOp .eql 43 (.tmp 3) (.const (.slice none 0 0)) 43⟩]) (.cond (.tmp 4) (.seq (.region [⟨(some 2), none, .assign (.const (.slice none 0 0))⟩]) (.ret)) (.skip))) (.seq (.region [⟨(some 5), none, .buildSlice 43 0 #[]⟩, ⟨(some 6), none, .move (.tmp 0)⟩, ⟨(some 7), none, .call ⟨.builtin .append, #[.tmp 5, .tmp 6], #[43, 43]⟩⟩, ⟨(some 2), none, .assign (.tmp 7)⟩]) (.ret)))
noncomputable def l_slices_Clone___int_int_ : List (Nat × Con) := []
noncomputable abbrev K_slices_Clone___int_int_ : Ctx := ctx (cl l_slices_Clone___int_int_)
theorem geq_slices_Clone___int_int_ : gof K_slices_Clone___int_int_ Tryz.f119 = some G_slices_Clone___int_int_.strip := by kernel_rfl
theorem sys_slices_Clone___int_int_ : Go.Eng.Sys Tryz.prog K_slices_Clone___int_int_ := sys_of' (l := []) trivial
theorem hm_slices_Clone___int_int_ : ConMono K_slices_Clone___int_int_ := conMono_of sys_slices_Clone___int_int_.con
theorem nil_slices_Clone___int_int_ : avp K_slices_Clone___int_int_ G_slices_Clone___int_int_ (Ret K_slices_Clone___int_int_ [.tmp 2] fun r _ => r = .t .nilS) (entry [.t (.emq true)] .empty) := by
  unfold G_slices_Clone___int_int_
  simp only [vP.down, vS.down, vE.down, Nat.reduceEqDiff, Nat.reduceAdd, Nat.reduceSub, Nat.reduceMul, Nat.reduceLeDiff, Nat.reduceLT, Int.reduceToNat, reduceIte, reduceCtorEq, Int.reduceEq, Int.reduceLT, Int.reduceLE, ↓avp_condG, ↓tf_arrow, ↓ft_arrow, eql_emq ty_Lint, false_implies]
  simp only [vP.down, vS.down, vE.down, Nat.reduceEqDiff, Nat.reduceAdd, Nat.reduceSub, Nat.reduceMul, Nat.reduceLeDiff, Nat.reduceLT, Int.reduceToNat, reduceIte, reduceCtorEq, Int.reduceEq, Int.reduceLT, Int.reduceLE, ↓avp_condG, ↓tf_arrow, ↓ft_arrow, vT.down]
theorem row_slices_Clone___int_int_ (x : TV) (l : List (Raw 1)) (h : (x = .emq false ∧ l = []) ∨ (∃ y r, x = sl l ∧ l = y :: r)) (hl : l.length ≤ 1099511627776) :
    avp K_slices_Clone___int_int_ G_slices_Clone___int_int_ (Ret K_slices_Clone___int_int_ [.tmp 2] fun r s' => ∃ g, r = .tok g (Cell.width (Raw 1)) 0 l.length ∧ s'.f g = some (.row (Cell.width (Raw 1)) (l.map Cell.enc) false)) (entry [.t x] .empty) := by
  have fin : ∀ g, Store.empty.f g = none → Shows (Store.empty.set g (some (.row 1 [] false))) (.t x) l → appendV K_slices_Clone___int_int_ 43 (.tok g 1 0 0) (.t x) (fun v s => ∃ g', v = .tok g' (Cell.width (Raw 1)) 0 l.length ∧ s.f g' = some (.row (Cell.width (Raw 1)) (l.map Cell.enc) false)) (Store.empty.set g (some (.row 1 [] false))) := fun g hg hs => by
    refine append_tok (l := ([] : List (Raw 1))) ty_Lint ty_int rfl (by decide) (Store.set_same _ _ _) hs (by simp; omega) (by simp; omega) fun g' hg' => ⟨g', rfl, Store.set_same _ _ _⟩
  unfold G_slices_Clone___int_int_
  rcases h with ⟨rfl, rfl⟩ | ⟨y, r, rfl, rfl⟩
  · simp only [vP.down, vS.down, vE.down, Nat.reduceEqDiff, Nat.reduceAdd, Nat.reduceSub, Nat.reduceMul, Nat.reduceLeDiff, Nat.reduceLT, Int.reduceToNat, reduceIte, reduceCtorEq, Int.reduceEq, Int.reduceLT, Int.reduceLE, ↓avp_condG, ↓tf_arrow, ↓ft_arrow, eql_emq ty_Lint, false_implies]
    ((repeat' with_reducible refine And.intro ?_ ?_) <;> try (first | omega | (simp only [List.length_take, List.length_drop, List.length_append, List.length_map, List.length_replicate] <;> omega)))
    intro g hg
    simp only [vP.down, vS.down, vE.down, Nat.reduceEqDiff, Nat.reduceAdd, Nat.reduceSub, Nat.reduceMul, Nat.reduceLeDiff, Nat.reduceLT, Int.reduceToNat, reduceIte, reduceCtorEq, Int.reduceEq, Int.reduceLT, Int.reduceLE, ↓avp_condG, ↓tf_arrow, ↓ft_arrow, vT.down]
    exact fin g hg shows_emq
  · simp only [vP.down, vS.down, vE.down, Nat.reduceEqDiff, Nat.reduceAdd, Nat.reduceSub, Nat.reduceMul, Nat.reduceLeDiff, Nat.reduceLT, Int.reduceToNat, reduceIte, reduceCtorEq, Int.reduceEq, Int.reduceLT, Int.reduceLE, ↓avp_condG, ↓tf_arrow, ↓ft_arrow, eql_seq ty_Lint, false_implies]
    ((repeat' with_reducible refine And.intro ?_ ?_) <;> try (first | omega | (simp only [List.length_take, List.length_drop, List.length_append, List.length_map, List.length_replicate] <;> omega)))
    intro g hg
    simp only [vP.down, vS.down, vE.down, Nat.reduceEqDiff, Nat.reduceAdd, Nat.reduceSub, Nat.reduceMul, Nat.reduceLeDiff, Nat.reduceLT, Int.reduceToNat, reduceIte, reduceCtorEq, Int.reduceEq, Int.reduceLT, Int.reduceLE, ↓avp_condG, ↓tf_arrow, ↓ft_arrow, vT.down]
    exact fin g hg shows_sl
abbrev A_slices_Clone___int_int_ := clA (Raw 1)
abbrev p_slices_Clone___int_int_ := clP (α := (Raw 1))
abbrev e_slices_Clone___int_int_ := clE (α := (Raw 1))
abbrev mk_slices_Clone___int_int_ := clM (α := (Raw 1))
noncomputable def c_slices_Clone___int_int_ : Con := ownCon A_slices_Clone___int_int_ p_slices_Clone___int_int_ e_slices_Clone___int_int_ mk_slices_Clone___int_int_
theorem ok_slices_Clone___int_int_ : COk Tryz.prog 119 c_slices_Clone___int_int_ := clone_ok sys_slices_Clone___int_int_ mixed Tryz.func119 (by kernel_rfl) geq_slices_Clone___int_int_ Tryz.ntmps119 (by rw [Tryz.results119]) (by decide) nil_slices_Clone___int_int_ row_slices_Clone___int_int_
end Go.Proofs.YtenckbcdfdmckaaGreatDoor


namespace Go.Proofs.YtenckbcdfdmckaaGreatDoor
open Go Go.Eng
set_option maxRecDepth 100000
theorem sl_mx {α : Type} [Cell α] {C : Ctx} {T e : TypeId} {n m : Nat} {z : List TV} {k k' : IntKind} {x y : Int} {l : List α} {de : TyD} (h : C.ty T = some ⟨.slice e, n, m, z⟩) (he : C.ty e = some de) (hw : de.size = Cell.width α) :
    sliceB C T (.t (sl l)) none (some (.t (.int k x))) (some (.t (.int k' y))) = .val (0 ≤ x ∧ x ≤ y ∧ y ≤ (l.length : Int)) (if y = 0 then .t .emp else .t (sl (l.take x.toNat))) := by
  simp [sliceB, h, he, hw, AV.intOr, sl, List.map_take]

def G_slices_Clip___api_Ptr_api_Ptr_ : GCode := .seq (.region [⟨(some 2), none, .assign (.const (.slice none 0 0))⟩]) (.seq (.region [⟨(some 3), none, .move (.tmp 0)⟩, ⟨(some 4), none, .move (.tmp 0)⟩, ⟨(some 5), none, .call ⟨.builtin .len, #[.tmp 4], #[95]⟩⟩, ⟨(some 6), none, .move (.tmp 0)⟩, ⟨(some 7), none, .call ⟨.builtin .len, #[.tmp 6], #[95]⟩⟩, ⟨(some 8), none, .slice 95 (.tmp 3) none (some (.tmp 5)) (some (.tmp 7))⟩, ⟨(some 2), none, .assign (.tmp 8)⟩]) (.ret))
noncomputable def l_slices_Clip___api_Ptr_api_Ptr_ : List (Nat × Con) := []
noncomputable abbrev K_slices_Clip___api_Ptr_api_Ptr_ : Ctx := ctx (cl l_slices_Clip___api_Ptr_api_Ptr_)
theorem geq_slices_Clip___api_Ptr_api_Ptr_ : gof K_slices_Clip___api_Ptr_api_Ptr_ Tryz.f317 = some G_slices_Clip___api_Ptr_api_Ptr_.strip := by kernel_rfl
theorem sys_slices_Clip___api_Ptr_api_Ptr_ : Go.Eng.Sys Tryz.prog K_slices_Clip___api_Ptr_api_Ptr_ := sys_of' (l := []) trivial
theorem hm_slices_Clip___api_Ptr_api_Ptr_ : ConMono K_slices_Clip___api_Ptr_api_Ptr_ := conMono_of sys_slices_Clip___api_Ptr_api_Ptr_.con
def A_slices_Clip___api_Ptr_api_Ptr_ := Arms.cons (argT (List (Raw 6))) Arms.nil
def p_slices_Clip___api_Ptr_api_Ptr_ (x : List (Raw 6) × Unit) : Prop := True
def r_slices_Clip___api_Ptr_api_Ptr_ (x : List (Raw 6) × Unit) : AV := .t (sl x.1)
theorem body_slices_Clip___api_Ptr_api_Ptr_ (x : List (Raw 6) × Unit) (hp : p_slices_Clip___api_Ptr_api_Ptr_ x) : avp K_slices_Clip___api_Ptr_api_Ptr_ G_slices_Clip___api_Ptr_api_Ptr_ (Ret K_slices_Clip___api_Ptr_api_Ptr_ [.tmp 2] fun v s' => Frz s' v (r_slices_Clip___api_Ptr_api_Ptr_ x)) (entry (A_slices_Clip___api_Ptr_api_Ptr_.enc x) .empty) := by
  obtain ⟨l, ⟨⟩⟩ := x
  change avp _ _ (Ret _ _ fun v s' => Frz s' v (.t (sl l))) (entry [.t (sl l)] .empty)
  unfold G_slices_Clip___api_Ptr_api_Ptr_
  have hx := fun (y : Int) (k k' : IntKind) => @sl_mx (Raw 6) _ K_slices_Clip___api_Ptr_api_Ptr_ _ _ _ _ _ k k' y y l _ ty_Lapi_Ptr ty_api_Ptr rfl
  have hr := sl_rules (C := K_slices_Clip___api_Ptr_api_Ptr_) (Raw 6) ty_Lapi_Ptr ty_api_Ptr rfl
  by_cases h0 : (l.length : Int) = 0
  · obtain rfl : l = [] := List.length_eq_zero_iff.1 (by omega)
    simp only [vP.down, vS.down, vE.down, Nat.reduceEqDiff, Nat.reduceAdd, Nat.reduceSub, Nat.reduceMul, Nat.reduceLeDiff, Nat.reduceLT, Int.reduceToNat, reduceIte, reduceCtorEq, Int.reduceEq, Int.reduceLT, Int.reduceLE, ↓avp_condG, ↓tf_arrow, ↓ft_arrow, hr, hx, List.length_nil, Int.natCast_zero]
    simp only [vP.down, vS.down, vE.down, Nat.reduceEqDiff, Nat.reduceAdd, Nat.reduceSub, Nat.reduceMul, Nat.reduceLeDiff, Nat.reduceLT, Int.reduceToNat, reduceIte, reduceCtorEq, Int.reduceEq, Int.reduceLT, Int.reduceLE, ↓avp_condG, ↓tf_arrow, ↓ft_arrow, vT.down]
    exact .inr (.inl ⟨_, rfl, .inr rfl⟩)
  simp only [vP.down, vS.down, vE.down, Nat.reduceEqDiff, Nat.reduceAdd, Nat.reduceSub, Nat.reduceMul, Nat.reduceLeDiff, Nat.reduceLT, Int.reduceToNat, reduceIte, reduceCtorEq, Int.reduceEq, Int.reduceLT, Int.reduceLE, ↓avp_condG, ↓tf_arrow, ↓ft_arrow, hr, hx, h0]
  refine ⟨by omega, ?_⟩
  simp only [vP.down, vS.down, vE.down, Nat.reduceEqDiff, Nat.reduceAdd, Nat.reduceSub, Nat.reduceMul, Nat.reduceLeDiff, Nat.reduceLT, Int.reduceToNat, reduceIte, reduceCtorEq, Int.reduceEq, Int.reduceLT, Int.reduceLE, ↓avp_condG, ↓tf_arrow, ↓ft_arrow, vT.down, List.take_length]
noncomputable def c_slices_Clip___api_Ptr_api_Ptr_ : Con := fnCon A_slices_Clip___api_Ptr_api_Ptr_ p_slices_Clip___api_Ptr_api_Ptr_ r_slices_Clip___api_Ptr_api_Ptr_
theorem ok_slices_Clip___api_Ptr_api_Ptr_ : COk Tryz.prog 317 c_slices_Clip___api_Ptr_api_Ptr_ := fn_ok sys_slices_Clip___api_Ptr_api_Ptr_ mixed Tryz.func317 (by kernel_rfl) geq_slices_Clip___api_Ptr_api_Ptr_ Tryz.ntmps317 (by rw [Tryz.results317]) fun x hx => ⟨Nat.le_of_ble_eq_true rfl, body_slices_Clip___api_Ptr_api_Ptr_ x hx⟩

end Go.Proofs.YtenckbcdfdmckaaGreatDoor


namespace Go.Proofs.YtenckbcdfdmckaaGreatDoor
open Go Go.Eng Go.Shelf Go.Proofs
def lays106_ren : Go.Shelf.Ren := ⟨fun | 106 => 191 | 213 => 237 | 265 => 282 | n => n, fun | 9 => 9 | 3 => 3 | n => n, fun | n => n⟩
theorem lays106 : Go.Proofs.Lays.n106 Tryz.prog lays106_ren := {
  mixed := by kernel_rfl
  f106 := Tryz.func191.trans (congrArg some (by kernel_rfl))
  f213 := Tryz.func237.trans (congrArg some (by kernel_rfl))
  f265 := Tryz.func282.trans (congrArg some (by kernel_rfl))
  t3 := Tryz.underlying3
  a3 := Tryz.isAgg3
  z3 := Tryz.sizeOf3
  v3 := Tryz.zeroValue3
  t9 := Tryz.underlying9
  a9 := Tryz.isAgg9
  z9 := Tryz.sizeOf9
  v9 := Tryz.zeroValue9 }
open Go.RowKit in
theorem strings_Compare (a b : ByteArray) (w : World) :
    Calls Tryz.prog 191 #[.string a, .string b] w fun e w' => e = .returned (.int .i64 (Lib.compareBytes a.data.toList b.data.toList)) ∧ w' = w := Any.strings_Compare lays106 a b w
def lays137_ren : Go.Shelf.Ren := ⟨fun | 137 => 327 | 217 => 337 | 266 => 344 | n => n, fun | 9 => 9 | 5 => 5 | 3 => 3 | n => n, fun | n => n⟩
theorem lays137 : Go.Proofs.Lays.n137 Tryz.prog lays137_ren := {
  mixed := by kernel_rfl
  f137 := Tryz.func327.trans (congrArg some (by kernel_rfl))
  f217 := Tryz.func337.trans (congrArg some (by kernel_rfl))
  f266 := Tryz.func344.trans (congrArg some (by kernel_rfl))
  t3 := Tryz.underlying3
  a3 := Tryz.isAgg3
  z3 := Tryz.sizeOf3
  v3 := Tryz.zeroValue3
  t5 := Tryz.underlying5
  a5 := Tryz.isAgg5
  z5 := Tryz.sizeOf5
  v5 := Tryz.zeroValue5
  t9 := Tryz.underlying9
  a9 := Tryz.isAgg9
  z9 := Tryz.sizeOf9
  v9 := Tryz.zeroValue9 }
open Go.RowKit in
theorem strings_IndexByte (s : ByteArray) (c : Int) (w : World) :
    Calls Tryz.prog 327 #[.string s, .int .u8 c] w fun e w' => e = .returned (.int .i64 (Lib.indexByte s.data.toList c.toNat.toUInt8)) ∧ w' = w := Any.strings_IndexByte lays137 s c w
def lays143_ren : Go.Shelf.Ren := ⟨fun | 143 => 331 | 219 => 341 | 217 => 337 | 225 => 346 | 224 => 347 | 267 => 348 | 266 => 344 | 314 => 350 | n => n, fun | 9 => 9 | 3 => 3 | 4 => 4 | 5 => 5 | 46 => 170 | 146 => 246 | 51 => 27 | n => n, fun | 1 => 0 | n => n⟩
theorem lays143 : Go.Proofs.Lays.n143 Tryz.prog lays143_ren := {
  mixed := by kernel_rfl
  f143 := Tryz.func331.trans (congrArg some (by kernel_rfl))
  f217 := Tryz.func337.trans (congrArg some (by kernel_rfl))
  f219 := Tryz.func341.trans (congrArg some (by kernel_rfl))
  f224 := Tryz.func347.trans (congrArg some (by kernel_rfl))
  f225 := Tryz.func346.trans (congrArg some (by kernel_rfl))
  f266 := Tryz.func344.trans (congrArg some (by kernel_rfl))
  f267 := Tryz.func348.trans (congrArg some (by kernel_rfl))
  f314 := Tryz.func350.trans (congrArg some (by kernel_rfl))
  t3 := Tryz.underlying3
  a3 := Tryz.isAgg3
  z3 := Tryz.sizeOf3
  v3 := Tryz.zeroValue3
  t4 := Tryz.underlying4
  a4 := Tryz.isAgg4
  z4 := Tryz.sizeOf4
  v4 := Tryz.zeroValue4
  t5 := Tryz.underlying5
  a5 := Tryz.isAgg5
  z5 := Tryz.sizeOf5
  v5 := Tryz.zeroValue5
  t9 := Tryz.underlying9
  a9 := Tryz.isAgg9
  z9 := Tryz.sizeOf9
  v9 := Tryz.zeroValue9
  t46 := Tryz.underlying170
  a46 := Tryz.isAgg170
  z46 := Tryz.sizeOf170
  v46 := Tryz.zeroValue170
  t51 := Tryz.underlying27
  a51 := Tryz.isAgg27
  z51 := Tryz.sizeOf27
  v51 := Tryz.zeroValue27
  t146 := Tryz.underlying246
  a146 := Tryz.isAgg246
  z146 := Tryz.sizeOf246
  v146 := Tryz.zeroValue246
  g1 := by kernel_rfl }
open Go.RowKit Go.Lib in
theorem strings_Index_one (s : ByteArray) (c : UInt8) (w : World) :
    Calls Tryz.prog 331 #[.string s, .string ⟨#[c]⟩] w fun e w' => e = .returned (.int .i64 (Lib.indexByte s.data.toList c)) ∧ w' = w := Any.strings_Index_one lays143 s c w
def lays138_ren : Go.Shelf.Ren := ⟨fun | 138 => 330 | 195 => 338 | 218 => 340 | 143 => 331 | 219 => 341 | 217 => 337 | 225 => 346 | 224 => 347 | 267 => 348 | 266 => 344 | 314 => 350 | n => n, fun | 9 => 9 | 3 => 3 | 4 => 4 | 5 => 5 | 0 => 0 | 46 => 170 | 146 => 246 | 51 => 27 | n => n, fun | 1 => 0 | n => n⟩
theorem lays138 : Go.Proofs.Lays.n138 Tryz.prog lays138_ren := {
  mixed := by kernel_rfl
  f138 := Tryz.func330.trans (congrArg some (by kernel_rfl))
  f143 := Tryz.func331.trans (congrArg some (by kernel_rfl))
  f195 := Tryz.func338.trans (congrArg some (by kernel_rfl))
  f217 := Tryz.func337.trans (congrArg some (by kernel_rfl))
  f218 := Tryz.func340.trans (congrArg some (by kernel_rfl))
  f219 := Tryz.func341.trans (congrArg some (by kernel_rfl))
  f224 := Tryz.func347.trans (congrArg some (by kernel_rfl))
  f225 := Tryz.func346.trans (congrArg some (by kernel_rfl))
  f266 := Tryz.func344.trans (congrArg some (by kernel_rfl))
  f267 := Tryz.func348.trans (congrArg some (by kernel_rfl))
  f314 := Tryz.func350.trans (congrArg some (by kernel_rfl))
  t0 := Tryz.underlying0
  a0 := Tryz.isAgg0
  z0 := Tryz.sizeOf0
  v0 := Tryz.zeroValue0
  t3 := Tryz.underlying3
  a3 := Tryz.isAgg3
  z3 := Tryz.sizeOf3
  v3 := Tryz.zeroValue3
  t4 := Tryz.underlying4
  a4 := Tryz.isAgg4
  z4 := Tryz.sizeOf4
  v4 := Tryz.zeroValue4
  t5 := Tryz.underlying5
  a5 := Tryz.isAgg5
  z5 := Tryz.sizeOf5
  v5 := Tryz.zeroValue5
  t9 := Tryz.underlying9
  a9 := Tryz.isAgg9
  z9 := Tryz.sizeOf9
  v9 := Tryz.zeroValue9
  t46 := Tryz.underlying170
  a46 := Tryz.isAgg170
  z46 := Tryz.sizeOf170
  v46 := Tryz.zeroValue170
  t51 := Tryz.underlying27
  a51 := Tryz.isAgg27
  z51 := Tryz.sizeOf27
  v51 := Tryz.zeroValue27
  t146 := Tryz.underlying246
  a146 := Tryz.isAgg246
  z146 := Tryz.sizeOf246
  v146 := Tryz.zeroValue246
  g1 := by kernel_rfl }
open Go.RowKit Go.Lib in
theorem strings_Count_one (s : ByteArray) (c : UInt8) (w : World) :
    Calls Tryz.prog 330 #[.string s, .string ⟨#[c]⟩] w fun e w' => e = .returned (.int .i64 (Lib.countByte s.data.toList c)) ∧ w' = w := Any.strings_Count_one lays138 s c w
def lays189_ren : Go.Shelf.Ren := ⟨fun | 189 => 171 | 125 => 226 | 257 => 225 | 128 => 266 | 129 => 267 | 294 => 257 | 295 => 258 | 296 => 259 | 297 => 260 | 298 => 261 | 299 => 262 | 216 => 263 | 300 => 264 | 301 => 265 | 328 => 304 | 329 => 305 | 330 => 306 | 331 => 307 | 332 => 308 | 215 => 309 | 343 => 328 | n => n, fun | 28 => 43 | 3 => 3 | 46 => 170 | 0 => 0 | 51 => 27 | 53 => 248 | 4 => 4 | 183 => 344 | 182 => 343 | 131 => 322 | 5 => 5 | 9 => 9 | 218 => 379 | 222 => 383 | 228 => 403 | 229 => 404 | n => n, fun | n => n⟩
theorem lays189 : Go.Proofs.Lays.n189 Tryz.prog lays189_ren := {
  mixed := by kernel_rfl
  f125 := Tryz.func226.trans (congrArg some (by kernel_rfl))
  f128 := Tryz.func266.trans (congrArg some (by kernel_rfl))
  f129 := Tryz.func267.trans (congrArg some (by kernel_rfl))
  f189 := Tryz.func171.trans (congrArg some (by kernel_rfl))
  f215 := Tryz.func309.trans (congrArg some (by kernel_rfl))
  f216 := Tryz.func263.trans (congrArg some (by kernel_rfl))
  f257 := Tryz.func225.trans (congrArg some (by kernel_rfl))
  f294 := Tryz.func257.trans (congrArg some (by kernel_rfl))
  f295 := Tryz.func258.trans (congrArg some (by kernel_rfl))
  f296 := Tryz.func259.trans (congrArg some (by kernel_rfl))
  f297 := Tryz.func260.trans (congrArg some (by kernel_rfl))
  f298 := Tryz.func261.trans (congrArg some (by kernel_rfl))
  f299 := Tryz.func262.trans (congrArg some (by kernel_rfl))
  f300 := Tryz.func264.trans (congrArg some (by kernel_rfl))
  f301 := Tryz.func265.trans (congrArg some (by kernel_rfl))
  f328 := Tryz.func304.trans (congrArg some (by kernel_rfl))
  f329 := Tryz.func305.trans (congrArg some (by kernel_rfl))
  f330 := Tryz.func306.trans (congrArg some (by kernel_rfl))
  f331 := Tryz.func307.trans (congrArg some (by kernel_rfl))
  f332 := Tryz.func308.trans (congrArg some (by kernel_rfl))
  f343 := Tryz.func328.trans (congrArg some (by kernel_rfl))
  t0 := Tryz.underlying0
  a0 := Tryz.isAgg0
  z0 := Tryz.sizeOf0
  v0 := Tryz.zeroValue0
  t3 := Tryz.underlying3
  a3 := Tryz.isAgg3
  z3 := Tryz.sizeOf3
  v3 := Tryz.zeroValue3
  t4 := Tryz.underlying4
  a4 := Tryz.isAgg4
  z4 := Tryz.sizeOf4
  v4 := Tryz.zeroValue4
  t5 := Tryz.underlying5
  a5 := Tryz.isAgg5
  z5 := Tryz.sizeOf5
  v5 := Tryz.zeroValue5
  t9 := Tryz.underlying9
  a9 := Tryz.isAgg9
  z9 := Tryz.sizeOf9
  v9 := Tryz.zeroValue9
  t28 := Tryz.underlying43
  a28 := Tryz.isAgg43
  z28 := Tryz.sizeOf43
  v28 := Tryz.zeroValue43
  t46 := Tryz.underlying170
  a46 := Tryz.isAgg170
  z46 := Tryz.sizeOf170
  v46 := Tryz.zeroValue170
  t51 := Tryz.underlying27
  a51 := Tryz.isAgg27
  z51 := Tryz.sizeOf27
  v51 := Tryz.zeroValue27
  t53 := Tryz.underlying248
  a53 := Tryz.isAgg248
  z53 := Tryz.sizeOf248
  v53 := Tryz.zeroValue248
  t131 := Tryz.underlying322
  a131 := Tryz.isAgg322
  z131 := Tryz.sizeOf322
  v131 := Tryz.zeroValue322
  t182 := Tryz.underlying343
  a182 := Tryz.isAgg343
  z182 := Tryz.sizeOf343
  v182 := Tryz.zeroValue343
  t183 := Tryz.underlying344
  a183 := Tryz.isAgg344
  z183 := Tryz.sizeOf344
  v183 := Tryz.zeroValue344
  t218 := Tryz.underlying379
  a218 := Tryz.isAgg379
  z218 := Tryz.sizeOf379
  v218 := Tryz.zeroValue379
  t222 := Tryz.underlying383
  a222 := Tryz.isAgg383
  z222 := Tryz.sizeOf383
  v222 := Tryz.zeroValue383
  t228 := Tryz.underlying403
  a228 := Tryz.isAgg403
  z228 := Tryz.sizeOf403
  v228 := Tryz.zeroValue403
  t229 := Tryz.underlying404
  a229 := Tryz.isAgg404
  z229 := Tryz.sizeOf404
  v229 := Tryz.zeroValue404 }
open Go.Sort Go.RowKit in
theorem slices_Sort_int (blk off cap : Nat) (zs : List Int) (w : World) (hH : Holds (Value.int .i64) w blk off zs.toArray) (hblk : blk < w.heap.size) (hsz : zs.length < 4611686018427387904) :
    Calls Tryz.prog 171 #[.slice (some ⟨blk, off, none⟩) zs.length cap] w fun e w' =>
      e = .returned (.tuple #[]) ∧ ∃ n os, w' = grow (putRow (Value.int .i64) (Sort.ahead w n) blk off (zs.mergeSort fun x y => decide (x ≤ y)).toArray) os := Any.slices_Sort_int lays189 blk off cap zs w hH hblk hsz
def lays105_ren : Go.Shelf.Ren := ⟨fun | 105 => 63 | 212 => 102 | 99 => 103 | 165 => 104 | 166 => 105 | 170 => 106 | 169 => 107 | 263 => 160 | 264 => 161 | 206 => 162 | 240 => 163 | 241 => 164 | 276 => 215 | 277 => 216 | n => n, fun | 9 => 9 | 3 => 3 | 4 => 4 | 20 => 20 | 0 => 0 | 46 => 170 | 109 => 171 | 5 => 5 | 72 => 176 | 76 => 180 | 51 => 27 | 146 => 246 | 53 => 248 | 148 => 249 | 70 => 174 | 37 => 101 | 75 => 179 | 127 => 251 | 164 => 300 | 80 => 182 | n => n, fun | n => n⟩
theorem lays105 : Go.Proofs.Lays.n105 Tryz.prog lays105_ren := {
  mixed := by kernel_rfl
  f99 := Tryz.func103.trans (congrArg some (by kernel_rfl))
  f105 := Tryz.func63.trans (congrArg some (by kernel_rfl))
  f165 := Tryz.func104.trans (congrArg some (by kernel_rfl))
  f166 := Tryz.func105.trans (congrArg some (by kernel_rfl))
  f169 := Tryz.func107.trans (congrArg some (by kernel_rfl))
  f170 := Tryz.func106.trans (congrArg some (by kernel_rfl))
  f206 := Tryz.func162.trans (congrArg some (by kernel_rfl))
  f212 := Tryz.func102.trans (congrArg some (by kernel_rfl))
  f240 := Tryz.func163.trans (congrArg some (by kernel_rfl))
  f241 := Tryz.func164.trans (congrArg some (by kernel_rfl))
  f263 := Tryz.func160.trans (congrArg some (by kernel_rfl))
  f264 := Tryz.func161.trans (congrArg some (by kernel_rfl))
  f276 := Tryz.func215.trans (congrArg some (by kernel_rfl))
  f277 := Tryz.func216.trans (congrArg some (by kernel_rfl))
  t0 := Tryz.underlying0
  a0 := Tryz.isAgg0
  z0 := Tryz.sizeOf0
  v0 := Tryz.zeroValue0
  t3 := Tryz.underlying3
  a3 := Tryz.isAgg3
  z3 := Tryz.sizeOf3
  v3 := Tryz.zeroValue3
  t4 := Tryz.underlying4
  a4 := Tryz.isAgg4
  z4 := Tryz.sizeOf4
  v4 := Tryz.zeroValue4
  t5 := Tryz.underlying5
  a5 := Tryz.isAgg5
  z5 := Tryz.sizeOf5
  v5 := Tryz.zeroValue5
  t9 := Tryz.underlying9
  a9 := Tryz.isAgg9
  z9 := Tryz.sizeOf9
  v9 := Tryz.zeroValue9
  t20 := Tryz.underlying20
  a20 := Tryz.isAgg20
  z20 := Tryz.sizeOf20
  v20 := Tryz.zeroValue20
  t37 := Tryz.underlying101
  a37 := Tryz.isAgg101
  z37 := Tryz.sizeOf101
  v37 := Tryz.zeroValue101
  t46 := Tryz.underlying170
  a46 := Tryz.isAgg170
  z46 := Tryz.sizeOf170
  v46 := Tryz.zeroValue170
  t51 := Tryz.underlying27
  a51 := Tryz.isAgg27
  z51 := Tryz.sizeOf27
  v51 := Tryz.zeroValue27
  t53 := Tryz.underlying248
  a53 := Tryz.isAgg248
  z53 := Tryz.sizeOf248
  v53 := Tryz.zeroValue248
  t70 := Tryz.underlying174
  a70 := Tryz.isAgg174
  z70 := Tryz.sizeOf174
  v70 := Tryz.zeroValue174
  t72 := Tryz.underlying176
  a72 := Tryz.isAgg176
  z72 := Tryz.sizeOf176
  v72 := Tryz.zeroValue176
  t75 := Tryz.underlying179
  a75 := Tryz.isAgg179
  z75 := Tryz.sizeOf179
  v75 := Tryz.zeroValue179
  t76 := Tryz.underlying180
  a76 := Tryz.isAgg180
  z76 := Tryz.sizeOf180
  v76 := Tryz.zeroValue180
  t109 := Tryz.underlying171
  a109 := Tryz.isAgg171
  z109 := Tryz.sizeOf171
  v109 := Tryz.zeroValue171
  t127 := Tryz.underlying251
  a127 := Tryz.isAgg251
  z127 := Tryz.sizeOf251
  v127 := Tryz.zeroValue251
  t146 := Tryz.underlying246
  a146 := Tryz.isAgg246
  z146 := Tryz.sizeOf246
  v146 := Tryz.zeroValue246
  t148 := Tryz.underlying249
  a148 := Tryz.isAgg249
  z148 := Tryz.sizeOf249
  v148 := Tryz.zeroValue249
  t164 := Tryz.underlying300
  a164 := Tryz.isAgg300
  z164 := Tryz.sizeOf300
  v164 := Tryz.zeroValue300 }
theorem Builder_Extra_105 : Builder.Extra Tryz.prog lays105_ren := {
  sizeBuilder := by kernel_rfl
  liesBuilder := by kernel_rfl
  t5 := Tryz.underlying5
  a5 := Tryz.isAgg5
  z5 := Tryz.sizeOf5
  v5 := Tryz.zeroValue5
  infoByte := by kernel_rfl
  cellsByte := by kernel_rfl
  sizeByte := by kernel_rfl
  neB5 := by decide }
open Go.RowKit Go.Lib in
theorem strings_Repeat (s : ByteArray) (c : Nat) (w : World) (hc : c ≤ 9223372036854775807) (hlen : s.size * c ≤ 140737488355328) :
    Calls Tryz.prog 63 #[.string s, .int .i64 c] w fun e w' => e = .returned (.string ⟨(Lib.repeatL s.data.toList c).toArray⟩) ∧ Below w.heap.size w w' := Any.strings_Repeat lays105 Builder_Extra_105 s c w hc hlen
def laysNm220_ren : Go.Shelf.Ren := ⟨fun | 20 => 172 | n => n, fun | 22 => 43 | 3 => 3 | 4 => 4 | 0 => 0 | n => n, fun | n => n⟩
theorem laysNm220 : Go.Proofs.Lays2.n20 Tryz.prog laysNm220_ren := {
  mixed := by kernel_rfl
  f20 := Tryz.func172.trans (congrArg some (by kernel_rfl))
  t0 := Tryz.underlying0
  a0 := Tryz.isAgg0
  z0 := Tryz.sizeOf0
  v0 := Tryz.zeroValue0
  t3 := Tryz.underlying3
  a3 := Tryz.isAgg3
  z3 := Tryz.sizeOf3
  v3 := Tryz.zeroValue3
  t4 := Tryz.underlying4
  a4 := Tryz.isAgg4
  z4 := Tryz.sizeOf4
  v4 := Tryz.zeroValue4
  t22 := Tryz.underlying43
  a22 := Tryz.isAgg43
  z22 := Tryz.sizeOf43
  v22 := Tryz.zeroValue43
  i3 := by kernel_rfl }
open Go.RowKit Go.Lib Go.Sort in
theorem slices_Compact_int (blk off cap : Nat) (zs : List Int) (w : World) (hH : Holds (Value.int .i64) w blk off zs.toArray) (hsz : zs.length ≤ 9223372036854775807) (hcap : zs.length ≤ cap) :
    Calls Tryz.prog 172 #[.slice (some ⟨blk, off, none⟩) zs.length cap] w fun e w' => e = .returned (.slice (some ⟨blk, off, none⟩) (Lib.compact zs).length cap) ∧ ∃ q, w' = putRow (Value.int .i64) (Sort.ahead w q) blk off (Lib.compact zs ++ List.replicate (zs.length - (Lib.compact zs).length) 0).toArray := Any.slices_Compact_int laysNm220 blk off cap zs w hH hsz hcap
open Go.RowKit Go.Lib Go.Sort in
theorem slices_Compact_int_empty (a : Option Addr) (cap : Nat) (w : World) :
    Calls Tryz.prog 172 #[.slice a 0 cap] w fun e w' => e = .returned (.slice a 0 cap) ∧ w' = w := Any.slices_Compact_int_empty laysNm220 a cap w
open Go.RowKit Go.Sort in
theorem slices_Sort_int_none (p : Option Addr) (cap : Nat) (w : World) :
    Calls Tryz.prog 171 #[.slice p 0 cap] w fun e w' => e = .returned (.tuple #[]) ∧ w' = w := Any.slices_Sort_int_none lays189 p cap w
def laysGrow_ren : Go.Shelf.Ren := ⟨fun | 4 => 310 | n => n, fun | 22 => 34 | 25 => 120 | 3 => 3 | 4 => 4 | 9 => 9 | 20 => 20 | 0 => 0 | 2 => 3 | n => n, fun | n => n⟩
theorem laysGrow : Go.Proofs.Lays8.n4 Tryz.prog laysGrow_ren := {
  mixed := by kernel_rfl
  f4 := ⟨Tryz.f310.name, by decide, Tryz.func310.trans (congrArg some (by kernel_rfl))⟩
  t0 := Tryz.underlying0
  a0 := Tryz.isAgg0
  z0 := Tryz.sizeOf0
  v0 := Tryz.zeroValue0
  t3 := Tryz.underlying3
  a3 := Tryz.isAgg3
  z3 := Tryz.sizeOf3
  v3 := Tryz.zeroValue3
  t4 := Tryz.underlying4
  a4 := Tryz.isAgg4
  z4 := Tryz.sizeOf4
  v4 := Tryz.zeroValue4
  t9 := Tryz.underlying9
  a9 := Tryz.isAgg9
  z9 := Tryz.sizeOf9
  v9 := Tryz.zeroValue9
  t20 := Tryz.underlying20
  a20 := Tryz.isAgg20
  z20 := Tryz.sizeOf20
  v20 := Tryz.zeroValue20
  t22 := Tryz.underlying34
  a22 := Tryz.isAgg34
  z22 := Tryz.sizeOf34
  v22 := Tryz.zeroValue34 }
end Go.Proofs.YtenckbcdfdmckaaGreatDoor


namespace Go.Eng
/-- Only the part from a up to b is changed, and its members are those that it had. -/
structure Rg (a b : Nat) (l l' : List Int) : Prop where
  len : l'.length = l.length
  out : ∀ i, (i < a ∨ b ≤ i) → l'.getD i default = l.getD i default
  perm : l'.Perm l
  tr : ∀ P : Int → Prop, (∀ i, a ≤ i → i < b → P (l.getD i default)) → ∀ i, a ≤ i → i < b → P (l'.getD i default)
theorem Rg.refl {a b : Nat} {l : List Int} : Rg a b l l := ⟨rfl, fun _ _ => rfl, .refl _, fun _ h => h⟩
theorem Rg.trans {a b : Nat} {l m r : List Int} (h : Rg a b l m) (k : Rg a b m r) : Rg a b l r :=
  ⟨k.len.trans h.len, fun i hi => (k.out i hi).trans (h.out i hi), k.perm.trans h.perm, fun P hp => k.tr P (h.tr P hp)⟩
theorem Rg.wide {a b c d : Nat} {l m : List Int} (h : Rg a b l m) (h1 : c ≤ a) (h2 : b ≤ d) : Rg c d l m :=
  ⟨h.len, fun i hi => h.out i (by omega), h.perm, fun P hp i hi hd => by
    by_cases hc : a ≤ i ∧ i < b
    · exact h.tr P (fun j hj hk => hp j (by omega) (by omega)) i hc.1 hc.2
    · rw [h.out i (by omega)]; exact hp i hi hd⟩
/-- Two places change what they hold. -/
def sw (l : List Int) (i j : Nat) : List Int := (l.set i (l.getD j default)).set j (l.getD i default)
theorem sw_len {l : List Int} {i j : Nat} : (sw l i j).length = l.length := by simp [sw]
theorem sw_at {l : List Int} {i j k : Nat} (hi : i < l.length) (hj : j < l.length) :
    (sw l i j).getD k default = if k = j then l.getD i default else if k = i then l.getD j default else l.getD k default := by
  unfold sw
  simp only [List.getD_eq_getElem?_getD, List.getElem?_set, List.length_set]
  by_cases h1 : k = j
  · subst h1; simp [hj]
  · by_cases h2 : k = i
    · subst h2; simp [h1, Ne.symm h1, hi]
    · simp [h1, h2, Ne.symm h1, Ne.symm h2]
theorem sw_perm {l : List Int} {i j : Nat} (hi : i < l.length) (hj : j < l.length) : (sw l i j).Perm l := by
  have e : ∀ k (h : k < l.length), l.getD k default = l[k] := fun k h => by simp [List.getD_eq_getElem?_getD, h]
  unfold sw
  rw [e i hi, e j hj]
  exact List.set_set_perm hi hj
theorem Rg.sw {a b i j : Nat} {l : List Int} (hb : b ≤ l.length) (h1 : a ≤ i) (h2 : i < b) (h3 : a ≤ j) (h4 : j < b) : Rg a b l (sw l i j) :=
  ⟨sw_len, fun k hk => by rw [sw_at (by omega) (by omega), if_neg (by omega), if_neg (by omega)], sw_perm (by omega) (by omega), fun P hp k ha hk => by
    rw [sw_at (by omega) (by omega)]
    split
    · exact hp i h1 h2
    · split
      · exact hp j h3 h4
      · exact hp k ha hk⟩
/-- It rises from a up to b. -/
def Up (a b : Nat) (l : List Int) : Prop := ∀ i j, a ≤ i → i ≤ j → j < b → l.getD i default ≤ l.getD j default
theorem Up.sub {a b c d : Nat} {l : List Int} (h : Up a b l) (h1 : a ≤ c) (h2 : d ≤ b) : Up c d l := fun i j a1 a2 a3 => h i j (by omega) a2 (by omega)
theorem Up.keep {a b : Nat} {l m : List Int} (h : Up a b l) (e : ∀ i, a ≤ i → i < b → m.getD i default = l.getD i default) : Up a b m := fun i j a1 a2 a3 => by
  rw [e i a1 (by omega), e j (by omega) a3]; exact h i j a1 a2 a3
/-- Step by step. -/
theorem Up.steps {a b : Nat} {l : List Int} (h : ∀ i, a ≤ i → i + 1 < b → l.getD i default ≤ l.getD (i + 1) default) : Up a b l := by
  intro i j h1 h2 h3
  obtain ⟨d, rfl⟩ : ∃ d, j = i + d := ⟨j - i, by omega⟩
  clear h2
  induction d with
  | zero => exact Int.le_refl _
  | succ d ih => exact Int.le_trans (ih (by omega)) (h (i + d) (by omega) (by omega))
/-- All that stands from a up to b is at least what stands ahead of it. -/
def Low (a b : Nat) (l : List Int) : Prop := a = 0 ∨ ∀ i, a ≤ i → i < b → l.getD (a - 1) default ≤ l.getD i default
theorem Low.keep {a b : Nat} {l m : List Int} (h : Low a b l) (r : Rg a b l m) : Low a b m := by
  rcases h with h | h
  · exact .inl h
  · by_cases ha : a = 0
    · exact .inl ha
    · exact .inr fun i h1 h2 => by rw [r.out (a - 1) (by omega)]; exact r.tr (fun x => l.getD (a - 1) default ≤ x) h i h1 h2
theorem Low.sub {a b d : Nat} {l : List Int} (h : Low a b l) (h2 : d ≤ b) : Low a d l := h.imp id fun h i h1 hd => h i h1 (by omega)
/-- Insertion: the part up to i rises but for what stands at j. -/
structure Ins (a i j : Nat) (l : List Int) : Prop where
  up : ∀ p q, a ≤ p → p ≤ q → q ≤ i → p ≠ j → q ≠ j → l.getD p default ≤ l.getD q default
  low : ∀ q, j < q → q ≤ i → l.getD j default ≤ l.getD q default
theorem Ins.start {a i : Nat} {l : List Int} (h : Up a i l) : Ins a i i l := ⟨fun p q h1 h2 h3 h4 h5 => h p q h1 h2 (by omega), fun q h1 h2 => by omega⟩
theorem Ins.done {a i j : Nat} {l : List Int} (h : Ins a i j l) (hj : a ≤ j) (hd : j = a ∨ l.getD (j - 1) default ≤ l.getD j default) : Up a (i + 1) l := by
  intro p q h1 h2 h3
  by_cases hp : p = j
  · by_cases hq : q = p
    · rw [hq]; exact Int.le_refl _
    · subst hp; exact h.low q (by omega) (by omega)
  · by_cases hq : q = j
    · subst hq
      have hne : q ≠ a := by omega
      have h0 := hd.resolve_left hne
      exact Int.le_trans (h.up p (q - 1) h1 (by omega) (by omega) hp (by omega)) h0
    · exact h.up p q h1 h2 (by omega) hp hq
theorem Ins.step {a i j : Nat} {l : List Int} (h : Ins a i j l) (hl : i < l.length) (hj : a < j) (hi : j ≤ i) (hlt : l.getD j default < l.getD (j - 1) default) : Ins a i (j - 1) (sw l j (j - 1)) := by
  refine ⟨fun p q h1 h2 h3 h4 h5 => ?_, fun q h1 h2 => ?_⟩
  · rw [sw_at (by omega) (by omega), sw_at (by omega) (by omega), if_neg h4, if_neg h5]
    by_cases hp : p = j
    · rw [if_pos hp]
      by_cases hq : q = j
      · rw [if_pos hq]; exact Int.le_refl _
      · rw [if_neg hq]; exact h.up (j - 1) q (by omega) (by omega) h3 (by omega) hq
    · rw [if_neg hp]
      by_cases hq : q = j
      · rw [if_pos hq]; exact h.up p (j - 1) h1 (by omega) (by omega) hp (by omega)
      · rw [if_neg hq]; exact h.up p q h1 h2 h3 hp hq
  · rw [sw_at (by omega) (by omega), sw_at (by omega) (by omega), if_pos rfl, if_neg (by omega)]
    by_cases hq : q = j
    · rw [if_pos hq]; omega
    · rw [if_neg hq]; exact h.low q (by omega) h2
/-- A heap from k on: first is where it begins, hi how many it has. -/
def Hp (f lo hi : Nat) (l : List Int) : Prop := ∀ k c, lo ≤ k → (c = 2 * k + 1 ∨ c = 2 * k + 2) → c < hi → l.getD (f + c) default ≤ l.getD (f + k) default
/-- A heap but for what stands at r. -/
structure Sf (f lo hi r : Nat) (l : List Int) : Prop where
  hp : ∀ k c, lo ≤ k → k ≠ r → (c = 2 * k + 1 ∨ c = 2 * k + 2) → c < hi → l.getD (f + c) default ≤ l.getD (f + k) default
  up : ∀ p c, lo ≤ p → (r = 2 * p + 1 ∨ r = 2 * p + 2) → (c = 2 * r + 1 ∨ c = 2 * r + 2) → c < hi → l.getD (f + c) default ≤ l.getD (f + p) default
theorem Sf.start {f lo hi : Nat} {l : List Int} (h : Hp f (lo + 1) hi l) : Sf f lo hi lo l :=
  ⟨fun k c h1 h2 h3 h4 => h k c (by omega) h3 h4, fun p c h1 h2 h3 h4 => by omega⟩
theorem Sf.done {f lo hi r : Nat} {l : List Int} (h : Sf f lo hi r l) (hd : ∀ c, (c = 2 * r + 1 ∨ c = 2 * r + 2) → c < hi → l.getD (f + c) default ≤ l.getD (f + r) default) : Hp f lo hi l := fun k c h1 h2 h3 => by
  by_cases hk : k = r
  · subst hk; exact hd c h2 h3
  · exact h.hp k c h1 hk h2 h3
theorem Sf.step {f lo hi r c : Nat} {l : List Int} (h : Sf f lo hi r l) (hl : f + hi ≤ l.length) (hr : lo ≤ r) (hc : c = 2 * r + 1 ∨ c = 2 * r + 2) (hh : c < hi)
    (hlt : l.getD (f + r) default < l.getD (f + c) default) (hm : ∀ d, (d = 2 * r + 1 ∨ d = 2 * r + 2) → d < hi → l.getD (f + d) default ≤ l.getD (f + c) default) : Sf f lo hi c (sw l (f + r) (f + c)) := by
  refine ⟨fun k d h1 h2 h3 h4 => ?_, fun p d h1 h2 h3 h4 => ?_⟩
  · rw [sw_at (by omega) (by omega), sw_at (by omega) (by omega)]
    rw [if_neg (show ¬ f + k = f + c by omega)]
    by_cases hk : k = r
    · subst hk
      rw [if_pos (show f + k = f + k from rfl)]
      by_cases hd : d = c
      · subst hd; rw [if_pos rfl]; omega
      · rw [if_neg (by omega), if_neg (by omega)]; exact hm d h3 h4
    · rw [if_neg (show ¬ f + k = f + r by omega)]
      have hdc : d ≠ c := by omega
      rw [if_neg (by omega)]
      by_cases hd : d = r
      · subst hd; rw [if_pos rfl]; exact h.up k c h1 h3 hc hh
      · rw [if_neg (by omega)]; exact h.hp k d h1 hk h3 h4
  · have hp : p = r := by omega
    subst hp
    rw [sw_at (by omega) (by omega), sw_at (by omega) (by omega), if_neg (by omega), if_neg (by omega), if_neg (by omega), if_pos rfl]
    exact h.hp c d (by omega) (by omega) h3 h4
theorem Hp.top {f hi : Nat} {l : List Int} (h : Hp f 0 hi l) : ∀ k, k < hi → l.getD (f + k) default ≤ l.getD f default := by
  intro k
  induction k using Nat.strongRecOn with
  | _ k ih =>
    intro hk
    by_cases h0 : k = 0
    · subst h0; exact Int.le_refl _
    · exact Int.le_trans (h ((k - 1) / 2) k (by omega) (by omega) hk) (ih ((k - 1) / 2) (by omega) (by omega))
theorem Hp.keep {f lo hi : Nat} {l m : List Int} (h : Hp f lo hi l) (e : ∀ k, lo ≤ k → k < hi → m.getD (f + k) default = l.getD (f + k) default) : Hp f lo hi m := fun k c h1 h2 h3 => by
  rw [e k h1 (by omega), e c (by omega) h3]; exact h k c h1 h2 h3
/-- What is sorted is told by its members alone. -/
theorem up_unique {l m : List Int} (hp : l.Perm m) (h1 : Up 0 l.length l) (h2 : Up 0 m.length m) : l = m := by
  have pw : ∀ {l : List Int}, Up 0 l.length l → l.Pairwise (· ≤ ·) := fun {l} h => by
    rw [List.pairwise_iff_getElem]
    intro i j hi hj hij
    have := h i j (by omega) (by omega) hj
    simpa [List.getD_eq_getElem?_getD, hi, hj] using this
  exact List.Perm.eq_of_pairwise (fun a b _ _ h h' => Int.le_antisymm h h') (pw h1) (pw h2) hp
/-- Sorted, by insertion. -/
def insL (x : Int) : List Int → List Int
  | [] => [x]
  | y :: r => if x ≤ y then x :: y :: r else y :: insL x r
def sortL : List Int → List Int
  | [] => []
  | x :: r => insL x (sortL r)
theorem insL_perm (x : Int) : ∀ l, (insL x l).Perm (x :: l)
  | [] => .refl _
  | y :: r => by
    unfold insL
    split
    · exact .refl _
    · exact ((insL_perm x r).cons y).trans (.swap x y r)
theorem sortL_perm : ∀ l, (sortL l).Perm l
  | [] => .refl _
  | x :: r => (insL_perm x _).trans ((sortL_perm r).cons x)
theorem insL_pw (x : Int) : ∀ l : List Int, l.Pairwise (· ≤ ·) → (insL x l).Pairwise (· ≤ ·)
  | [], _ => List.pairwise_singleton ..
  | y :: r, h => by
    unfold insL
    have h' := List.pairwise_cons.1 h
    split
    · rename_i hx
      exact List.pairwise_cons.2 ⟨fun z hz => by
        rcases List.mem_cons.1 hz with rfl | hz
        · exact hx
        · exact Int.le_trans hx (h'.1 z hz), h⟩
    · rename_i hx
      refine List.pairwise_cons.2 ⟨fun z hz => ?_, insL_pw x r h'.2⟩
      rcases List.mem_cons.1 ((insL_perm x r).mem_iff.1 hz) with rfl | hz
      · omega
      · exact h'.1 z hz
theorem sortL_pw : ∀ l, (sortL l).Pairwise (· ≤ ·)
  | [] => .nil
  | x :: r => insL_pw x _ (sortL_pw r)
theorem up_of_pw {l : List Int} (h : l.Pairwise (· ≤ ·)) : Up 0 l.length l := fun i j _ h2 h3 => by
  by_cases he : i = j
  · rw [he]; exact Int.le_refl _
  · have := List.pairwise_iff_getElem.1 h i j (by omega) h3 (by omega)
    have hi : i < l.length := by omega
    simpa [List.getD_eq_getElem?_getD, hi, h3] using this
theorem sortL_len (l : List Int) : (sortL l).length = l.length := (sortL_perm l).length_eq
theorem up_sortL {l m : List Int} (hp : m.Perm l) (h : Up 0 m.length m) : m = sortL l := up_unique (hp.trans (sortL_perm l).symm) h (up_of_pw (sortL_pw l))
end Go.Eng


namespace Go.Proofs.YtenckbcdfdmckaaGreatDoor
open Go Go.Eng
set_option maxRecDepth 100000
theorem merge_sortL (l : List Int) : (l.mergeSort fun x y => decide (x ≤ y)) = sortL l := by
  have hp := List.mergeSort_perm l fun x y => decide (x ≤ y)
  have hs : (l.mergeSort fun x y => decide (x ≤ y)).Pairwise (· ≤ ·) := by
    have := List.pairwise_mergeSort (le := fun x y : Int => decide (x ≤ y)) (fun a b c h1 h2 => by simp only [decide_eq_true_eq] at *; omega) (fun a b => by simp only [Bool.or_eq_true, decide_eq_true_eq]; omega) l
    exact this.imp fun h => by simpa using h
  exact up_sortL hp (up_of_pw hs)
def m_slices_Sort___int_int_ : List Bool := [true]
abbrev F_slices_Sort___int_int_ : List AV → Store → (AV → Store → Prop) → Prop := sortF sortL
noncomputable def c_slices_Sort___int_int_ : Con := .gen m_slices_Sort___int_int_ F_slices_Sort___int_int_
theorem ok_slices_Sort___int_int_ : COk Tryz.prog 171 c_slices_Sort___int_int_ :=
  ⟨⟨_, Tryz.func171, by kernel_rfl, by kernel_rfl⟩, sort_ok sortL_len (fun blk off cap zs w h1 h2 h3 => by
    have := slices_Sort_int blk off cap zs w h1 h2 h3
    rwa [merge_sortL] at this) slices_Sort_int_none⟩
def cpL (l : List Int) : List Int := Lib.compact l
theorem cpL_len (l : List Int) : (cpL l).length ≤ l.length := by
  simp only [cpL, Lib.compact, Lib.compactUpTo, List.length_map]
  exact Nat.le_trans (List.length_filter_le _ _) (by simp)
def m_slices_Compact___int_int_ : List Bool := [true]
abbrev F_slices_Compact___int_int_ : List AV → Store → (AV → Store → Prop) → Prop := compF cpL
noncomputable def c_slices_Compact___int_int_ : Con := .gen m_slices_Compact___int_int_ F_slices_Compact___int_int_
theorem ok_slices_Compact___int_int_ : COk Tryz.prog 172 c_slices_Compact___int_int_ :=
  ⟨⟨_, Tryz.func172, by kernel_rfl, by kernel_rfl⟩, comp_ok cpL_len (fun blk off cap zs w h1 h2 h3 => slices_Compact_int blk off cap zs w h1 h2 h3) slices_Compact_int_empty⟩
def m_slices_Grow___api_Run_api_Run_ : List Bool := [true, true]
abbrev F_slices_Grow___api_Run_api_Run_ : List AV → Store → (AV → Store → Prop) → Prop := growF 2 16
noncomputable def c_slices_Grow___api_Run_api_Run_ : Con := .gen m_slices_Grow___api_Run_api_Run_ F_slices_Grow___api_Run_api_Run_
noncomputable def iR := (Tryz.prog.info? 120).getD default
theorem iR_info : Tryz.prog.info? 120 = some iR := by kernel_rfl
theorem iR_size : iR.size = 2 := by kernel_rfl
theorem iR_bytes : iR.bytes = 16 := by kernel_rfl
theorem ok_slices_Grow___api_Run_api_Run_ : COk Tryz.prog 310 c_slices_Grow___api_Run_api_Run_ :=
  ⟨⟨_, Tryz.func310, by kernel_rfl, by kernel_rfl⟩, grow_ok (T := 120) (fun w => Any8.slices_Grow_room laysGrow none 0 0 0 w (by omega) (by omega) (by omega) (by omega)) fun n w h0 hb hn => by
    have h := Any8.slices_Grow_grow laysGrow iR (.agg #[.int .i64 0, .int .i64 0]) iR_info (by kernel_rfl) (by rw [iR_size]; omega) none 0 0 n [] w (Nat.le_refl _) (by omega) (by rw [iR_bytes]; omega) (by omega) (by simp) (fun _ => rfl) (fun a ha => by cases ha)
    refine Calls.mono h ?_
    rintro e w' ⟨rfl, rfl⟩
    refine ⟨_, _, rfl, grownCap_le_maxLen _ _ _ _ (by unfold maxLen; omega), ?_, rfl⟩
    have hg := grownCap_ge w (0 + n) 0 (laysGrow_ren.t 25)
    simp only [Array.size_append, size_zeroCells]
    show 0 + (0 + n - 0) * 2 + (_ - (0 + n)) * 2 = _ * 2
    omega⟩
end Go.Proofs.YtenckbcdfdmckaaGreatDoor


namespace Go.Proofs.YtenckbcdfdmckaaGreatDoor
open Go Go.Eng Go.RowKit Go.Shelf
def hasD (d : TDev) (i : Int) : Bool := decide (0 ≤ i) && decide (i < (d.Last.length : Int))
def lastB (i : Int) : List TPut → Option (List UInt8)
  | [] => none
  | p :: r => match lastB i r with | some s => some s | none => if p.At = i then some p.B else none
def readD (d : TDev) (i : Int) : List UInt8 × Bool :=
  if d.Down = true ∨ hasD d i = false then ([], false) else ((lastB i d.Wait).getD (d.Last.getD i.toNat []), true)
def dvC (d : TDev) : List TV := [sl d.Last, sl d.Wait, .int .i64 d.Lies, .int .i64 d.Arm, .bool d.Down]
theorem lastB_snoc (i : Int) : ∀ (l : List TPut) (p : TPut), lastB i (l ++ [p]) = if p.At = i then some p.B else lastB i l
  | [], p => by simp [lastB]
  | q :: r, p => by
    simp only [List.cons_append, lastB, lastB_snoc i r p]
    by_cases h : p.At = i
    · simp [h]
    · simp [h]
theorem lastB_step (i : Int) (l : List TPut) (k : Nat) (h : k < l.length) : lastB i (l.take (k + 1)) = if (l.getD k default).At = i then some (l.getD k default).B else lastB i (l.take k) := by
  rw [List.take_add_one, List.getElem?_eq_getElem h]
  simp only [Option.toList_some]
  rw [lastB_snoc]
  simp only [List.getD_eq_getElem?_getD, List.getElem?_eq_getElem h, Option.getD_some]

/-- A row of puts as it lies in memory. -/
def PutsAt (w : World) (sv : Value) (l : List TPut) : Prop :=
  ∃ (a : Option Addr) (cap b off : Nat), sv = .slice a l.length cap ∧ (l = [] ∨ a = some ⟨b, off, none⟩) ∧
    ∀ k, k < l.length → w.cell? ⟨b, off + (k * 2 + 0), none⟩ = some (.int .i64 (l.getD k default).At) ∧ w.cell? ⟨b, off + (k * 2 + 1), none⟩ = some (.string ⟨(l.getD k default).B.toArray⟩)
abbrev encP (l : List TPut) (k : Nat) : Array Value := #[.int .i64 (k : Int), .agg #[.int .i64 (l.getD k default).At, .string ⟨(l.getD k default).B.toArray⟩]]
def revN (n : Nat) : List Nat := (List.range n).reverse
set_option maxRecDepth 100000 in
set_option maxHeartbeats 1000000 in
theorem back_stops (l : List TPut) (hl : l.length ≤ 1099511627776) (w : World) (b : Nat) (sv : Value) (hb : w.cell? ⟨b, 0, none⟩ = some sv) (hp : PutsAt w sv l) :
    SeqStopsK Fence.wide 4 Tryz.prog 293 #[.pointer (some ⟨b, 0, none⟩)] (encP l) (Below w.heap.size) (fun xs => xs = revN l.length) (fun pre => ∃ r, pre ++ r = revN l.length) l.length w := fun lp J Jx W hB hA _ hY h0 => by
  refine callsIn_of_wp Tryz.func293 rfl trivial ?_ rfl
  simp only [Tryz.ntmps293, List.size_toArray, List.length_cons, List.length_nil, Nat.reduceAdd, Nat.reduceSub, Array.replicate_succ, Array.replicate_zero, List.push_toArray, List.append_toArray, List.nil_append, List.cons_append]
  obtain ⟨a, cap, sb, so, rfl, ha, hc⟩ := hp
  have hbl := cell_lt hb
  have hb1 : W.cell? ⟨b, 0, none⟩ = some (.slice a l.length cap) := (hB.cell (p := ⟨b, 0, none⟩) hbl).trans hb
  gi_wp2
  gi_loopw [3] (fun i wr => ∃ (k : Nat) (j : Int) (pre : List Nat), k ≤ l.length ∧ j = (k : Int) - 1 ∧ i = .int .i64 j ∧ pre ++ revN k = revN l.length ∧ J pre wr ∧ Below w.heap.size w wr) (fun i _ => (intOf i + 1).toNat)
  case atStart => exact ⟨l.length, _, [], Nat.le_refl _, rfl, rfl, rfl, h0, hB⟩
  case round =>
    obtain ⟨k, j, pre, hk, hj, rfl, hpre, hJ, hBr⟩ := hrel
    cases k with
    | zero =>
      have hj0 : j < 0 := by omega
      gi_wp2
      go_end0
      refine ⟨⟨_, rfl⟩, .inl ⟨pre, ?_, hJ⟩⟩
      simpa [revN] using hpre
    | succ k =>
      obtain rfl : j = (k : Int) := by omega
      have hb2 : wr.cell? ⟨b, 0, none⟩ = some (.slice a l.length cap) := (hBr.cell (p := ⟨b, 0, none⟩) hbl).trans hb
      obtain ⟨c1, c2⟩ := hc k (by omega)
      have a2 : a = some ⟨sb, so, none⟩ := ha.resolve_left (fun e => by subst e; simp at hk)
      subst a2
      have d1 : wr.cell? ⟨sb, so + k * 2, none⟩ = some (.int .i64 (l.getD k default).At) := (hBr.cell (p := ⟨sb, so + k * 2, none⟩) (cell_lt c1)).trans c1
      have d2 : wr.cell? ⟨sb, so + k * 2 + 1, none⟩ = some (.string ⟨(l.getD k default).B.toArray⟩) := (hBr.cell (p := ⟨sb, so + (k * 2 + 1), none⟩) (cell_lt c2)).trans c2
      have hpl : pre.length < l.length := by
        have := congrArg List.length hpre
        simp [revN] at this; omega
      obtain ⟨fn, tmps, assign, body, hy, hR⟩ := hY pre k wr hJ hpl
      dsimp only [encP] at hy
      have hsnoc : (pre ++ [k]) ++ revN k = revN l.length := by
        rw [← hpre]; simp [revN, List.range_succ]
      have HS : Hid ((pre ++ [k]) ++ revN k = revN l.length) := hsnoc
      clear hj hpre hsnoc hc hY hA h0 ha hb hb1 c1 c2
      generalize (l.getD k default).At = At at *
      generalize (⟨(l.getD k default).B.toArray⟩ : ByteArray) = B at *
      have k0 : (0 : Int) ≤ (k : Int) := by omega
      have k1 : k < l.length := by omega
      gi_wp2
      refine hR.mono ?_
      rintro e W3 (⟨rfl, hJ3, hk3⟩ | ⟨rfl, hx3⟩)
      · gi_wp2
        go_roundw
        case rel => exact ⟨k, _, _, by omega, rfl, rfl, HS.out, hJ3, hBr.trans hk3⟩
        case measure => simp [intOf]
      · gi_wp2
        refine bodyPost_ret (results_none rfl _ _ _) rfl ?_
        exact ⟨⟨_, rfl⟩, .inr ⟨_, ⟨_, HS.out⟩, hx3⟩⟩

set_option maxRecDepth 100000 in
set_option maxHeartbeats 1000000 in
theorem has_in (lv wv : Value) (a : Option Addr) (n cap : Nat) (li ar i : Int) (dn : Bool) (hlv : lv = .slice a n cap) (w : World) :
    CallsIn Fence.wide 4 Tryz.prog 66 #[.agg #[lv, wv, .int .i64 li, .int .i64 ar, .bool dn], .int .i64 i] w fun e w' => e = .returned (.bool (decide (0 ≤ i) && decide (i < (n : Int)))) ∧ Below w.heap.size w w' := by
  subst hlv
  refine callsIn_of_wp Tryz.func66 rfl trivial ?_ rfl
  simp only [Tryz.ntmps66, List.size_toArray, List.length_cons, List.length_nil, Nat.reduceAdd, Nat.reduceSub, Array.replicate_succ, Array.replicate_zero, List.push_toArray, List.append_toArray, List.nil_append, List.cons_append]
  have fin : ∀ (o : Obj), Below w.heap.size w (w.alloc o) := fun o => (Below.refl _ _).alloc (Nat.le_refl _) _
  by_cases h : 0 ≤ i
  · gi_wp2
    refine bodyPost_ret (results_tmp rfl _ _ _) rfl ⟨?_, fin _⟩
    simp [h]
  · gi_wp2
    refine bodyPost_ret (results_tmp rfl _ _ _) rfl ⟨?_, fin _⟩
    rw [decide_eq_false (by omega)]; rfl

theorem backward_in (sv : Value) (w : World) (hsv : ∃ a n cap, sv = .slice a n cap) :
    CallsIn Fence.wide 4 Tryz.prog 250 #[sv] w fun e w' => e = .returned (.func (.func 293) #[] #[.pointer (some ⟨w.heap.size, 0, none⟩)]) ∧ w' = w.alloc (.cells #[sv] 24) := by
  refine callsIn_of_wp Tryz.func250 rfl trivial ?_ rfl
  simp only [Tryz.ntmps250, List.size_toArray, List.length_cons, List.length_nil, Nat.reduceAdd, Nat.reduceSub, Array.replicate_succ, Array.replicate_zero, List.push_toArray, List.append_toArray, List.nil_append, List.cons_append]
  obtain ⟨a, n, cap, rfl⟩ := hsv
  gi_wp2
  exact bodyPost_ret (results_tmp rfl _ _ _) rfl ⟨rfl, rfl⟩

/-- A row of texts as it lies in memory. -/
def TextsAt (w : World) (sv : Value) (l : List (List UInt8)) : Prop :=
  ∃ (a : Option Addr) (cap b off : Nat), sv = .slice a l.length cap ∧ (l = [] ∨ a = some ⟨b, off, none⟩) ∧
    ∀ k, k < l.length → w.cell? ⟨b, off + k, none⟩ = some (.string ⟨(l.getD k default).toArray⟩)

theorem below_bcell {W w1 : World} (hb : Below W.heap.size W w1) : (∀ b o, b < W.heap.size → w1.cell? ⟨b, o, none⟩ = W.cell? ⟨b, o, none⟩) ∧ (∀ b o, b < W.heap.size → w1.frozen? ⟨b, o, none⟩ = W.frozen? ⟨b, o, none⟩) :=
  ⟨fun b o h => hb.cell (p := ⟨b, o, none⟩) h, fun b o h => hb.frozen (p := ⟨b, o, none⟩) h⟩

theorem lastB_none {i : Int} {l : List TPut} (h : ∀ k, k < l.length → (l.getD k default).At ≠ i) : lastB i l = none := by
  have : ∀ k, k ≤ l.length → lastB i (l.take k) = none := by
    intro k
    induction k with
    | zero => intro _; rfl
    | succ k ih =>
      intro hk
      rw [lastB_step i l k (by omega), if_neg (h k (by omega))]
      exact ih (by omega)
  have := this l.length (Nat.le_refl _)
  rwa [List.take_length] at this
theorem lastB_from {i : Int} {l : List TPut} {k : Nat} (hk : k < l.length) (h : ∀ j, k < j → j < l.length → (l.getD j default).At ≠ i) (he : (l.getD k default).At = i) : lastB i l = some (l.getD k default).B := by
  have : ∀ m, k + 1 + m ≤ l.length → lastB i (l.take (k + 1 + m)) = some (l.getD k default).B := by
    intro m
    induction m with
    | zero => intro _; rw [Nat.add_zero, lastB_step i l k hk, if_pos he]
    | succ m ih =>
      intro hm
      rw [← Nat.add_assoc, lastB_step i l (k + 1 + m) (by omega), if_neg (h _ (by omega) (by omega))]
      exact ih (by omega)
  have := this (l.length - (k + 1)) (by omega)
  rwa [show k + 1 + (l.length - (k + 1)) = l.length from by omega, List.take_length] at this
theorem lastB_rev {i : Int} {l : List TPut} {k : Nat} {pre r : List Nat} (h : pre ++ k :: r = revN l.length) (hp : ∀ j ∈ pre, (l.getD j default).At ≠ i) (he : (l.getD k default).At = i) : lastB i l = some (l.getD k default).B := by
  have hget : ∀ m, m < l.length → (revN l.length)[m]? = some (l.length - 1 - m) := fun m hm => by
    simp [revN, List.getElem?_reverse, hm]
    try omega
  have hlen : pre.length + (r.length + 1) = l.length := by
    have := congrArg List.length h
    simpa [revN] using this
  have hk : k = l.length - 1 - pre.length := by
    have := hget pre.length (by omega)
    rw [← h, List.getElem?_append_right (Nat.le_refl _)] at this
    simpa using this
  refine lastB_from (by omega) (fun j h1 h2 => hp j ?_) he
  have := hget (l.length - 1 - j) (by omega)
  rw [← h, List.getElem?_append_left (by omega)] at this
  have hj : l.length - 1 - (l.length - 1 - j) = j := by omega
  rw [hj] at this
  exact List.mem_of_getElem? this

set_option maxRecDepth 100000 in
set_option maxHeartbeats 2000000 in
theorem read_in (d : TDev) (i : Int) (hw : d.Wait.length ≤ 1099511627776) (hl : d.Last.length ≤ 1099511627776) (lv wv : Value) (w : World) (hlv : TextsAt w lv d.Last) (hwv : PutsAt w wv d.Wait) :
    CallsIn Fence.wide 5 Tryz.prog 206 #[.agg #[lv, wv, .int .i64 d.Lies, .int .i64 d.Arm, .bool d.Down], .int .i64 i] w
      fun e w' => e = .returned (.tuple #[.string ⟨(readD d i).1.toArray⟩, .bool (readD d i).2]) ∧ Below w.heap.size w w' := by
  obtain ⟨la, lcap, lb, lo, rfl, hla, hlc⟩ := hlv
  have hwv' := hwv
  obtain ⟨wa, wcap, wb, wo, rfl, hwa, hwc⟩ := hwv
  refine callsIn_of_wp_marks Tryz.func206 rfl trivial ?_ rfl
  simp only [Tryz.ntmps206, List.size_toArray, List.length_cons, List.length_nil, Nat.reduceAdd, Nat.reduceSub, Array.replicate_succ, Array.replicate_zero, List.push_toArray, List.append_toArray, List.nil_append, List.cons_append]
  have h29 : Fence.wide.fn 66 := trivial
  have h33 : Fence.wide.fn 250 := trivial
  have h40 : Fence.wide.fn 293 := trivial
  by_cases hd : d.Down = true
  · have hr : readD d i = ([], false) := by rw [readD, if_pos (.inl hd)]
    rw [hr, hd]
    clear hlc hwc hla hwa hr
    gi_wp2
    refine ⟨.tuple #[.string ⟨#[]⟩, .bool false], ?_, rfl, (((((Below.refl _ _).alloc (Nat.le_refl _) _).alloc (by simp) _).alloc (by simp; omega) _).alloc (by simp; omega) _)⟩
    simp [results, Tryz.f206, go_sem]
  have hd' : d.Down = false := by simpa using hd
  by_cases hh : hasD d i = true
  case neg =>
    have hh' : (decide (0 ≤ i) && decide (i < (d.Last.length : Int))) = false := by simpa [hasD] using hh
    have hr : readD d i = ([], false) := by rw [readD, if_pos (.inr (by simpa using hh))]
    rw [hr, hd']
    clear hlc hwc hla hwa hr hd hd' hh
    gi_wp2_with (gi_at_call 66; refine (has_in _ _ la d.Last.length lcap _ _ i _ rfl _).mono ?_; rintro e w1 ⟨rfl, hB1⟩; rw [hh']; obtain ⟨hc1, hf1⟩ := below_bcell hB1; have hz1 := hB1.size; simp only [World.size_alloc] at hz1)
    have c2 : w1.cell? ⟨w.heap.size + 1 + 1, 0, none⟩ = some (.string ⟨#[]⟩) := (hc1 (w.heap.size + 1 + 1) 0 (by simp)).trans (by simp [go_sem])
    have c3 : w1.cell? ⟨w.heap.size + 1 + 1 + 1, 0, none⟩ = some (.bool false) := (hc1 (w.heap.size + 1 + 1 + 1) 0 (by simp)).trans (by simp [go_sem])
    have r3 : ((w1.setCell ⟨w.heap.size + 1 + 1, 0, none⟩ (.string ⟨#[]⟩)).setCell ⟨w.heap.size + 1 + 1 + 1, 0, none⟩ (.bool false)).cell? ⟨w.heap.size + 1 + 1 + 1, 0, none⟩ = some (.bool false) :=
      World.cell?_setCell_same' _ _ _ (by rw [World.cell?_setCell_far _ _ _ _ (by simp), c3]; rfl)
    have r2 : ((w1.setCell ⟨w.heap.size + 1 + 1, 0, none⟩ (.string ⟨#[]⟩)).setCell ⟨w.heap.size + 1 + 1 + 1, 0, none⟩ (.bool false)).cell? ⟨w.heap.size + 1 + 1, 0, none⟩ = some (.string ⟨#[]⟩) := by
      rw [World.cell?_setCell_far _ _ _ _ (by simp)]
      exact World.cell?_setCell_same' _ _ _ (by rw [c2]; rfl)
    refine ⟨.tuple #[.string ⟨#[]⟩, .bool false], ?_, rfl, ?_⟩
    · simp [results, Tryz.f206, go_sem, r2, r3]
    · exact ((((((Below.refl _ _).alloc (Nat.le_refl _) _).alloc (by simp) _).alloc (by simp; omega) _).alloc (by simp; omega) _).trans (hB1.mono (by simp; omega))).setCell (by simp; omega) _ |>.setCell (by simp; omega) _
  have hh' : (decide (0 ≤ i) && decide (i < (d.Last.length : Int))) = true := by simpa [hasD] using hh
  have hr : readD d i = ((lastB i d.Wait).getD (d.Last.getD i.toNat []), true) := by rw [readD, if_neg (by simp [hd', hh])]
  have hir : 0 ≤ i ∧ i < (d.Last.length : Int) := by simpa using hh'
  rw [hr, hd']
  have Hla : Hid (d.Last = [] ∨ la = some ⟨lb, lo, none⟩) := hla
  have Hlc : Hid (∀ k, k < d.Last.length → w.cell? ⟨lb, lo + k, none⟩ = some (.string ⟨(d.Last.getD k default).toArray⟩)) := hlc
  have Hwv : Hid (PutsAt w (.slice wa d.Wait.length wcap) d.Wait) := hwv'
  clear hlc hwc hla hwa hr hd hd' hh hwv'
  gi_wp2_with (first
    | (gi_at_call 66; refine (has_in _ _ la d.Last.length lcap _ _ i _ rfl _).mono ?_; rintro e w1 ⟨rfl, hB1⟩; rw [hh']; obtain ⟨hc1, hf1⟩ := below_bcell hB1; have hz1 := hB1.size; simp only [World.size_alloc] at hz1)
    | (gi_at_call 250; refine (backward_in _ _ ⟨_, _, _, rfl⟩).mono ?_; rintro e w2 ⟨rfl, rfl⟩))
  have hBw : Below w.heap.size w w1 := (((((Below.refl _ _).alloc (Nat.le_refl _) _).alloc (by simp) _).alloc (by simp; omega) _).alloc (by simp; omega) _).trans (hB1.mono (by simp; omega))
  have e0 : w1.cell? ⟨w.heap.size, 0, none⟩ = some (.slice la d.Last.length lcap) := (hc1 w.heap.size 0 (by first | (simp; done) | (simp; omega))).trans (by simp [go_sem])
  have e1 : w1.cell? ⟨w.heap.size + 1, 0, none⟩ = some (.int .i64 i) := (hc1 (w.heap.size + 1) 0 (by first | (simp; done) | (simp; omega))).trans (by simp [go_sem])
  have e2 : w1.cell? ⟨w.heap.size + 1 + 1, 0, none⟩ = some (.string ⟨#[]⟩) := (hc1 (w.heap.size + 1 + 1) 0 (by simp)).trans (by simp [go_sem])
  have e3 : w1.cell? ⟨w.heap.size + 1 + 1 + 1, 0, none⟩ = some (.bool false) := (hc1 (w.heap.size + 1 + 1 + 1) 0 (by simp)).trans (by simp [go_sem])
  have f2 : w1.frozen? ⟨w.heap.size + 1 + 1, 0, none⟩ = false := (hf1 (w.heap.size + 1 + 1) 0 (by simp)).trans (by simp [go_sem])
  have f3 : w1.frozen? ⟨w.heap.size + 1 + 1 + 1, 0, none⟩ = false := (hf1 (w.heap.size + 1 + 1 + 1) 0 (by simp)).trans (by simp [go_sem])
  clear hc1 hf1 hB1
  have lt : ∀ (c : Nat) (o : Nat) (v : Value), w1.cell? ⟨c, o, none⟩ = some v → (w1.alloc (.cells #[.slice wa d.Wait.length wcap] 24)).cell? ⟨c, o, none⟩ = some v := fun c o v h => (World.cell?_alloc_past _ _ _ (cell_lt h)).trans h
  have frz : ∀ (c : Nat) (o : Nat), c < w1.heap.size → (w1.alloc (.cells #[.slice wa d.Wait.length wcap] 24)).frozen? ⟨c, o, none⟩ = w1.frozen? ⟨c, o, none⟩ := fun c o h => World.frozen?_of_block (Below.heap_alloc _ _ _ h)
  obtain ⟨b, hb⟩ : ∃ b, b = w1.heap.size := ⟨_, rfl⟩
  rw [← hb]
  obtain ⟨W2, hW2⟩ : ∃ W2, W2 = w1.alloc (.cells #[.slice wa d.Wait.length wcap] 24) := ⟨_, rfl⟩
  rw [← hW2] at lt frz ⊢
  have eb : W2.cell? ⟨b, 0, none⟩ = some (.slice wa d.Wait.length wcap) := by rw [hW2, hb]; simp [go_sem]
  have hBw2 : Below w.heap.size w W2 := by rw [hW2]; exact hBw.alloc (by omega) _
  have hsz : W2.heap.size = b + 1 := by rw [hW2, hb]; simp
  have g2 := (frz _ 0 (by omega)).trans f2
  have g3 := (frz _ 0 (by omega)).trans f3
  replace e0 := lt _ _ _ e0
  replace e1 := lt _ _ _ e1
  replace e2 := lt _ _ _ e2
  replace e3 := lt _ _ _ e3
  have hwz : w.heap.size + 5 ≤ W2.heap.size := by omega
  clear lt frz f2 f3 hW2 hb
  have hput : PutsAt W2 (.slice wa d.Wait.length wcap) d.Wait := by
    obtain ⟨a, cap, sb, so, q1, q2, q3⟩ := Hwv.out
    exact ⟨a, cap, sb, so, q1, q2, fun k hk => ⟨(hBw2.cell (p := ⟨sb, so + (k * 2 + 0), none⟩) (cell_lt (q3 k hk).1)).trans (q3 k hk).1, (hBw2.cell (p := ⟨sb, so + (k * 2 + 1), none⟩) (cell_lt (q3 k hk).2)).trans (q3 k hk).2⟩⟩
  have hstop := back_stops d.Wait hw W2 b _ eb hput
  refine wpIn_rangeFunc_ownH rfl (by omega) (gf := 293) (lb := #[.pointer (some ⟨b, 0, none⟩)]) rfl trivial (enters_of Tryz.func293 (by kernel_rfl) rfl) hstop
    (fun h k => belowK_t h k) (fun W l o o' h1 h2 h3 h4 => belowK_b (Nat.le_refl _) W l o o' h1 h2 h3 h4) (Below.refl _ _) (fun _ => rfl)
    (fun pre W => Below w.heap.size w W ∧ W2.heap.size ≤ W.heap.size ∧ W.cell? ⟨w.heap.size, 0, none⟩ = some (.slice la d.Last.length lcap) ∧ W.cell? ⟨w.heap.size + 1, 0, none⟩ = some (.int .i64 i) ∧ W.cell? ⟨w.heap.size + 1 + 1, 0, none⟩ = some (.string ⟨#[]⟩) ∧ W.frozen? ⟨w.heap.size + 1 + 1, 0, none⟩ = false ∧ W.cell? ⟨w.heap.size + 1 + 1 + 1, 0, none⟩ = some (.bool false) ∧ W.frozen? ⟨w.heap.size + 1 + 1 + 1, 0, none⟩ = false ∧ ∀ k ∈ pre, (d.Wait.getD k default).At ≠ i)
    (fun c pre W => c = .ret ∧ Below w.heap.size w W ∧ ∃ k pre', pre = pre' ++ [k] ∧ (∀ k ∈ pre', (d.Wait.getD k default).At ≠ i) ∧ (d.Wait.getD k default).At = i ∧ W.cell? ⟨w.heap.size + 1 + 1, 0, none⟩ = some (.string ⟨(d.Wait.getD k default).B.toArray⟩) ∧ W.cell? ⟨w.heap.size + 1 + 1 + 1, 0, none⟩ = some (.bool true))
    ?own ?ownx ⟨hBw2, Nat.le_refl _, e0, e1, e2, g2, e3, g3, fun _ h => by simp at h⟩
    (fun x a' W => ∃ g, W2.heap.size ≤ g ∧ W.cell? ⟨g, 0, none⟩ = some (.int .i64 (d.Wait.getD x default).At) ∧ W.cell? ⟨g, 0 + 1, none⟩ = some (.string ⟨(d.Wait.getD x default).B.toArray⟩) ∧
      a' = { tmps := #[.agg #[.slice la d.Last.length lcap, .slice wa d.Wait.length wcap, .int .i64 d.Lies, .int .i64 d.Arm, .bool false], .int .i64 i, .pointer (some ⟨w.heap.size, 0, none⟩), .pointer (some ⟨w.heap.size + 1, 0, none⟩), .pointer (some ⟨w.heap.size + 1 + 1, 0, none⟩), .pointer (some ⟨w.heap.size + 1 + 1 + 1, 0, none⟩), undef, .pointer (some ⟨g, 0, none⟩), .pointer (some ⟨w.heap.size, 4, none⟩), .bool false, .bool false, .agg #[.slice la d.Last.length lcap, .slice wa d.Wait.length wcap, .int .i64 d.Lies, .int .i64 d.Arm, .bool false], .int .i64 i, .bool true, .bool false, .bool false, .pointer (some ⟨w.heap.size, 1, none⟩), .slice wa d.Wait.length wcap, .func (.func 293) #[] #[.pointer (some ⟨b, 0, none⟩)], .int .i64 (x : Int), .agg #[.int .i64 (d.Wait.getD x default).At, .string ⟨(d.Wait.getD x default).B.toArray⟩], undef, undef, undef, undef, undef, undef, undef, undef, undef, undef, undef], defers := [] }) ?ownA ?assign ?body ?done ?stop
  case own =>
    rintro s W W' row ⟨q1, q2, q3, q4, q5, q6, q7, q8, q9⟩ hg hr
    have hr' : ∀ r, row = some r → ∃ o : Obj, W.heap[r]? = some o ∧ o.isCells = false := fun r e => (hr r e).2
    exact ⟨q1.grown hg (by have := q1.size; omega) fun k e => by have := (hr k e).1; omega, Nat.le_trans q2 hg.size, cell_kept q3 hg hr', cell_kept q4 hg hr', cell_kept q5 hg hr', (frozen_kept q5 hg hr').trans q6, cell_kept q7 hg hr', (frozen_kept q7 hg hr').trans q8, q9⟩
  case ownx =>
    rintro c s W W' row ⟨q1, q2, k, pre, q3, q4, q5, q6, q7⟩ hg hr
    have hr' : ∀ r, row = some r → ∃ o : Obj, W.heap[r]? = some o ∧ o.isCells = false := fun r e => (hr r e).2
    exact ⟨q1, q2.grown hg (by have := q2.size; omega) fun k e => by have := (hr k e).1; omega, k, pre, q3, q4, q5, cell_kept q6 hg hr', cell_kept q7 hg hr'⟩
  case ownA =>
    rintro x a' ⟨⟩ W W' row ⟨g, q1, q2, q3, q4⟩ hg hr
    have hr' : ∀ r, row = some r → ∃ o : Obj, W.heap[r]? = some o ∧ o.isCells = false := fun r e => (hr r e).2
    exact ⟨g, q1, cell_kept q2 hg hr', cell_kept q3 hg hr', q4⟩
  case assign =>
    rintro l pre x W K ⟨q1, q2, q3, q4, q5, q6, q7, q8, q9⟩ hK
    dsimp only [encP]
    generalize (d.Wait.getD x default).At = At at *
    generalize (⟨(d.Wait.getD x default).B.toArray⟩ : ByteArray) = B at *
    gi_wp2_with (rw [Oper.semAt_eq _ _ _ (fun c h => by cases h)]; go_simp; try go_bits)
    have hg := World.grownBy_alloc W (.cells #[.int .i64 At, .string B] 82) none
    have hr' : ∀ r, (none : Option Nat) = some r → ∃ o : Obj, W.heap[r]? = some o ∧ o.isCells = false := fun r e => by cases e
    refine hK _ _ (KeepsFrom.of_grownBy hg fun j e => by cases e) ((Below.refl _ _).alloc q2 _) ⟨q1.alloc (by have := q1.size; omega) _, Nat.le_trans q2 hg.size, cell_kept q3 hg hr', cell_kept q4 hg hr', cell_kept q5 hg hr', (frozen_kept q5 hg hr').trans q6, cell_kept q7 hg hr', (frozen_kept q7 hg hr').trans q8, q9⟩ ⟨W.heap.size, q2, ?_, ?_, rfl⟩
    · simp [go_sem]
    · simp [go_sem]
  case body =>
    rintro l pre x a' W hl _ ⟨q1, q2, q3, q4, q5, q6, q7, q8, q9⟩ ⟨g, p1, p2, p3, rfl⟩ hpl
    generalize hAt : (d.Wait.getD x default).At = At at *
    generalize hB : (⟨(d.Wait.getD x default).B.toArray⟩ : ByteArray) = B at *
    have HAt : Hid ((d.Wait.getD x default).At = At) := hAt
    have HB : Hid ((⟨(d.Wait.getD x default).B.toArray⟩ : ByteArray) = B) := hB
    have H9 : Hid (∀ k ∈ pre, (d.Wait.getD k default).At ≠ i) := q9
    clear hAt hB q9
    by_cases hc : At = i
    · subst hc
      gi_wp2_with (rw [Oper.semAt_eq _ _ _ (fun c h => by cases h)]; go_simp; try go_bits)
      have r3 : ((W.setCell ⟨w.heap.size + 1 + 1, 0, none⟩ (.string B)).setCell ⟨w.heap.size + 1 + 1 + 1, 0, none⟩ (.bool true)).cell? ⟨w.heap.size + 1 + 1 + 1, 0, none⟩ = some (.bool true) :=
        World.cell?_setCell_same' _ _ _ (by rw [World.cell?_setCell_far _ _ _ _ (by simp), q7]; rfl)
      have r2 : ((W.setCell ⟨w.heap.size + 1 + 1, 0, none⟩ (.string B)).setCell ⟨w.heap.size + 1 + 1 + 1, 0, none⟩ (.bool true)).cell? ⟨w.heap.size + 1 + 1, 0, none⟩ = some (.string B) := by
        rw [World.cell?_setCell_far _ _ _ _ (by simp)]
        exact World.cell?_setCell_same' _ _ _ (by rw [q5]; rfl)
      refine ⟨((KeepsOthers.setCell _ _ _).trans (KeepsOthers.setCell _ _ _)).from _, rfl, (q1.setCell (by simp; omega) _).setCell (by simp; omega) _, x, pre, rfl, H9.out, HAt.out, ?_, r3⟩
      rw [HB.out]; exact r2
    · gi_wp2_with (rw [Oper.semAt_eq _ _ _ (fun c h => by cases h)]; go_simp; try go_bits)
      refine ⟨KeepsFrom.refl _ _, Below.refl _ _, q1, q2, q3, q4, q5, q6, q7, q8, fun k hk => ?_⟩
      rcases List.mem_append.1 hk with h | h
      · exact H9.out k h
      · rw [List.mem_singleton.1 h, HAt.out]; exact hc
  case done =>
    rintro D xs W hD rfl ⟨q1, q2, q3, q4, q5, q6, q7, q8, q9⟩ hK
    have hnone : lastB i d.Wait = none := lastB_none fun k hk => q9 k (by simp [revN]; exact hk)
    obtain ⟨a, ha⟩ : ∃ a : Nat, i = (a : Int) := ⟨i.toNat, by omega⟩
    subst ha
    have hal : a < d.Last.length := by omega
    have hla' : la = some ⟨lb, lo, none⟩ := Hla.out.resolve_left fun e => by rw [e] at hal; simp at hal
    subst hla'
    have c1 := Hlc.out a hal
    have c2 : W.cell? ⟨lb, lo + a, none⟩ = some (.string ⟨(d.Last.getD a default).toArray⟩) := (q1.cell (p := ⟨lb, lo + a, none⟩) (cell_lt c1)).trans c1
    have HN : Hid (lastB (a : Int) d.Wait = none) := hnone
    clear q9 hnone c1 hstop hput e0 e1 e2 e3 g2 g3 eb hsz hBw hBw2
    gi_wp2
    have s2 : ∀ v : Value, ((W.setCell ⟨w.heap.size + 1 + 1, 0, none⟩ v).setCell ⟨w.heap.size + 1 + 1 + 1, 0, none⟩ (.bool true)).cell? ⟨w.heap.size + 1 + 1, 0, none⟩ = some v := fun v => by
      rw [World.cell?_setCell_far _ _ _ _ (by simp)]
      exact World.cell?_setCell_same' _ _ _ (by rw [q5]; rfl)
    have s3 : ∀ v : Value, ((W.setCell ⟨w.heap.size + 1 + 1, 0, none⟩ v).setCell ⟨w.heap.size + 1 + 1 + 1, 0, none⟩ (.bool true)).cell? ⟨w.heap.size + 1 + 1 + 1, 0, none⟩ = some (.bool true) := fun v =>
      World.cell?_setCell_same' _ _ _ (by rw [World.cell?_setCell_far _ _ _ _ (by simp), q7]; rfl)
    have sK : ∀ v : Value, ((W.setCell ⟨w.heap.size + 1 + 1, 0, none⟩ v).setCell ⟨w.heap.size + 1 + 1 + 1, 0, none⟩ (.bool true)).heap[D]? = some (.deferred (some [])) := fun v => ((KeepsOthers.setCell _ _ _).trans (KeepsOthers.setCell _ _ _)).same D _ hK rfl
    have t2 := fun v => cell_kept (s2 v) (grownBy_putObj' _ D (.deferred none)) (fun r e => by cases e; exact ⟨_, sK v, rfl⟩)
    have t3 := fun v => cell_kept (s3 v) (grownBy_putObj' _ D (.deferred none)) (fun r e => by cases e; exact ⟨_, sK v, rfl⟩)
    have hd3 : d.Last.getD a default = d.Last[a] := by rw [List.getD_eq_getElem?_getD, List.getElem?_eq_getElem hal]; rfl
    refine ⟨by simp, .inl ⟨_, _, rfl, run_takeDeferred (sK _), ?_⟩⟩
    refine ⟨.tuple #[.string ⟨d.Last[a].toArray⟩, .bool true], ?_, ?_, ?_⟩
    · simp [results, Tryz.f206, go_sem, t2, t3]
    · rw [HN.out]; rfl
    · exact (((q1.setCell (by simp; omega) _).setCell (by simp; omega) _).grown (grownBy_putObj' _ D (.deferred none)) (by simp [World.setCell]; have := q1.size; omega) (fun k e => by cases e; omega))
  case stop =>
    rintro D c pre W hD ⟨r, hr'⟩ ⟨rfl, q1, k, pre', hpre, q4, q5, q6, q7⟩ hK
    have hl : lastB i d.Wait = some (d.Wait.getD k default).B := by
      refine lastB_rev (r := r) ?_ q4 q5
      rw [← hr', hpre]; simp
    have HN : Hid (lastB i d.Wait = some (d.Wait.getD k default).B) := hl
    generalize (d.Wait.getD k default).B = B at *
    clear hpre hr' q4 q5 hl hstop hput e0 e1 e2 e3 g2 g3 eb hsz hBw hBw2
    gi_wp2
    have t2 := cell_kept q6 (grownBy_putObj' _ D (.deferred none)) (fun r e => by cases e; exact ⟨_, hK, rfl⟩)
    have t3 := cell_kept q7 (grownBy_putObj' _ D (.deferred none)) (fun r e => by cases e; exact ⟨_, hK, rfl⟩)
    refine ⟨by simp, .inl ⟨_, _, rfl, run_takeDeferred hK, ?_⟩⟩
    refine ⟨.tuple #[.string ⟨B.toArray⟩, .bool true], ?_, ?_, ?_⟩
    · simp [results, Tryz.f206, go_sem, t2, t3]
    · rw [HN.out]; rfl
    · exact q1.grown (grownBy_putObj' _ D (.deferred none)) (by have := q1.size; omega) (fun k e => by cases e; omega)
end Go.Proofs.YtenckbcdfdmckaaGreatDoor


namespace Go.Proofs.YtenckbcdfdmckaaGreatDoor
open Go Go.Eng Go.RowKit
theorem texts_of {w : World} {O : Addr → Prop} {v : Value} {l : List (List UInt8)} (h : RepT w O (sl l) v) : TextsAt w v l := by
  cases h with
  | seq _ _ a len cap b off c hlen hcap ha hn hc ho hr =>
    simp only [List.length_map] at hlen hc hr
    subst hlen
    refine ⟨a, cap, b, off, rfl, ha.imp (fun h => by simpa using h) id, fun k hk => ?_⟩
    have h1 := hc k 0 hk (by decide)
    have h2 := hr k 0 hk (by decide)
    have e : (List.map Cell.enc l).getD k [] = [.str (l.getD k default)] := row_at hk
    rw [e] at h2
    simp only [List.getD_cons_zero] at h2
    have h3 := h2
    generalize c k 0 = x at h1 h3
    cases h3
    simpa using h1
theorem puts_of {w : World} {O : Addr → Prop} {v : Value} {l : List TPut} (h : RepT w O (sl l) v) : PutsAt w v l := by
  cases h with
  | seq _ _ a len cap b off c hlen hcap ha hn hc ho hr =>
    simp only [List.length_map] at hlen hc hr
    subst hlen
    refine ⟨a, cap, b, off, rfl, ha.imp (fun h => by simpa using h) id, fun k hk => ?_⟩
    have e : (List.map Cell.enc l).getD k [] = [.int .i64 (l.getD k default).At, .str (l.getD k default).B] := row_at hk
    have h1 := hc k 0 hk (by decide)
    have h2 := hr k 0 hk (by decide)
    have g1 := hc k 1 hk (by decide)
    have g2 := hr k 1 hk (by decide)
    rw [e] at h2 g2
    simp only [List.getD_cons_zero, List.getD_cons_succ] at h2 g2
    generalize c k 0 = x at h1 h2
    generalize c k 1 = y at g1 g2
    cases h2
    cases g2
    exact ⟨h1, g1⟩
theorem below_frame {β : Bt} {w w' : World} (h : Below w.heap.size w w') : Go.Eng.Frame Nothing β w Nothing β w' :=
  ⟨h.os, h.tape, h.output, h.size, fun b hb _ => h.block b hb, fun b off hb _ => h.cell (p := ⟨b, off, none⟩) hb, fun b hb => by simp only [World.shape?, h.block b hb], fun _ _ _ h => h.elim, fun _ _ h => h, fun _ _ h => .inl h⟩

def A_dev_Read := Arms.cons (argA TDev) (Arms.cons (argT Int) Arms.nil)
def p_dev_Read (x : TDev × Int × Unit) : Prop := x.1.Last.length ≤ 1099511627776 ∧ x.1.Wait.length ≤ 1099511627776
def r_dev_Read (x : TDev × Int × Unit) : AV := .tup [.t (.str (readD x.1 x.2.1).1), .t (.bool (readD x.1 x.2.1).2)]
noncomputable def c_dev_Read : Con := fnScal A_dev_Read p_dev_Read r_dev_Read
theorem ok_dev_Read : COk Tryz.prog 206 c_dev_Read := by
  refine ⟨⟨_, Tryz.func206, by kernel_rfl, by rfl⟩, ?_⟩
  rintro xs vs β w A h1 h2 h3 ha ⟨⟨d, i, ⟨⟩⟩, hx, hp1, hp2⟩
  dsimp only at hp1 hp2
  obtain ⟨la, sa⟩ := A_dev_Read.sound xs _ hx
  have hlen : xs.length = 2 := la
  have hrep := sa β w A (fun i => vs.getD i undef) ha.2
  have hsz : vs.size = 2 := by rw [← ha.1]; exact hlen
  have r0 : Rep β w A (.agg ((dvC d).map .t)) (vs.getD 0 undef) := hrep 0 (by omega)
  have r1 : Rep β w A (.t (.int .i64 i)) (vs.getD 1 undef) := hrep 1 (by omega)
  have hvs : vs = #[vs.getD 0 undef, vs.getD 1 undef] := by
    apply Array.ext
    · simp [hsz]
    · intro k h1 h2
      rcases (by omega : k = 0 ∨ k = 1) with rfl | rfl <;> simp [Array.getD_eq_getD_getElem?, h1]
  have hv1 := r1.int_inv
  generalize vs.getD 0 undef = v0 at hvs r0
  generalize vs.getD 1 undef = v1 at hvs hv1
  subst hv1 hvs
  cases r0 with
  | agg _ cs hl _ hr =>
    have hcl : cs.size = 5 := by rw [← hl]; rfl
    have q0 : RepT w A (sl d.Last) (cs.getD 0 undef) := (hr 0 (by simp [dvC])).t_inv
    have q1 : RepT w A (sl d.Wait) (cs.getD 1 undef) := (hr 1 (by simp [dvC])).t_inv
    have q2 := (show Rep β w A (.t (.int .i64 d.Lies)) (cs.getD 2 undef) from hr 2 (by simp [dvC])).int_inv
    have q3 := (show Rep β w A (.t (.int .i64 d.Arm)) (cs.getD 3 undef) from hr 3 (by simp [dvC])).int_inv
    have q4 := (show Rep β w A (.t (.bool d.Down)) (cs.getD 4 undef) from hr 4 (by simp [dvC])).bool_inv
    have hcs : cs = #[cs.getD 0 undef, cs.getD 1 undef, .int .i64 d.Lies, .int .i64 d.Arm, .bool d.Down] := by
      rw [← q2, ← q3, ← q4]
      apply Array.ext
      · simp [hcl]
      · intro k h1 h2
        rcases (by omega : k = 0 ∨ k = 1 ∨ k = 2 ∨ k = 3 ∨ k = 4) with rfl | rfl | rfl | rfl | rfl <;> simp [Array.getD_eq_getD_getElem?, h1]
    rw [hcs]
    refine (callsIn_wide.1 (read_in d i hp2 hp1 _ _ w (texts_of q0) (puts_of q1))).mono ?_
    rintro e w' ⟨rfl, hB⟩
    refine ⟨Nothing, β, _, rfl, below_frame hB, fun β w A => ?_⟩
    simp only [hx]
    change Rep β w A (.tup [.t (.str (readD d i).1), .t (.bool (readD d i).2)]) _
    refine .tup _ _ rfl fun k hk => ?_
    have hk2 : k < 2 := hk
    rcases (by omega : k = 0 ∨ k = 1) with rfl | rfl
    · exact .t _ _ (.str _)
    · exact .t _ _ (.bool _)
end Go.Proofs.YtenckbcdfdmckaaGreatDoor

