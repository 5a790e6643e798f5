/-
  SpanOf.
-/
import Derived.Test.YtcahbcdikcjihaaFnsC
set_option linter.unusedSimpArgs false
set_option linter.unusedVariables false
namespace Go.Proofs.Ytcahbcdikcjihaa
open Go Go.Eng
def u8s (l : List Byt) : List Int := l.map fun x => (x.v.toNat : Int)
theorem u8s_next {l : List Byt} {i : Nat} (h : i < l.length) : u8s (l.take (i + 1)) = u8s (l.take i) ++ [((l.getD i default).v.toNat : Int)] := by
  unfold u8s
  rw [List.take_add_one, List.getD_eq_getElem?_getD, List.getElem?_eq_getElem h, List.map_append]
  rfl
theorem u8w8 (x : UInt8) : IntKind.i64.wrap (x.toNat : Int) = (x.toNat : Int) := IntWalk.i64_in _ (by have := x.toNat_lt; omega)
/-- Is a number among the first ones? -/
def amg (e : List Int) (j : Nat) (i : Int) : Bool := (e.take j).any fun x => decide (x = i)
theorem amg_next {e : List Int} {j : Nat} {i : Int} (h : j < e.length) : amg e (j + 1) i = (amg e j i || decide (e.getD j default = i)) := by
  unfold amg
  rw [List.take_add_one, List.getD_eq_getElem?_getD, List.getElem?_eq_getElem h, List.any_append]
  simp
theorem amg_all {e : List Int} {i : Int} : amg e e.length i = e.contains i := by
  unfold amg
  rw [List.take_length, Bool.eq_iff_iff, List.any_eq_true, List.contains_iff_mem]
  simp
def G_law8_SpanOf_34 : GCode := .seq (.seq .weak (.region [⟨(some 124), none, .move (.tmp 7)⟩, ⟨(some 125), none, .move (.tmp 13)⟩, ⟨(some 126), none, .call ⟨.value (.func 27), #[.tmp 125], #[24]⟩⟩, ⟨(some 127), none, .call ⟨.value (.func 18), #[.tmp 124, .tmp 126], #[23, 23]⟩⟩, ⟨(some 18), none, .assign (.tmp 127)⟩])) (.seq (.seq .weak (.region [⟨(some 128), none, .move (.tmp 7)⟩, ⟨(some 129), none, .call ⟨.value (.func 13), #[.tmp 128], #[23]⟩⟩, ⟨(some 130), none, .move (.tmp 129)⟩, ⟨(some 131), (some (130, true)), .move (.tmp 18)⟩, ⟨(some 132), (some (130, true)), .call ⟨.builtin .len, #[.tmp 131], #[23]⟩⟩, ⟨(some 133), (some (130, true)), .binOp .eql 3 (.tmp 132) (.const (.int .i64 0)) 3⟩, ⟨(some 134), (some (130, true)), .move (.tmp 133)⟩, ⟨(some 135), (some (134, false)), .move (.tmp 12)⟩, ⟨(some 136), (some (134, false)), .binOp .eql 3 (.tmp 135) (.const (.int .i64 0)) 3⟩, ⟨(some 137), (some (130, true)), .pick (.tmp 134) (.const (.bool true)) (.tmp 136)⟩, ⟨(some 138), (some (130, true)), .move (.tmp 137)⟩, ⟨(some 139), (some (138, false)), .move (.tmp 18)⟩, ⟨(some 140), (some (138, false)), .indexAddr 23 (.tmp 139) (.const (.int .i64 0))⟩, ⟨(some 141), (some (138, false)), .fieldAddr 31 (.tmp 140) 0⟩, ⟨(some 142), (some (138, false)), .load 3 (.tmp 141)⟩, ⟨(some 143), (some (138, false)), .move (.tmp 13)⟩, ⟨(some 144), (some (138, false)), .move (.tmp 12)⟩, ⟨(some 145), (some (138, false)), .binOp .sub 3 (.tmp 144) (.const (.int .i64 1)) 3⟩, ⟨(some 146), (some (138, false)), .indexAddr 24 (.tmp 143) (.tmp 145)⟩, ⟨(some 147), (some (138, false)), .load 3 (.tmp 146)⟩, ⟨(some 148), (some (138, false)), .binOp .gtr 3 (.tmp 142) (.tmp 147) 3⟩, ⟨(some 149), (some (130, true)), .pick (.tmp 138) (.const (.bool true)) (.tmp 148)⟩, ⟨(some 150), none, .pick (.tmp 130) (.tmp 149) (.const (.bool false))⟩, ⟨(some 151), none, .move (.tmp 150)⟩, ⟨(some 152), (some (151, true)), .move (.tmp 18)⟩, ⟨(some 153), (some (151, true)), .call ⟨.value (.func 22), #[.tmp 152], #[23]⟩⟩, ⟨(some 154), (some (151, true)), .move (.tmp 8)⟩, ⟨(some 155), (some (151, true)), .move (.tmp 12)⟩, ⟨(some 156), (some (151, true)), .binOp .sub 3 (.tmp 154) (.tmp 155) 3⟩, ⟨(some 157), (some (151, true)), .binOp .eql 3 (.tmp 153) (.tmp 156) 3⟩, ⟨(some 158), none, .pick (.tmp 151) (.tmp 157) (.const (.bool false))⟩, ⟨(some 4), none, .assign (.tmp 158)⟩])) (.ret))
def G_law8_SpanOf_29 : GCode := .seq (.seq (.seq .weak (.region [⟨(some 17), none, .assign (.const (.int .i64 0))⟩])) (.block 6 (.loop (.seq .weak (.seq (.seq (.region [⟨(some 96), none, .move (.tmp 17)⟩, ⟨(some 97), none, .move (.tmp 12)⟩, ⟨(some 98), none, .binOp .lss 3 (.tmp 96) (.tmp 97) 3⟩]) (.cond (.tmp 98) (.skip) (.exit 6))) (.seq (.block 7 (.seq (.region [⟨(some 101), none, .move (.tmp 7)⟩, ⟨(some 102), none, .move (.tmp 13)⟩, ⟨(some 103), none, .move (.tmp 17)⟩, ⟨(some 104), none, .indexAddr 24 (.tmp 102) (.tmp 103)⟩, ⟨(some 105), none, .load 3 (.tmp 104)⟩, ⟨(some 106), none, .call ⟨.value (.func 25), #[.tmp 101, .tmp 105], #[23, 3]⟩⟩, ⟨(some 107), none, .unOp .not 4 (.tmp 106)⟩, ⟨(some 108), none, .move (.tmp 107)⟩, ⟨(some 109), (some (108, false)), .move (.tmp 17)⟩, ⟨(some 110), (some (108, false)), .binOp .gtr 3 (.tmp 109) (.const (.int .i64 0)) 3⟩, ⟨(some 111), (some (108, false)), .move (.tmp 110)⟩, ⟨(some 112), (some (111, true)), .move (.tmp 13)⟩, ⟨(some 113), (some (111, true)), .move (.tmp 17)⟩, ⟨(some 114), (some (111, true)), .binOp .sub 3 (.tmp 113) (.const (.int .i64 1)) 3⟩, ⟨(some 115), (some (111, true)), .indexAddr 24 (.tmp 112) (.tmp 114)⟩, ⟨(some 116), (some (111, true)), .load 3 (.tmp 115)⟩, ⟨(some 117), (some (111, true)), .move (.tmp 13)⟩, ⟨(some 118), (some (111, true)), .move (.tmp 17)⟩, ⟨(some 119), (some (111, true)), .indexAddr 24 (.tmp 117) (.tmp 118)⟩, ⟨(some 120), (some (111, true)), .load 3 (.tmp 119)⟩, ⟨(some 121), (some (111, true)), .binOp .geq 3 (.tmp 116) (.tmp 120) 3⟩, ⟨(some 122), (some (108, false)), .pick (.tmp 111) (.tmp 121) (.const (.bool false))⟩, ⟨(some 123), none, .pick (.tmp 108) (.const (.bool true)) (.tmp 122)⟩]) (.cond (.tmp 123) (.seq (.region [⟨(some 4), none, .assign (.const (.bool false))⟩]) (.ret)) (.skip)))) (.region [⟨(some 99), none, .move (.tmp 17)⟩, ⟨(some 100), none, .binOp .add 3 (.tmp 99) (.const (.int .i64 1)) 3⟩, ⟨(some 17), none, .assign (.tmp 100)⟩]))))))) (G_law8_SpanOf_34)
def G_law8_SpanOf_24 : GCode := .seq (.seq .weak (.region [⟨(some 67), none, .move (.tmp 1)⟩, ⟨(some 68), none, .convert 5 3 (.tmp 67)⟩, ⟨(some 69), none, .move (.tmp 8)⟩, ⟨(some 70), none, .binOp .add 3 (.tmp 69) (.const (.int .i64 1)) 3⟩, ⟨(some 71), none, .binOp .rem 3 (.tmp 68) (.tmp 70) 3⟩, ⟨(some 12), none, .assign (.tmp 71)⟩])) (.seq (.region [⟨(some 73), none, .move (.tmp 7)⟩, ⟨(some 74), none, .move (.tmp 12)⟩, ⟨(some 75), none, .call ⟨.value (.func 29), #[.tmp 73, .tmp 74], #[23, 3]⟩⟩, ⟨(some 72), none, .move (.tmp 75)⟩, ⟨(some 76), none, .extract (.tmp 72) 0⟩, ⟨(some 77), none, .extract (.tmp 72) 1⟩, ⟨(some 13), none, .assign (.tmp 76)⟩, ⟨(some 14), none, .assign (.tmp 77)⟩]) (.seq (.region [⟨(some 79), none, .move (.tmp 7)⟩, ⟨(some 80), none, .move (.tmp 8)⟩, ⟨(some 81), none, .binOp .add 3 (.tmp 80) (.const (.int .i64 1)) 3⟩, ⟨(some 82), none, .call ⟨.value (.func 29), #[.tmp 79, .tmp 81], #[23, 3]⟩⟩, ⟨(some 78), none, .move (.tmp 82)⟩, ⟨(some 83), none, .extract (.tmp 78) 0⟩, ⟨(some 84), none, .extract (.tmp 78) 1⟩, ⟨(some 15), none, .assign (.tmp 83)⟩, ⟨(some 16), none, .assign (.tmp 84)⟩]) (.seq (.seq (.seq .weak (.region [⟨(some 85), none, .move (.tmp 14)⟩, ⟨(some 86), none, .unOp .not 4 (.tmp 85)⟩, ⟨(some 87), none, .move (.tmp 86)⟩, ⟨(some 88), (some (87, false)), .move (.tmp 13)⟩, ⟨(some 89), (some (87, false)), .call ⟨.builtin .len, #[.tmp 88], #[24]⟩⟩, ⟨(some 90), (some (87, false)), .move (.tmp 12)⟩, ⟨(some 91), (some (87, false)), .binOp .neq 3 (.tmp 89) (.tmp 90) 3⟩, ⟨(some 92), none, .pick (.tmp 87) (.const (.bool true)) (.tmp 91)⟩, ⟨(some 93), none, .move (.tmp 92)⟩, ⟨(some 94), (some (93, false)), .move (.tmp 16)⟩, ⟨(some 95), none, .pick (.tmp 93) (.const (.bool true)) (.tmp 94)⟩])) (.cond (.tmp 95) (.seq (.region [⟨(some 4), none, .assign (.const (.bool false))⟩]) (.ret)) (.skip))) (G_law8_SpanOf_29))))
def G_law8_SpanOf_12 : GCode := .seq (.seq (.seq .weak (.region [⟨(some 9), none, .assign (.const (.int .i64 0))⟩])) (.block 2 (.loop (.seq .weak (.seq (.seq (.region [⟨(some 40), none, .move (.tmp 9)⟩, ⟨(some 41), none, .binOp .lss 3 (.tmp 40) (.const (.int .i64 256)) 3⟩]) (.cond (.tmp 41) (.skip) (.exit 2))) (.seq (.block 3 (.seq (.region [⟨(some 10), none, .assign (.const (.bool false))⟩]) (.seq (.seq (.region [⟨(some 11), none, .assign (.const (.int .i64 0))⟩]) (.block 4 (.loop (.seq .weak (.seq (.seq (.region [⟨(some 44), none, .move (.tmp 11)⟩, ⟨(some 45), none, .move (.tmp 5)⟩, ⟨(some 46), none, .call ⟨.builtin .len, #[.tmp 45], #[24]⟩⟩, ⟨(some 47), none, .binOp .lss 3 (.tmp 44) (.tmp 46) 3⟩]) (.cond (.tmp 47) (.skip) (.exit 4))) (.seq (.block 5 (.region [⟨(some 50), none, .move (.tmp 10)⟩, ⟨(some 51), none, .move (.tmp 50)⟩, ⟨(some 52), (some (51, false)), .move (.tmp 5)⟩, ⟨(some 53), (some (51, false)), .move (.tmp 11)⟩, ⟨(some 54), (some (51, false)), .indexAddr 24 (.tmp 52) (.tmp 53)⟩, ⟨(some 55), (some (51, false)), .load 3 (.tmp 54)⟩, ⟨(some 56), (some (51, false)), .move (.tmp 9)⟩, ⟨(some 57), (some (51, false)), .binOp .eql 3 (.tmp 55) (.tmp 56) 3⟩, ⟨(some 58), none, .pick (.tmp 51) (.const (.bool true)) (.tmp 57)⟩, ⟨(some 10), none, .assign (.tmp 58)⟩])) (.region [⟨(some 48), none, .move (.tmp 11)⟩, ⟨(some 49), none, .binOp .add 3 (.tmp 48) (.const (.int .i64 1)) 3⟩, ⟨(some 11), none, .assign (.tmp 49)⟩]))))))) (.seq (.seq (.region [⟨(some 59), none, .move (.tmp 7)⟩, ⟨(some 60), none, .move (.tmp 9)⟩, ⟨(some 61), none, .call ⟨.value (.func 25), #[.tmp 59, .tmp 60], #[23, 3]⟩⟩, ⟨(some 62), none, .move (.tmp 10)⟩, ⟨(some 63), none, .binOp .neq 4 (.tmp 61) (.tmp 62) 4⟩]) (.cond (.tmp 63) (.seq (.region [⟨(some 4), none, .assign (.const (.bool false))⟩]) (.ret)) (.skip))) (.seq (.region [⟨(some 64), none, .move (.tmp 10)⟩]) (.cond (.tmp 64) (.region [⟨(some 65), none, .move (.tmp 8)⟩, ⟨(some 66), none, .binOp .add 3 (.tmp 65) (.const (.int .i64 1)) 3⟩, ⟨(some 8), none, .assign (.tmp 66)⟩]) (.skip))))))) (.region [⟨(some 42), none, .move (.tmp 9)⟩, ⟨(some 43), none, .binOp .add 3 (.tmp 42) (.const (.int .i64 1)) 3⟩, ⟨(some 9), none, .assign (.tmp 43)⟩]))))))) (G_law8_SpanOf_24)
def G_law8_SpanOf : GCode := .seq (.region [⟨(some 4), none, .assign (.const (.bool false))⟩]) (.seq (.seq (.region [⟨(some 19), none, .call ⟨.value (.func 10), #[], #[]⟩⟩, ⟨(some 20), none, .unOp .not 4 (.tmp 19)⟩]) (.cond (.tmp 20) (.seq (.region [⟨(some 4), none, .assign (.const (.bool false))⟩]) (.ret)) (.skip))) (.seq (.seq (.region [⟨(some 21), none, .move (.tmp 0)⟩, ⟨(some 22), none, .call ⟨.builtin .len, #[.tmp 21], #[22]⟩⟩, ⟨(some 23), none, .binOp .gtr 3 (.tmp 22) (.const (.int .i64 20)) 3⟩]) (.cond (.tmp 23) (.seq (.region [⟨(some 4), none, .assign (.const (.bool true))⟩]) (.ret)) (.skip))) (.seq (.region [⟨(some 5), none, .assign (.const (.slice none 0 0))⟩]) (.seq (.seq (.region [⟨(some 6), none, .assign (.const (.int .i64 0))⟩]) (.block 0 (.loop (.seq .weak (.seq (.seq (.region [⟨(some 24), none, .move (.tmp 6)⟩, ⟨(some 25), none, .move (.tmp 0)⟩, ⟨(some 26), none, .call ⟨.builtin .len, #[.tmp 25], #[22]⟩⟩, ⟨(some 27), none, .binOp .lss 3 (.tmp 24) (.tmp 26) 3⟩]) (.cond (.tmp 27) (.skip) (.exit 0))) (.seq (.block 1 (.region [⟨(some 30), none, .move (.tmp 5)⟩, ⟨(some 31), none, .move (.tmp 0)⟩, ⟨(some 32), none, .move (.tmp 6)⟩, ⟨(some 33), none, .indexAddr 22 (.tmp 31) (.tmp 32)⟩, ⟨(some 34), none, .load 5 (.tmp 33)⟩, ⟨(some 35), none, .convert 5 3 (.tmp 34)⟩, ⟨(some 36), none, .buildSlice 24 1 #[(0, .tmp 35)]⟩, ⟨(some 37), none, .call ⟨.builtin .append, #[.tmp 30, .tmp 36], #[24, 24]⟩⟩, ⟨(some 5), none, .assign (.tmp 37)⟩])) (.region [⟨(some 28), none, .move (.tmp 6)⟩, ⟨(some 29), none, .binOp .add 3 (.tmp 28) (.const (.int .i64 1)) 3⟩, ⟨(some 6), none, .assign (.tmp 29)⟩]))))))) (.seq (.seq .weak (.region [⟨(some 38), none, .move (.tmp 5)⟩, ⟨(some 39), none, .call ⟨.value (.func 27), #[.tmp 38], #[24]⟩⟩, ⟨(some 7), none, .assign (.tmp 39)⟩])) (.seq (.region [⟨(some 8), none, .assign (.const (.int .i64 0))⟩]) (G_law8_SpanOf_12)))))))
noncomputable def l_law8_SpanOf : List (Nat × Con) := [(10, c_law8_begun), (27, c_span_Of), (25, c_span_Has), (29, c_span_First), (18, c_span_Less), (13, c_span_May), (22, c_span_Count)]
noncomputable abbrev K_law8_SpanOf : Ctx := ctx (cl l_law8_SpanOf)
theorem geq_law8_SpanOf : gof K_law8_SpanOf Try.f5 = some G_law8_SpanOf.strip := by kernel_rfl
theorem sys_law8_SpanOf : Go.Eng.Sys Try.prog K_law8_SpanOf := sys_of' ⟨ok_law8_begun, ok_span_Of, ok_span_Has, ok_span_First, ok_span_Less, ok_span_May, ok_span_Count, trivial⟩
theorem hm_law8_SpanOf : ConMono K_law8_SpanOf := conMono_of sys_law8_SpanOf.con
noncomputable def k_law8_SpanOf_law8_begun := PLift.up (call_scal (C := K_law8_SpanOf) (f := 10) (A := A_law8_begun) (p := p_law8_begun) (r := r_law8_begun) rfl)
noncomputable def k_law8_SpanOf_span_Of := PLift.up (call_fn (C := K_law8_SpanOf) (f := 27) (A := A_span_Of) (p := p_span_Of) (r := r_span_Of) rfl)
noncomputable def k_law8_SpanOf_span_Has := PLift.up (call_scal (C := K_law8_SpanOf) (f := 25) (A := A_span_Has) (p := p_span_Has) (r := r_span_Has) rfl)
noncomputable def k_law8_SpanOf_span_First := PLift.up (call_fn (C := K_law8_SpanOf) (f := 29) (A := A_span_First) (p := p_span_First) (r := r_span_First) rfl)
noncomputable def k_law8_SpanOf_span_Less := PLift.up (call_fn (C := K_law8_SpanOf) (f := 18) (A := A_span_Less) (p := p_span_Less) (r := r_span_Less) rfl)
noncomputable def k_law8_SpanOf_span_May := PLift.up (call_scal (C := K_law8_SpanOf) (f := 13) (A := A_span_May) (p := p_span_May) (r := r_span_May) rfl)
noncomputable def k_law8_SpanOf_span_Count := PLift.up (call_scal (C := K_law8_SpanOf) (f := 22) (A := A_span_Count) (p := p_span_Count) (r := r_span_Count) rfl)
noncomputable def A_law8_SpanOf : Arms ((List Byt) × Byt × Unit) := Arms.cons (argT (List Byt)) (Arms.cons (argT Byt) (Arms.nil))
def p_law8_SpanOf (x : (List Byt) × Byt × Unit) : Prop := (goodList (fun x : Byt => goodAny x) x.1) ∧ (goodAny x.2.1) ∧ goodAny (x.2.2)
abbrev r_law8_SpanOf (x : (List Byt) × Byt × Unit) : AV := rTrue x
theorem rd_law8_SpanOf : ReadsA Try.prog [22, 5] A_law8_SpanOf p_law8_SpanOf := (readsA_T (reads_list Try.underlying22 (reads_u8 Try.underlying5) (by kernel_rfl) (by decide)) (by kernel_rfl) (readsA_T (reads_u8 Try.underlying5) (by kernel_rfl) readsA_nil))
/-- What is known of the runs. -/
structure Kn (e : List Int) (r : List TRun) : Prop where
  nf : Nf r
  has : ∀ i, hasR r i = (e.contains i && okS8 i)
  lo : ∀ x ∈ e, 0 ≤ x ∧ x < 256
  len : r.length ≤ 20
theorem Kn.wn {e : List Int} {r : List TRun} (h : Kn e r) : Wn 0 256 r := fun i hi => by
  rw [h.has, Bool.and_eq_true, List.contains_iff_mem] at hi
  have := h.lo i hi.1
  omega
theorem Kn.ok {e : List Int} {r : List TRun} (h : Kn e r) : okB r := okB_of h.nf h.wn (by omega) (by omega)
theorem Kn.cnt {e : List Int} {r : List TRun} (h : Kn e r) : cntR r = (cN (hasR r) 256 : Nat) := cntR_card h.nf h.wn
theorem Kn.secs {e : List Int} {r : List TRun} (h : Kn e r) : ((secs r).length : Int) = (cN (hasR r) 256 : Nat) := by
  rw [← h.cnt, cntR_secs fun q hq => Int.le_of_lt (h.nf.ne q hq)]
/-- What is left when the first ones are gone. -/
theorem rest_secs {r : List TRun} (hr : Nf r) (hw : ∀ i, hasR r i = true → okS8 i = true) (k : Nat) : secs (whereL .less r (ofL ((secs r).take k))) = (secs r).drop k := by
  obtain ⟨p, m⟩ := secs_of hr
  have hs : ((secs r).take k ++ (secs r).drop k).Pairwise (· < ·) := by rw [List.take_append_drop]; exact p
  obtain ⟨_, s2, s3⟩ := List.pairwise_append.1 hs
  obtain ⟨q, n⟩ := secs_of (where_nf (h := .less) (l := r) (m := ofL ((secs r).take k)))
  refine pw_ext q s2 fun x => ?_
  rw [n, where_has]
  simp only [How.op, Bool.and_eq_true, Bool.not_eq_true', (ofL_set _).2]
  have hx : x ∈ secs r ↔ x ∈ (secs r).take k ∨ x ∈ (secs r).drop k := by rw [← List.mem_append, List.take_append_drop]
  constructor
  · rintro ⟨h1, h2⟩
    rw [hw x h1, Bool.and_true, ← Bool.not_eq_true, List.contains_iff_mem] at h2
    exact (hx.1 ((m x).2 h1)).resolve_left h2
  · intro h
    have h1 := (m x).1 (hx.2 (.inr h))
    refine ⟨h1, ?_⟩
    rw [hw x h1, Bool.and_true, ← Bool.not_eq_true, List.contains_iff_mem]
    intro h2
    have := s3 x h2 x h
    omega
theorem rest_gt {r : List TRun} (hr : Nf r) (hw : ∀ i, hasR r i = true → okS8 i = true) {k : Nat} {x : TRun} {t : List TRun} (he : whereL .less r (ofL ((secs r).take k)) = x :: t) {y : Int} (hy : y ∈ (secs r).take k) : y < x.From := by
  have h1 := rest_secs hr hw k
  rw [he] at h1
  have hn : Nf (x :: t) := he ▸ where_nf
  have h2 : x.From ∈ (secs r).drop k := by rw [← h1, (secs_of hn).2]; exact nf_at hn
  have hs : ((secs r).take k ++ (secs r).drop k).Pairwise (· < ·) := by rw [List.take_append_drop]; exact (secs_of hr).1
  exact (List.pairwise_append.1 hs).2.2 y hy _ h2
theorem take_at {l : List Int} {k j : Nat} (hj : j < k) (hk : k ≤ l.length) : (l.take k).getD j default = l.getD j default := by
  rw [List.getD_eq_getElem?_getD, List.getD_eq_getElem?_getD, List.getElem?_take, if_pos hj]
theorem at_mem {l : List Int} {j : Nat} (hj : j < l.length) : l.getD j default ∈ l := by
  rw [List.getD_eq_getElem?_getD, List.getElem?_eq_getElem hj]; exact List.getElem_mem _
theorem at_lt {l : List Int} (h : l.Pairwise (· < ·)) {i j : Nat} (hij : i < j) (hj : j < l.length) : l.getD i default < l.getD j default := by
  have := List.pairwise_iff_getElem.1 h i j (by omega) hj hij
  rw [List.getD_eq_getElem?_getD, List.getD_eq_getElem?_getD, List.getElem?_eq_getElem hj, List.getElem?_eq_getElem (by omega : i < l.length)]
  exact this
theorem live_ix {C : Ctx} {s : Store} {T : TypeId} {α : Type} [Cell α] {l : List α} {i : AV} : liveL s ((idxB C T (.t (sl l)) i).av []) = True := by
  have : (idxB C T (.t (sl l)) i).av [] = .unk ∨ ∃ c, (idxB C T (.t (sl l)) i).av [] = .imm c := by
    unfold idxB
    split
    · split
      · exact .inr ⟨_, rfl⟩
      all_goals first
        | (rename_i h; cases h; done)
        | exact .inl rfl
        | (split <;> first | exact .inl rfl | (rename_i h _ _; cases h; done))
    · exact .inl rfl
  rcases this with h | ⟨c, h⟩ <;> rw [h] <;> rfl
set_option maxRecDepth 100000 in
set_option maxHeartbeats 4000000 in
theorem of_34 {e : List Int} {r : List TRun} {N k : Nat} (hk : Kn e r) (hN : N = cN (hasR r) 256) (hkN : k ≤ N) {σ : St} (hσ : Wk σ (mkS [(7, .t (sl r)), (8, .t (.int .i64 (N : Nat))), (12, .t (.int .i64 (k : Nat))), (13, .t (sl ((secs r).take k)))] .empty)) :
    avp K_law8_SpanOf G_law8_SpanOf_34 (Ret K_law8_SpanOf [.tmp 4] fun v _ => v = .t (.bool true)) σ := by
  unfold G_law8_SpanOf_34
  simp only [avp_seq]
  refine ⟨_, hσ, ?_⟩
  have hN8 := cN_le (f := hasR r) (i := 256)
  have hsec := hk.secs
  rw [← hN] at hN8 hsec
  have hlr := hk.len
  have hokS : ∀ i, hasR r i = true → okS8 i = true := fun i hi => by
    rw [hk.has, Bool.and_eq_true] at hi; exact hi.2
  obtain ⟨f, hf⟩ : ∃ f, f = (secs r).take k := ⟨_, rfl⟩
  have hfl : f.length = k := by rw [hf, List.length_take]; omega
  have hrs := rest_secs hk.nf hokS k
  have hrg := fun x t he y hy => rest_gt (k := k) (x := x) (t := t) (y := y) hk.nf hokS he hy
  rw [← hf] at hrs hrg ⊢
  have n1 := where_len .less r (ofL f)
  have n2 := ofL_len f
  have p0 : f.length ≤ 1099511627776 := by omega
  have p1 : r.length + (ofL f).length ≤ 1099511627 := by omega
  obtain ⟨R, hR⟩ : ∃ R, R = whereL .less r (ofL f) := ⟨_, rfl⟩
  have hRn : Nf R := hR ▸ where_nf
  have hcR : cntR R = (N : Int) - (k : Int) := by
    rw [cntR_secs fun q hq => Int.le_of_lt (hRn.ne q hq), hR, hrs, List.length_drop]; omega
  have hRok : okB R := okB_of (a := 0) (k := 256) hRn (fun i hi => hk.wn i (by
    rw [hR, where_has] at hi
    simp only [How.op, Bool.and_eq_true] at hi
    exact hi.1)) (by omega) (by omega)
  rw [← hR] at n1 hrg
  have p2 : R.length ≤ 1048576 := by omega
  have p3 : r.length < 4611686018427387904 := by omega
  have hmay : mayR (-1) r = true := may_of hk.nf hk.wn (by omega) (by omega)
  have w1 : IntKind.i64.wrap ((N : Int) - (k : Int)) = (N : Int) - (k : Int) := IntWalk.i64_in _ (by omega)
  simp only [vP.down, vS.down, vE.down, Nat.reduceEqDiff, Nat.reduceAdd, Nat.reduceSub, Nat.reduceMul, Nat.reduceLeDiff, Nat.reduceLT, Int.reduceToNat, reduceIte, reduceCtorEq, Int.reduceEq, Int.reduceLT, Int.reduceLE, ↓avp_condG, ↓tf_arrow, ↓ft_arrow, p0, p1, ← hR, k_law8_SpanOf_span_Of.down, A_span_Of, p_span_Of, r_span_Of, k_law8_SpanOf_span_Less.down, A_span_Less, p_span_Less, r_span_Less]
  refine weak_at [(7, .t (sl r)), (8, .t (.int .i64 (N : Nat))), (12, .t (.int .i64 (k : Nat))), (13, .t (sl f)), (18, .t (sl R))] .empty fewer_refl (by simp only [vP.down, vS.down, vE.down, Nat.reduceEqDiff, Nat.reduceAdd, Nat.reduceSub, Nat.reduceMul, Nat.reduceLeDiff, Nat.reduceLT, Int.reduceToNat, reduceIte, reduceCtorEq, Int.reduceEq, Int.reduceLT, Int.reduceLE, ↓avp_condG, ↓tf_arrow, ↓ft_arrow, wP.down]) ?_
  have h0k : ¬ (0 : Int) < 0 := by omega
  cases hRc : R with
  | nil =>
    rw [hRc] at hcR hRok
    have e0 : (([] : List TRun).length : Int) = 0 := rfl
    have p5 : ([] : List TRun).length ≤ 1048576 := by simp
    simp only [vP.down, vS.down, vE.down, Nat.reduceEqDiff, Nat.reduceAdd, Nat.reduceSub, Nat.reduceMul, Nat.reduceLeDiff, Nat.reduceLT, Int.reduceToNat, reduceIte, reduceCtorEq, Int.reduceEq, Int.reduceLT, Int.reduceLE, ↓avp_condG, ↓tf_arrow, ↓ft_arrow, p3, hmay, live_fi, live_ix, hRok, hcR, w1, pick_of, pick_ot, false_implies, k_law8_SpanOf_span_May.down, A_span_May, p_span_May, r_span_May, k_law8_SpanOf_span_Count.down, A_span_Count, p_span_Count, r_span_Count]
    ((repeat' with_reducible refine And.intro ?_ ?_) <;> try (first | omega | (simp only [List.length_take, List.length_drop, List.length_append, List.length_map, List.length_replicate] <;> omega)))
    simp only [vP.down, vS.down, vE.down, Nat.reduceEqDiff, Nat.reduceAdd, Nat.reduceSub, Nat.reduceMul, Nat.reduceLeDiff, Nat.reduceLT, Int.reduceToNat, reduceIte, reduceCtorEq, Int.reduceEq, Int.reduceLT, Int.reduceLE, ↓avp_condG, ↓tf_arrow, ↓ft_arrow, vT.down]
  | cons x t =>
    have hlR : R.length = t.length + 1 := by rw [hRc]; rfl
    have hne : ¬ ((R.length : Int) = 0) := by omega
    rw [← hRc]
    by_cases hk0 : k = 0
    · subst hk0
      have w0 : IntKind.i64.wrap ((N : Int) - 0) = (N : Int) - 0 := IntWalk.i64_in _ (by omega)
      simp only [vP.down, vS.down, vE.down, Nat.reduceEqDiff, Nat.reduceAdd, Nat.reduceSub, Nat.reduceMul, Nat.reduceLeDiff, Nat.reduceLT, Int.reduceToNat, reduceIte, reduceCtorEq, Int.reduceEq, Int.reduceLT, Int.reduceLE, ↓avp_condG, ↓tf_arrow, ↓ft_arrow, p2, p3, hne, hmay, live_fi, live_ix, hRok, hcR, w1, w0, pick_of, pick_ot, false_implies, Int.natCast_zero, k_law8_SpanOf_span_May.down, A_span_May, p_span_May, r_span_May, k_law8_SpanOf_span_Count.down, A_span_Count, p_span_Count, r_span_Count]
      simp only [vP.down, vS.down, vE.down, Nat.reduceEqDiff, Nat.reduceAdd, Nat.reduceSub, Nat.reduceMul, Nat.reduceLeDiff, Nat.reduceLT, Int.reduceToNat, reduceIte, reduceCtorEq, Int.reduceEq, Int.reduceLT, Int.reduceLE, ↓avp_condG, ↓tf_arrow, ↓ft_arrow, vT.down]
    have hk1 : ¬ ((k : Int) = 0) := by omega
    have hkm : IntKind.i64.wrap ((k : Int) - 1) = ((k - 1 : Nat) : Int) := by rw [IntWalk.i64_in _ (by omega)]; omega
    have x0 : idxB K_law8_SpanOf 23 (.t (sl R)) (.t (.int .i64 0)) = .val True (.imm (Cell.enc (R.getD 0 default))) := idx_at (l := R) (i := 0) ty_Lapi_Run ty_api_Run rfl (by omega) .i64
    have x1 := idx_at (C := K_law8_SpanOf) (l := f) (i := k - 1) ty_Lint ty_int rfl (by omega) .i64
    have hx : R.getD 0 default = x := by rw [hRc]; rfl
    rw [hx] at x0
    have hlt := hrg x t hRc (f.getD (k - 1) default) (at_mem (by omega))
    obtain ⟨y, hy⟩ : ∃ y, y = f.getD (k - 1) default := ⟨_, rfl⟩
    rw [← hy] at x1 hlt
    simp only [vP.down, vS.down, vE.down, Nat.reduceEqDiff, Nat.reduceAdd, Nat.reduceSub, Nat.reduceMul, Nat.reduceLeDiff, Nat.reduceLT, Int.reduceToNat, reduceIte, reduceCtorEq, Int.reduceEq, Int.reduceLT, Int.reduceLE, ↓avp_condG, ↓tf_arrow, ↓ft_arrow, p2, p3, hne, hk1, hkm, x0, x1, hlt, hmay, hRok, hcR, w1, gt_iff_lt, pick_of, pick_ot, false_implies, k_law8_SpanOf_span_May.down, A_span_May, p_span_May, r_span_May, k_law8_SpanOf_span_Count.down, A_span_Count, p_span_Count, r_span_Count]
    simp only [vP.down, vS.down, vE.down, Nat.reduceEqDiff, Nat.reduceAdd, Nat.reduceSub, Nat.reduceMul, Nat.reduceLeDiff, Nat.reduceLT, Int.reduceToNat, reduceIte, reduceCtorEq, Int.reduceEq, Int.reduceLT, Int.reduceLE, ↓avp_condG, ↓tf_arrow, ↓ft_arrow, vT.down]
set_option maxRecDepth 100000 in
set_option maxHeartbeats 4000000 in
theorem of_29 {e : List Int} {r : List TRun} {N k : Nat} (hk : Kn e r) (hN : N = cN (hasR r) 256) (hkN : k ≤ N) {σ : St} (hσ : Wk σ (mkS [(7, .t (sl r)), (8, .t (.int .i64 (N : Nat))), (12, .t (.int .i64 (k : Nat))), (13, .t (sl ((secs r).take k)))] .empty)) :
    avp K_law8_SpanOf G_law8_SpanOf_29 (Ret K_law8_SpanOf [.tmp 4] fun v _ => v = .t (.bool true)) σ := by
  unfold G_law8_SpanOf_29
  simp only [avp_seq]
  refine ⟨_, hσ, ?_⟩
  simp only [vP.down, vS.down, vE.down, Nat.reduceEqDiff, Nat.reduceAdd, Nat.reduceSub, Nat.reduceMul, Nat.reduceLeDiff, Nat.reduceLT, Int.reduceToNat, reduceIte, reduceCtorEq, Int.reduceEq, Int.reduceLT, Int.reduceLE, ↓avp_condG, ↓tf_arrow, ↓ft_arrow]
  have hN8 := cN_le (f := hasR r) (i := 256)
  have hsec := hk.secs
  rw [← hN] at hN8 hsec
  have hlr := hk.len
  obtain ⟨sp, sm⟩ := secs_of hk.nf
  have p3 : r.length < 4611686018427387904 := by omega
  have fin := fun σ hσ => of_34 (σ := σ) hk hN hkN hσ
  obtain ⟨f, hf⟩ : ∃ f, f = (secs r).take k := ⟨_, rfl⟩
  have hfl : f.length = k := by rw [hf, List.length_take]; omega
  have hfp : f.Pairwise (· < ·) := by rw [hf]; exact sp.sublist (List.take_sublist _ _)
  have hfm : ∀ x, x ∈ f → hasR r x = true := fun x hx => (sm x).1 (List.mem_of_mem_take (hf ▸ hx))
  rw [← hf] at fin ⊢
  refine loop_weak hm_law8_SpanOf (fun m σ => ∃ i : Nat, m = k - i ∧ i ≤ k ∧ σ = mkS [(7, .t (sl r)), (8, .t (.int .i64 (N : Nat))), (12, .t (.int .i64 (k : Nat))), (13, .t (sl f)), (17, .t (.int .i64 (i : Nat)))] .empty) ⟨0, rfl, by omega, rfl⟩ (wk_to fewer_refl (by simp only [vP.down, vS.down, vE.down, Nat.reduceEqDiff, Nat.reduceAdd, Nat.reduceSub, Nat.reduceMul, Nat.reduceLeDiff, Nat.reduceLT, Int.reduceToNat, reduceIte, reduceCtorEq, Int.reduceEq, Int.reduceLT, Int.reduceLE, ↓avp_condG, ↓tf_arrow, ↓ft_arrow, wP.down, Int.natCast_zero])) ?_
  rintro m _ ⟨i, rfl, hi, rfl⟩
  have hi1 : IntKind.i64.wrap ((i : Int) + 1) = ((i + 1 : Nat) : Int) := by rw [IntWalk.i64_in _ (by omega)]; rfl
  by_cases hlt : i < k
  case neg =>
    obtain rfl : i = k := by omega
    have hge : ¬ ((i : Int) < (i : Int)) := by omega
    simp only [vP.down, vS.down, vE.down, Nat.reduceEqDiff, Nat.reduceAdd, Nat.reduceSub, Nat.reduceMul, Nat.reduceLeDiff, Nat.reduceLT, Int.reduceToNat, reduceIte, reduceCtorEq, Int.reduceEq, Int.reduceLT, Int.reduceLE, ↓avp_condG, ↓tf_arrow, ↓ft_arrow, hge]
    exact fin _ (wk_to fewer_refl (by simp only [vP.down, vS.down, vE.down, Nat.reduceEqDiff, Nat.reduceAdd, Nat.reduceSub, Nat.reduceMul, Nat.reduceLeDiff, Nat.reduceLT, Int.reduceToNat, reduceIte, reduceCtorEq, Int.reduceEq, Int.reduceLT, Int.reduceLE, ↓avp_condG, ↓tf_arrow, ↓ft_arrow, wP.down]))
  have hlt' : (i : Int) < (k : Int) := by omega
  have x0 := idx_at (C := K_law8_SpanOf) (l := f) (i := i) ty_Lint ty_int rfl (by omega) .i64
  have hh := hfm (f.getD i default) (at_mem (by omega))
  by_cases h0 : i = 0
  · subst h0
    have n0 : ¬ ((0 : Int) < 0) := by omega
    obtain ⟨y, hy⟩ : ∃ y, y = f.getD 0 default := ⟨_, rfl⟩
    rw [← hy] at x0 hh
    have x0' : idxB K_law8_SpanOf 24 (.t (sl f)) (.t (.int .i64 0)) = .val True (.imm (Cell.enc y)) := x0
    have hlt2 : (0 : Int) < (k : Int) := by omega
    simp only [vP.down, vS.down, vE.down, Nat.reduceEqDiff, Nat.reduceAdd, Nat.reduceSub, Nat.reduceMul, Nat.reduceLeDiff, Nat.reduceLT, Int.reduceToNat, reduceIte, reduceCtorEq, Int.reduceEq, Int.reduceLT, Int.reduceLE, ↓avp_condG, ↓tf_arrow, ↓ft_arrow, hlt2, x0', hh, p3, n0, live_ix, gt_iff_lt, pick_of, pick_ot, false_implies, Int.natCast_zero, k_law8_SpanOf_span_Has.down, A_span_Has, p_span_Has, r_span_Has]
    exact round_to (k - (0 + 1)) [(7, .t (sl r)), (8, .t (.int .i64 (N : Nat))), (12, .t (.int .i64 (k : Nat))), (13, .t (sl f)), (17, .t (.int .i64 (0 + 1 : Nat)))] .empty (by omega) fewer_refl (by simp only [vP.down, vS.down, vE.down, Nat.reduceEqDiff, Nat.reduceAdd, Nat.reduceSub, Nat.reduceMul, Nat.reduceLeDiff, Nat.reduceLT, Int.reduceToNat, reduceIte, reduceCtorEq, Int.reduceEq, Int.reduceLT, Int.reduceLE, ↓avp_condG, ↓tf_arrow, ↓ft_arrow, wP.down, show IntKind.i64.wrap (0 + 1) = 1 from rfl, Int.natCast_one]) ⟨0 + 1, rfl, by omega, rfl⟩
  have c0 : (0 : Int) < (i : Int) := by omega
  have him : IntKind.i64.wrap ((i : Int) - 1) = ((i - 1 : Nat) : Int) := by rw [IntWalk.i64_in _ (by omega)]; omega
  have x1 := idx_at (C := K_law8_SpanOf) (l := f) (i := i - 1) ty_Lint ty_int rfl (by omega) .i64
  have hab := at_lt hfp (i := i - 1) (j := i) (by omega) (by omega)
  obtain ⟨y, hy⟩ : ∃ y, y = f.getD i default := ⟨_, rfl⟩
  obtain ⟨z, hz⟩ : ∃ z, z = f.getD (i - 1) default := ⟨_, rfl⟩
  rw [← hy] at x0 hh hab
  rw [← hz] at x1 hab
  have c1 : ¬ y ≤ z := by omega
  simp only [vP.down, vS.down, vE.down, Nat.reduceEqDiff, Nat.reduceAdd, Nat.reduceSub, Nat.reduceMul, Nat.reduceLeDiff, Nat.reduceLT, Int.reduceToNat, reduceIte, reduceCtorEq, Int.reduceEq, Int.reduceLT, Int.reduceLE, ↓avp_condG, ↓tf_arrow, ↓ft_arrow, hlt', x0, x1, hh, p3, c0, c1, him, gt_iff_lt, ge_iff_le, pick_of, pick_ot, false_implies, k_law8_SpanOf_span_Has.down, A_span_Has, p_span_Has, r_span_Has]
  exact round_to (k - (i + 1)) [(7, .t (sl r)), (8, .t (.int .i64 (N : Nat))), (12, .t (.int .i64 (k : Nat))), (13, .t (sl f)), (17, .t (.int .i64 (i + 1 : Nat)))] .empty (by omega) fewer_refl (by simp only [vP.down, vS.down, vE.down, Nat.reduceEqDiff, Nat.reduceAdd, Nat.reduceSub, Nat.reduceMul, Nat.reduceLeDiff, Nat.reduceLT, Int.reduceToNat, reduceIte, reduceCtorEq, Int.reduceEq, Int.reduceLT, Int.reduceLE, ↓avp_condG, ↓tf_arrow, ↓ft_arrow, wP.down, hi1]) ⟨i + 1, rfl, by omega, rfl⟩
set_option maxRecDepth 100000 in
set_option maxHeartbeats 4000000 in
theorem of_24 {e : List Int} {r : List TRun} {n : UInt8} {N : Nat} (hk : Kn e r) (hN : N = cN (hasR r) 256) {σ : St} (hσ : Wk σ (mkS [(1, .t (.int .u8 (n.toNat : Int))), (7, .t (sl r)), (8, .t (.int .i64 (N : Nat)))] .empty)) :
    avp K_law8_SpanOf G_law8_SpanOf_24 (Ret K_law8_SpanOf [.tmp 4] fun v _ => v = .t (.bool true)) σ := by
  unfold G_law8_SpanOf_24
  simp only [avp_seq]
  refine ⟨_, hσ, ?_⟩
  have hN8 := cN_le (f := hasR r) (i := 256)
  have hsec := hk.secs
  have hcnt := hk.cnt
  rw [← hN] at hN8 hsec hcnt
  have hlr := hk.len
  have p2 : r.length ≤ 4096 := by omega
  have hok := hk.ok
  have n8 := n.toNat_lt
  have w1 : IntKind.i64.wrap ((N : Int) + 1) = ((N + 1 : Nat) : Int) := by rw [IntWalk.i64_in _ (by omega)]; rfl
  have hkm : n.toNat % (N + 1) < N + 1 := Nat.mod_lt _ (by omega)
  have w2 : (n.toNat : Int).tmod ((N + 1 : Nat) : Int) = ((n.toNat % (N + 1) : Nat) : Int) := by
    rw [Int.tmod_eq_emod_of_nonneg (by omega)]; exact (Int.natCast_emod n.toNat (N + 1)).symm
  obtain ⟨k, hkk⟩ : ∃ k, k = n.toNat % (N + 1) := ⟨_, rfl⟩
  rw [← hkk] at w2 hkm
  have w3 : IntKind.i64.wrap (k : Int) = (k : Int) := IntWalk.i64_in _ (by omega)
  have hne : ¬ (((N + 1 : Nat) : Int) = 0) := by omega
  have f1 : firstA r (k : Int) = .tup [.t (sl ((secs r).take k)), .t (.bool true)] := by
    rw [firstA, if_neg (by omega), firstR, Int.toNat_natCast]
  have f2 : firstA r ((N + 1 : Nat) : Int) = .tup [.t (sl ([] : List Int)), .t (.bool false)] := by
    rw [firstA, if_pos (.inr (by omega))]
  have hfl : ((secs r).take k).length = k := by rw [List.length_take]; omega
  simp only [vP.down, vS.down, vE.down, Nat.reduceEqDiff, Nat.reduceAdd, Nat.reduceSub, Nat.reduceMul, Nat.reduceLeDiff, Nat.reduceLT, Int.reduceToNat, reduceIte, reduceCtorEq, Int.reduceEq, Int.reduceLT, Int.reduceLE, ↓avp_condG, ↓tf_arrow, ↓ft_arrow, u8w8, w1, w2, w3, hne, p2, hok, f1, f2, hfl, bne_self_eq_false, pick_of, pick_ot, k_law8_SpanOf_span_First.down, A_span_First, p_span_First, r_span_First]
  refine weak_at [(7, .t (sl r)), (8, .t (.int .i64 (N : Nat))), (12, .t (.int .i64 (k : Nat))), (13, .t (sl ((secs r).take k))), (14, .t (.bool true)), (16, .t (.bool false))] .empty fewer_refl (by simp only [vP.down, vS.down, vE.down, Nat.reduceEqDiff, Nat.reduceAdd, Nat.reduceSub, Nat.reduceMul, Nat.reduceLeDiff, Nat.reduceLT, Int.reduceToNat, reduceIte, reduceCtorEq, Int.reduceEq, Int.reduceLT, Int.reduceLE, ↓avp_condG, ↓tf_arrow, ↓ft_arrow, wP.down]) ?_
  simp only [vP.down, vS.down, vE.down, Nat.reduceEqDiff, Nat.reduceAdd, Nat.reduceSub, Nat.reduceMul, Nat.reduceLeDiff, Nat.reduceLT, Int.reduceToNat, reduceIte, reduceCtorEq, Int.reduceEq, Int.reduceLT, Int.reduceLE, ↓avp_condG, ↓tf_arrow, ↓ft_arrow, hfl, bne_self_eq_false, pick_of, pick_ot]
  exact of_29 (k := k) hk hN (by omega) (wk_to fewer_refl (by simp only [vP.down, vS.down, vE.down, Nat.reduceEqDiff, Nat.reduceAdd, Nat.reduceSub, Nat.reduceMul, Nat.reduceLeDiff, Nat.reduceLT, Int.reduceToNat, reduceIte, reduceCtorEq, Int.reduceEq, Int.reduceLT, Int.reduceLE, ↓avp_condG, ↓tf_arrow, ↓ft_arrow, wP.down]))
set_option maxRecDepth 100000 in
set_option maxHeartbeats 4000000 in
theorem of_12 {e : List Int} {r : List TRun} {n : UInt8} (hk : Kn e r) (he : e.length ≤ 20) {σ : St} (hσ : Wk σ (mkS [(1, .t (.int .u8 (n.toNat : Int))), (5, .t (sl e)), (7, .t (sl r)), (8, .t (.int .i64 0))] .empty)) :
    avp K_law8_SpanOf G_law8_SpanOf_12 (Ret K_law8_SpanOf [.tmp 4] fun v _ => v = .t (.bool true)) σ := by
  unfold G_law8_SpanOf_12
  simp only [avp_seq]
  refine ⟨_, hσ, ?_⟩
  simp only [vP.down, vS.down, vE.down, Nat.reduceEqDiff, Nat.reduceAdd, Nat.reduceSub, Nat.reduceMul, Nat.reduceLeDiff, Nat.reduceLT, Int.reduceToNat, reduceIte, reduceCtorEq, Int.reduceEq, Int.reduceLT, Int.reduceLE, ↓avp_condG, ↓tf_arrow, ↓ft_arrow]
  have hlr := hk.len
  have p3 : r.length < 4611686018427387904 := by omega
  refine loop_weak hm_law8_SpanOf (fun m σ => ∃ i : Nat, m = 256 - i ∧ i ≤ 256 ∧ σ = mkS [(1, .t (.int .u8 (n.toNat : Int))), (5, .t (sl e)), (7, .t (sl r)), (8, .t (.int .i64 (cN (hasR r) i : Nat))), (9, .t (.int .i64 (i : Nat)))] .empty) ⟨0, rfl, by omega, rfl⟩ (wk_to fewer_refl (by simp only [vP.down, vS.down, vE.down, Nat.reduceEqDiff, Nat.reduceAdd, Nat.reduceSub, Nat.reduceMul, Nat.reduceLeDiff, Nat.reduceLT, Int.reduceToNat, reduceIte, reduceCtorEq, Int.reduceEq, Int.reduceLT, Int.reduceLE, ↓avp_condG, ↓tf_arrow, ↓ft_arrow, wP.down, Int.natCast_zero, show ∀ f, cN f 0 = 0 from fun _ => rfl])) ?_
  rintro m _ ⟨i, rfl, hi, rfl⟩
  have hi1 : IntKind.i64.wrap ((i : Int) + 1) = ((i + 1 : Nat) : Int) := by rw [IntWalk.i64_in _ (by omega)]; rfl
  by_cases hlt : i < 256
  case neg =>
    obtain rfl : i = 256 := by omega
    have hge : ¬ ((256 : Int) < 256) := by omega
    simp only [vP.down, vS.down, vE.down, Nat.reduceEqDiff, Nat.reduceAdd, Nat.reduceSub, Nat.reduceMul, Nat.reduceLeDiff, Nat.reduceLT, Int.reduceToNat, reduceIte, reduceCtorEq, Int.reduceEq, Int.reduceLT, Int.reduceLE, ↓avp_condG, ↓tf_arrow, ↓ft_arrow, hge]
    exact of_24 (n := n) hk rfl (wk_to fewer_refl (by simp only [vP.down, vS.down, vE.down, Nat.reduceEqDiff, Nat.reduceAdd, Nat.reduceSub, Nat.reduceMul, Nat.reduceLeDiff, Nat.reduceLT, Int.reduceToNat, reduceIte, reduceCtorEq, Int.reduceEq, Int.reduceLT, Int.reduceLE, ↓avp_condG, ↓tf_arrow, ↓ft_arrow, wP.down]))
  have hlt' : (i : Int) < 256 := by omega
  have hc := cN_next (f := hasR r) (i := i)
  have hN8 := cN_le (f := hasR r) (i := i)
  obtain ⟨N, hN⟩ : ∃ N, N = cN (hasR r) i := ⟨_, rfl⟩
  rw [← hN] at hc hN8 ⊢
  have w1 : IntKind.i64.wrap ((N : Int) + 1) = ((N + 1 : Nat) : Int) := by rw [IntWalk.i64_in _ (by omega)]; rfl
  have hhas : hasR r (i : Int) = amg e e.length (i : Int) := by
    rw [hk.has, amg_all]
    have : okS8 (i : Int) = true := by simp only [okS8, Bool.and_eq_true, decide_eq_true_eq]; omega
    rw [this, Bool.and_true]
  simp only [vP.down, vS.down, vE.down, Nat.reduceEqDiff, Nat.reduceAdd, Nat.reduceSub, Nat.reduceMul, Nat.reduceLeDiff, Nat.reduceLT, Int.reduceToNat, reduceIte, reduceCtorEq, Int.reduceEq, Int.reduceLT, Int.reduceLE, ↓avp_condG, ↓tf_arrow, ↓ft_arrow, hlt']
  refine loop_weak hm_law8_SpanOf (fun m σ => ∃ j : Nat, m = e.length - j ∧ j ≤ e.length ∧ σ = mkS [(1, .t (.int .u8 (n.toNat : Int))), (5, .t (sl e)), (7, .t (sl r)), (8, .t (.int .i64 (N : Nat))), (9, .t (.int .i64 (i : Nat))), (10, .t (.bool (amg e j (i : Int)))), (11, .t (.int .i64 (j : Nat)))] .empty) ⟨0, rfl, by omega, rfl⟩ (wk_to fewer_refl (by simp only [vP.down, vS.down, vE.down, Nat.reduceEqDiff, Nat.reduceAdd, Nat.reduceSub, Nat.reduceMul, Nat.reduceLeDiff, Nat.reduceLT, Int.reduceToNat, reduceIte, reduceCtorEq, Int.reduceEq, Int.reduceLT, Int.reduceLE, ↓avp_condG, ↓tf_arrow, ↓ft_arrow, wP.down, Int.natCast_zero, show amg e 0 (i : Int) = false from rfl])) ?_
  rintro m _ ⟨j, rfl, hj, rfl⟩
  have hj1 : IntKind.i64.wrap ((j : Int) + 1) = ((j + 1 : Nat) : Int) := by rw [IntWalk.i64_in _ (by omega)]; rfl
  by_cases hlj : j < e.length
  case neg =>
    obtain rfl : j = e.length := by omega
    have hge : ¬ ((e.length : Int) < (e.length : Int)) := by omega
    rw [← hhas]
    cases hb : hasR r (i : Int) with
    | true =>
      rw [hb, if_pos rfl] at hc
      simp only [vP.down, vS.down, vE.down, Nat.reduceEqDiff, Nat.reduceAdd, Nat.reduceSub, Nat.reduceMul, Nat.reduceLeDiff, Nat.reduceLT, Int.reduceToNat, reduceIte, reduceCtorEq, Int.reduceEq, Int.reduceLT, Int.reduceLE, ↓avp_condG, ↓tf_arrow, ↓ft_arrow, hge, hb, p3, w1, bne_self_eq_false, k_law8_SpanOf_span_Has.down, A_span_Has, p_span_Has, r_span_Has]
      exact round_to (256 - (i + 1)) [(1, .t (.int .u8 (n.toNat : Int))), (5, .t (sl e)), (7, .t (sl r)), (8, .t (.int .i64 (cN (hasR r) (i + 1) : Nat))), (9, .t (.int .i64 (i + 1 : Nat)))] .empty (by omega) fewer_refl (by simp only [vP.down, vS.down, vE.down, Nat.reduceEqDiff, Nat.reduceAdd, Nat.reduceSub, Nat.reduceMul, Nat.reduceLeDiff, Nat.reduceLT, Int.reduceToNat, reduceIte, reduceCtorEq, Int.reduceEq, Int.reduceLT, Int.reduceLE, ↓avp_condG, ↓tf_arrow, ↓ft_arrow, wP.down, hi1, hc, w1]) ⟨i + 1, rfl, by omega, rfl⟩
    | false =>
      rw [hb, if_neg (by simp)] at hc
      simp only [vP.down, vS.down, vE.down, Nat.reduceEqDiff, Nat.reduceAdd, Nat.reduceSub, Nat.reduceMul, Nat.reduceLeDiff, Nat.reduceLT, Int.reduceToNat, reduceIte, reduceCtorEq, Int.reduceEq, Int.reduceLT, Int.reduceLE, ↓avp_condG, ↓tf_arrow, ↓ft_arrow, hge, hb, p3, w1, bne_self_eq_false, k_law8_SpanOf_span_Has.down, A_span_Has, p_span_Has, r_span_Has]
      exact round_to (256 - (i + 1)) [(1, .t (.int .u8 (n.toNat : Int))), (5, .t (sl e)), (7, .t (sl r)), (8, .t (.int .i64 (cN (hasR r) (i + 1) : Nat))), (9, .t (.int .i64 (i + 1 : Nat)))] .empty (by omega) fewer_refl (by simp only [vP.down, vS.down, vE.down, Nat.reduceEqDiff, Nat.reduceAdd, Nat.reduceSub, Nat.reduceMul, Nat.reduceLeDiff, Nat.reduceLT, Int.reduceToNat, reduceIte, reduceCtorEq, Int.reduceEq, Int.reduceLT, Int.reduceLE, ↓avp_condG, ↓tf_arrow, ↓ft_arrow, wP.down, hi1, hc, w1]) ⟨i + 1, rfl, by omega, rfl⟩
  have hlj' : (j : Int) < (e.length : Int) := by omega
  have x0 := idx_at (C := K_law8_SpanOf) (l := e) (i := j) ty_Lint ty_int rfl hlj .i64
  have ha := amg_next (i := (i : Int)) hlj
  obtain ⟨y, hy⟩ : ∃ y, y = e.getD j default := ⟨_, rfl⟩
  rw [← hy] at x0 ha
  cases hb : amg e j (i : Int) with
  | true =>
    rw [hb, Bool.true_or] at ha
    simp only [vP.down, vS.down, vE.down, Nat.reduceEqDiff, Nat.reduceAdd, Nat.reduceSub, Nat.reduceMul, Nat.reduceLeDiff, Nat.reduceLT, Int.reduceToNat, reduceIte, reduceCtorEq, Int.reduceEq, Int.reduceLT, Int.reduceLE, ↓avp_condG, ↓tf_arrow, ↓ft_arrow, hlj', live_ix, pick_of, pick_ot, false_implies]
    exact round_to (e.length - (j + 1)) [(1, .t (.int .u8 (n.toNat : Int))), (5, .t (sl e)), (7, .t (sl r)), (8, .t (.int .i64 (N : Nat))), (9, .t (.int .i64 (i : Nat))), (10, .t (.bool (amg e (j + 1) (i : Int)))), (11, .t (.int .i64 (j + 1 : Nat)))] .empty (by omega) fewer_refl (by simp only [vP.down, vS.down, vE.down, Nat.reduceEqDiff, Nat.reduceAdd, Nat.reduceSub, Nat.reduceMul, Nat.reduceLeDiff, Nat.reduceLT, Int.reduceToNat, reduceIte, reduceCtorEq, Int.reduceEq, Int.reduceLT, Int.reduceLE, ↓avp_condG, ↓tf_arrow, ↓ft_arrow, wP.down, hj1, ha]) ⟨j + 1, rfl, by omega, rfl⟩
  | false =>
    rw [hb, Bool.false_or] at ha
    simp only [vP.down, vS.down, vE.down, Nat.reduceEqDiff, Nat.reduceAdd, Nat.reduceSub, Nat.reduceMul, Nat.reduceLeDiff, Nat.reduceLT, Int.reduceToNat, reduceIte, reduceCtorEq, Int.reduceEq, Int.reduceLT, Int.reduceLE, ↓avp_condG, ↓tf_arrow, ↓ft_arrow, hlj', x0, live_ix, pick_of, pick_ot, false_implies]
    exact round_to (e.length - (j + 1)) [(1, .t (.int .u8 (n.toNat : Int))), (5, .t (sl e)), (7, .t (sl r)), (8, .t (.int .i64 (N : Nat))), (9, .t (.int .i64 (i : Nat))), (10, .t (.bool (amg e (j + 1) (i : Int)))), (11, .t (.int .i64 (j + 1 : Nat)))] .empty (by omega) fewer_refl (by simp only [vP.down, vS.down, vE.down, Nat.reduceEqDiff, Nat.reduceAdd, Nat.reduceSub, Nat.reduceMul, Nat.reduceLeDiff, Nat.reduceLT, Int.reduceToNat, reduceIte, reduceCtorEq, Int.reduceEq, Int.reduceLT, Int.reduceLE, ↓avp_condG, ↓tf_arrow, ↓ft_arrow, wP.down, hj1, ha]) ⟨j + 1, rfl, by omega, rfl⟩
set_option maxRecDepth 100000 in
set_option maxHeartbeats 4000000 in
theorem body_law8_SpanOf (x) (hx : p_law8_SpanOf x) : avp K_law8_SpanOf G_law8_SpanOf (Ret K_law8_SpanOf [.tmp 4] fun v _ => v = r_law8_SpanOf x) (entry (A_law8_SpanOf.enc x) .empty) := by
  obtain ⟨l, ⟨n⟩, ⟨⟩⟩ := x
  change avp _ _ (Ret _ _ fun v _ => v = .t (.bool true)) (entry [.t (sl l), .t (.int .u8 (n.toNat : Int))] .empty)
  unfold G_law8_SpanOf
  by_cases c1 : (20 : Int) < (l.length : Int)
  · simp only [vP.down, vS.down, vE.down, Nat.reduceEqDiff, Nat.reduceAdd, Nat.reduceSub, Nat.reduceMul, Nat.reduceLeDiff, Nat.reduceLT, Int.reduceToNat, reduceIte, reduceCtorEq, Int.reduceEq, Int.reduceLT, Int.reduceLE, ↓avp_condG, ↓tf_arrow, ↓ft_arrow, k_law8_SpanOf_law8_begun.down, A_law8_begun, p_law8_begun, r_law8_begun, c1, gt_iff_lt]
    simp only [vP.down, vS.down, vE.down, Nat.reduceEqDiff, Nat.reduceAdd, Nat.reduceSub, Nat.reduceMul, Nat.reduceLeDiff, Nat.reduceLT, Int.reduceToNat, reduceIte, reduceCtorEq, Int.reduceEq, Int.reduceLT, Int.reduceLE, ↓avp_condG, ↓tf_arrow, ↓ft_arrow, vT.down]
  simp only [vP.down, vS.down, vE.down, Nat.reduceEqDiff, Nat.reduceAdd, Nat.reduceSub, Nat.reduceMul, Nat.reduceLeDiff, Nat.reduceLT, Int.reduceToNat, reduceIte, reduceCtorEq, Int.reduceEq, Int.reduceLT, Int.reduceLE, ↓avp_condG, ↓tf_arrow, ↓ft_arrow, k_law8_SpanOf_law8_begun.down, A_law8_begun, p_law8_begun, r_law8_begun, c1, gt_iff_lt]
  refine loop_weak hm_law8_SpanOf (fun k σ => ∃ (i : Nat) (v : AV) (S : Store), k = l.length - i ∧ i ≤ l.length ∧ LV S v (u8s (l.take i)) ∧ σ = mkS [(0, .t (sl l)), (1, .t (.int .u8 (n.toNat : Int))), (5, v), (6, .t (.int .i64 (i : Nat)))] S) ⟨0, .t .nilS, .empty, rfl, by omega, lv_nil, rfl⟩ (wk_to fewer_refl (by simp only [vP.down, vS.down, vE.down, Nat.reduceEqDiff, Nat.reduceAdd, Nat.reduceSub, Nat.reduceMul, Nat.reduceLeDiff, Nat.reduceLT, Int.reduceToNat, reduceIte, reduceCtorEq, Int.reduceEq, Int.reduceLT, Int.reduceLE, ↓avp_condG, ↓tf_arrow, ↓ft_arrow, wP.down, Int.natCast_zero])) ?_
  rintro k _ ⟨i, v, S, rfl, hi, hv, rfl⟩
  have hi1 : IntKind.i64.wrap ((i : Int) + 1) = ((i + 1 : Nat) : Int) := by rw [IntWalk.i64_in _ (by omega)]; rfl
  have hul : (u8s (l.take i)).length ≤ 20 := by unfold u8s; rw [List.length_map, List.length_take]; omega
  by_cases hlt : i < l.length
  case pos =>
    have hlt' : (i : Int) < (l.length : Int) := by omega
    have hn := u8s_next hlt
    simp only [vP.down, vS.down, vE.down, Nat.reduceEqDiff, Nat.reduceAdd, Nat.reduceSub, Nat.reduceMul, Nat.reduceLeDiff, Nat.reduceLT, Int.reduceToNat, reduceIte, reduceCtorEq, Int.reduceEq, Int.reduceLT, Int.reduceLE, ↓avp_condG, ↓tf_arrow, ↓ft_arrow, hlt', u8w8]
    refine ⟨by omega, fun g6 hg6 => ?_⟩
    refine append_new ty_Lint ty_int rfl (by decide) hv hg6 (shows_one (x := ((l.getD i default).v.toNat : Int)) rfl rfl rfl) (by simp; omega) (by simp; omega) fun v' S2 hv' kp => ?_
    exact round_to (l.length - (i + 1)) [(0, .t (sl l)), (1, .t (.int .u8 (n.toNat : Int))), (5, v'), (6, .t (.int .i64 (i + 1 : Nat)))] S2 (by omega) fewer_refl (by simp only [vP.down, vS.down, vE.down, Nat.reduceEqDiff, Nat.reduceAdd, Nat.reduceSub, Nat.reduceMul, Nat.reduceLeDiff, Nat.reduceLT, Int.reduceToNat, reduceIte, reduceCtorEq, Int.reduceEq, Int.reduceLT, Int.reduceLE, ↓avp_condG, ↓tf_arrow, ↓ft_arrow, wP.down, hi1]) ⟨i + 1, v', S2, rfl, by omega, by rw [hn]; exact hv', rfl⟩
  obtain rfl : i = l.length := by omega
  have hge : ¬ ((l.length : Int) < (l.length : Int)) := by omega
  rw [List.take_length] at hv hul
  obtain ⟨e, he⟩ : ∃ e, e = u8s l := ⟨_, rfl⟩
  rw [← he] at hv hul
  simp only [vP.down, vS.down, vE.down, Nat.reduceEqDiff, Nat.reduceAdd, Nat.reduceSub, Nat.reduceMul, Nat.reduceLeDiff, Nat.reduceLT, Int.reduceToNat, reduceIte, reduceCtorEq, Int.reduceEq, Int.reduceLT, Int.reduceLE, ↓avp_condG, ↓tf_arrow, ↓ft_arrow, hge, k_law8_SpanOf_span_Of.down, A_span_Of, p_span_Of, r_span_Of]
  refine weak_at [(1, .t (.int .u8 (n.toNat : Int))), (5, .t (sl e))] .empty fewer_empty (by
    simp only [vP.down, vS.down, vE.down, Nat.reduceEqDiff, Nat.reduceAdd, Nat.reduceSub, Nat.reduceMul, Nat.reduceLeDiff, Nat.reduceLT, Int.reduceToNat, reduceIte, reduceCtorEq, Int.reduceEq, Int.reduceLT, Int.reduceLE, ↓avp_condG, ↓tf_arrow, ↓ft_arrow, wP.down]
    exact hv.w2 fun _ _ => rfl) ?_
  have p1 : e.length ≤ 1099511627776 := by omega
  simp only [vP.down, vS.down, vE.down, Nat.reduceEqDiff, Nat.reduceAdd, Nat.reduceSub, Nat.reduceMul, Nat.reduceLeDiff, Nat.reduceLT, Int.reduceToNat, reduceIte, reduceCtorEq, Int.reduceEq, Int.reduceLT, Int.reduceLE, ↓avp_condG, ↓tf_arrow, ↓ft_arrow, p1, k_law8_SpanOf_span_Of.down, A_span_Of, p_span_Of, r_span_Of]
  have hk : Kn e (ofL e) := ⟨(ofL_set e).1, (ofL_set e).2, fun x hx => by
    rw [he] at hx
    obtain ⟨y, _, rfl⟩ := List.mem_map.1 hx
    have := y.v.toNat_lt
    omega, Nat.le_trans (ofL_len e) hul⟩
  exact of_12 (n := n) hk hul (wk_to fewer_refl (by simp only [vP.down, vS.down, vE.down, Nat.reduceEqDiff, Nat.reduceAdd, Nat.reduceSub, Nat.reduceMul, Nat.reduceLeDiff, Nat.reduceLT, Int.reduceToNat, reduceIte, reduceCtorEq, Int.reduceEq, Int.reduceLT, Int.reduceLE, ↓avp_condG, ↓tf_arrow, ↓ft_arrow, wP.down]))
noncomputable def c_law8_SpanOf : Con := fnScal A_law8_SpanOf p_law8_SpanOf r_law8_SpanOf
theorem ok_law8_SpanOf : COk Try.prog 5 c_law8_SpanOf := fn_sok sys_law8_SpanOf mixed Try.func5 (by kernel_rfl) geq_law8_SpanOf Try.ntmps5 (by rw [Try.results5]) (fun x => by simp [rTrue, AV.scal]) fun x hx => ⟨Nat.le_of_ble_eq_true rfl, body_law8_SpanOf x hx⟩
theorem says_law8_SpanOf : SaysTrue Rows.spanOfSpec 2 := ⟨rfl, fun H ds h => by
  match ds, h with
  | [d0, d1], _ => exact ⟨rfl, rfl, rfl⟩⟩
set_option maxRecDepth 100000 in
theorem lifted_law8_SpanOf (os : Os) (started : os.Started) (H : Type) (enc : TypeId × Value → H) :
    ReturnsInHanded {} Try.checked os 5 .any (Rows.spanOfSpec.pre6 enc Try.prog Try.f5 Rows.spanOfRow.domain false) (Rows.spanOfSpec.post enc Try.prog Try.f5 false true false false) := by
  refine returnsInHanded_of_change (C := Try.checked) own started (by kernel_rfl) Try.func5
    (ChangeSpec.witness6 (enc := enc) (C := Try.checked) false ⟨#[], #[.slice none 0 0, .int .u8 0], []⟩ 8 (by kernel_rfl) (by kernel_rfl) (by kernel_rfl) (by kernel_rfl)) ?_
  intro W base args ds gs before hval hW _ _
  exact law_contract (ts := [22, 5]) (tb := 4) ok_law8_SpanOf (by rw [Try.params5]) (by kernel_rfl) Try.underlying4 laid (by kernel_rfl) rd_law8_SpanOf (fun _ h => h) says_law8_SpanOf H enc W base args ds gs before hval hW
theorem over_law8_SpanOf : Rows.spanOfRow.holds Try.pinned (OpenSpec.ofChange Rows.spanOfSpec) :=
  OpenClaim.holds_of_wide 5 Try.f5 rfl rfl rfl rfl rfl rfl rfl ⟨rfl, rfl, rfl, rfl, rfl⟩ rfl rfl rfl rfl rfl (by kernel_rfl) Try.func5 (by kernel_rfl)
    (of_decide_eq_true (by kernel_rfl)) (by unfold Func.isWrapper; first | (rw [if_pos (by decide +kernel)]; kernel_rfl) | (rw [if_neg (by decide +kernel)]; exact ⟨rfl, rfl⟩))
    (fun os started H enc _ => lifted_law8_SpanOf os started H enc)
theorem spanOf_holds : Rows.SpanOfSaid := over_law8_SpanOf
end Go.Proofs.Ytcahbcdikcjihaa

