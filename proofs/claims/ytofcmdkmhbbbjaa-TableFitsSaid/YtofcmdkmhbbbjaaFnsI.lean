/-
  Tables and roots, plainly: what is put is taken.
-/
import Derived.Test.YtofcmdkmhbbbjaaFnsH
set_option linter.unusedSimpArgs false
set_option linter.unusedVariables false
open Nat renaming reduceEqDiff → qA, reduceAdd → qB, reduceSub → qC, reduceMul → qD, reduceLeDiff → qE, reduceLT → qF
open Int renaming reduceToNat → qG, reduceEq → qH, reduceLT → qI, reduceLE → qJ
namespace Go.Proofs.Ytofcmdkmhbbbjaa
open Go Go.Eng
set_option maxRecDepth 100000
theorem u32I_nat (u : UInt32) : u32I (u.toNat : Int) = u := by
  have := u.toNat_lt
  unfold u32I
  rw [Int.emod_eq_of_lt (by omega) (by omega), Int.toNat_natCast]
  simp
theorem ofN_numsP (p : TPtr) : ofN (numsP p) = p := by
  obtain ⟨a, b, c, d, e, f⟩ := p
  simp [ofN, numsP, u32I_nat]
theorem mayP_bd {p : TPtr} (h : mayP p = true) : 0 ≤ p.Addr ∧ p.Addr ≤ 65535 ∧ 0 ≤ p.Birth ∧ p.Birth ≤ 1073741824 := by
  unfold mayP numB at h
  simp only [Bool.and_eq_true, decide_eq_true_eq] at h
  omega
theorem F6_digs : digs F6 = [2, 4, 4, 4, 4, 4] := by decide
theorem F6_ok : formOk F6 = true := by decide
theorem step_put {p : TPtr} (h : mayP p = true) (b : List UInt8) : stepP (ptrB p ++ b) = some (p, b) := by
  obtain ⟨_, _, h1, h2, h3⟩ := take_put (f := F6) (l := numsP p) b F6_ok rfl
  have hb := mayP_bd h
  have hu : ∀ u : UInt32, (u.toNat : Int) % 4294967296 = (u.toNat : Int) := fun u => Int.emod_eq_of_lt (by omega) (by have := u.toNat_lt; omega)
  have e : List.zipWith (fun (w n : Int) => n % 256 ^ w.toNat) (digs F6) (numsP p) = numsP p := by
    rw [F6_digs]
    unfold numsP
    simp only [List.zipWith_cons_cons, List.zipWith_nil_left]
    have e1 : p.Addr % 256 ^ (Int.toNat 2) = p.Addr := Int.emod_eq_of_lt hb.1 (by have : (256 : Int) ^ (Int.toNat 2) = 65536 := rfl; omega)
    have e4 : (256 : Int) ^ (Int.toNat 4) = 4294967296 := rfl
    rw [e1, e4, hu, hu, hu, hu, Int.emod_eq_of_lt hb.2.2.1 (by omega)]
  unfold stepP
  unfold ptrB
  rw [h1, h2, h3, e, ofN_numsP, if_pos ⟨rfl, h⟩]
theorem ptrsB_snoc (l : List TPtr) (p : TPtr) : ptrsB (l ++ [p]) = ptrsB l ++ ptrB p := by simp [ptrsB]
theorem takeP_put : ∀ (n : Nat) (l : List TPtr) (b : List UInt8), l.length = n → l.all mayP = true → takeP n (ptrsB l ++ b) = some (l, b)
  | 0, l, b, h, _ => by
    obtain rfl := List.length_eq_zero_iff.1 h
    rfl
  | n + 1, l, b, h, ha => by
    obtain ⟨r, p, rfl⟩ : ∃ r p, l = r ++ [p] := by
      refine ⟨l.dropLast, l.getLast (by intro e; rw [e] at h; simp at h), (List.dropLast_concat_getLast _).symm⟩
    rw [List.all_append, Bool.and_eq_true] at ha
    have hp : mayP p = true := by simpa using ha.2
    rw [takeP, ptrsB_snoc, List.append_assoc, takeP_put n r _ (by simpa using h) ha.1]
    simp only [Option.bind_some, step_put hp, Option.map_some]
theorem step_row {d : TDset} {q : TPtr} {last : Int} (h : rowOk last d q = true) (h0 : 0 ≤ last) (b : List UInt8) : stepOk (rowB d q ++ b) = true ∧ stepR (rowB d q ++ b) = b ∧ takeL F4 (rowB d q ++ b) = numsD d ∧ takePL 1 (takeR F4 (rowB d q ++ b)) = [q] := by
  obtain ⟨h1, h2, h3, h4, h5, h6, h7⟩ := rowOk_iff.1 h
  have e : rowB d q ++ b = putF F4 (numsD d) ++ (ptrsB [q] ++ b) := by
    rw [rowB, ptrsF, if_pos (by rw [List.all_cons, h6]; rfl), List.append_assoc]
  obtain ⟨_, _, t1, t2, t3⟩ := take_put (f := F4) (l := numsD d) (ptrsB [q] ++ b) (by decide) rfl
  have t4 := takeP_put 1 [q] b rfl (by rw [List.all_cons, h6]; rfl)
  have t5 : List.zipWith (fun w n => n % 256 ^ w.toNat) (digs F4) (numsD d) = numsD d := by
    have : digs F4 = [2, 1, 2, 1] := by decide
    rw [this]
    show [d.ID % 256 ^ 2, d.Kind % 256 ^ 1, d.Origin % 256 ^ 2, d.Quota % 256 ^ 1] = [d.ID, d.Kind, d.Origin, d.Quota]
    rw [Int.emod_eq_of_lt (by omega) (by omega), Int.emod_eq_of_lt (by omega) (by omega), Int.emod_eq_of_lt (by omega) (by omega), Int.emod_eq_of_lt (by omega) (by omega)]
  rw [e, stepOk, stepR, t1, t2, t3, t5, takePOk, takePR, takePL, t4]
  exact ⟨rfl, rfl, rfl, rfl⟩
def sufB (l : List TDset) (p : List TPtr) : Nat → Nat → List UInt8
  | _, 0 => []
  | i, k + 1 => rowB (l.getD i default) (p.getD i default) ++ sufB l p (i + 1) k
theorem suf_rows {l : List TDset} {p : List TPtr} : ∀ k i, rowsB l p i ++ sufB l p i k = rowsB l p (i + k)
  | 0, i => by rw [sufB, List.append_nil]; rfl
  | k + 1, i => by
    have h := suf_rows (l := l) (p := p) k (i + 1)
    rw [sufB, ← List.append_assoc, show i + (k + 1) = i + 1 + k from by omega]
    exact h
theorem range_getD {α : Type} [Inhabited α] (l : List α) : (List.range l.length).map (fun i => l.getD i default) = l := by
  refine List.ext_getElem (by simp) fun i h1 h2 => ?_
  rw [List.getElem_map, List.getElem_range, List.getD_eq_getElem?_getD, List.getElem?_eq_getElem h2]; rfl
theorem tab_back {l : List TDset} {p : List TPtr} (h : tabOk l p = true) (hF : ∀ d ∈ l, d.Files = []) : takeTb (tabB l p) = (l, p, true) := by
  have h' := h
  simp only [tabOk, Bool.and_eq_true, decide_eq_true_eq] at h'
  obtain ⟨h1, h2, h3⟩ := h'
  have e : tabB l p = headB l ++ rowsB l p l.length := by rw [tabB, if_pos h]
  obtain ⟨_, _, t1, t2, t3⟩ := take_put (f := F1) (l := [(l.length : Int)]) (rowsB l p l.length) (by decide) rfl
  have t4 : List.zipWith (fun w n => n % 256 ^ w.toNat) (digs F1) [(l.length : Int)] = [(l.length : Int)] := by
    have : digs F1 = [1] := by decide
    rw [this]
    show [(l.length : Int) % 256 ^ 1] = _
    rw [Int.emod_eq_of_lt (by omega) (by omega)]
  obtain ⟨s, hs⟩ : ∃ s, s = tabB l p := ⟨_, rfl⟩
  have e' : s = putF F1 [(l.length : Int)] ++ rowsB l p l.length := hs.trans e
  rw [← e'] at t1 t2 t3
  rw [t4] at t2
  have hc : cntT s = l.length := by rw [cntT, t2]; rfl
  have hr : ∀ i, i ≤ l.length → restT s i = sufB l p i (l.length - i) := by
    intro i
    induction i with
    | zero =>
      intro _
      show takeR F1 s = _
      rw [t3]
      have := suf_rows (l := l) (p := p) l.length 0
      rw [Nat.zero_add] at this
      exact this.symm
    | succ i ih =>
      intro hi
      obtain ⟨k, hk⟩ : ∃ k, l.length - i = k + 1 := ⟨l.length - i - 1, by omega⟩
      have e1 := ih (by omega)
      rw [hk, sufB] at e1
      have n0 := (last_nn i fun j hj => h3 j (by omega)).1
      have e2 := (step_row (h3 i (by omega)) n0 (sufB l p (i + 1) k)).2.1
      show stepR (restT s i) = _
      rw [e1, e2, show l.length - (i + 1) = k from by omega]
  have hst : ∀ i, i < l.length → stepOk (restT s i) = true ∧ takeL F4 (restT s i) = numsD (l.getD i default) ∧ takePL 1 (takeR F4 (restT s i)) = [p.getD i default] := fun i hi => by
    obtain ⟨k, hk⟩ : ∃ k, l.length - i = k + 1 := ⟨l.length - i - 1, by omega⟩
    have e1 := hr i (by omega)
    rw [hk, sufB] at e1
    have n0 := (last_nn i fun j hj => h3 j (by omega)).1
    obtain ⟨a, _, c, d⟩ := step_row (h3 i (by omega)) n0 (sufB l p (i + 1) k)
    rw [e1]
    exact ⟨a, c, d⟩
  have hd : dsT s l.length = l := by
    have : dsT s l.length = (List.range l.length).map fun i => l.getD i default := List.map_congr_left fun i hi => by
      have hil := List.mem_range.1 hi
      have hf : (l.getD i default).Files = [] := hF _ (by
        rw [List.getD_eq_getElem?_getD, List.getElem?_eq_getElem hil]; exact List.getElem_mem _)
      rw [dsI, (hst i hil).2.1]
      obtain ⟨d0, hd0⟩ : ∃ d0, d0 = l.getD i default := ⟨_, rfl⟩
      rw [← hd0] at hf ⊢
      obtain ⟨a, b, c, d, f⟩ := d0
      have hf : f = [] := hf
      subst hf; rfl
    rw [this, range_getD]
  have hp : ptT s l.length = p := by
    have : ptT s l.length = (List.range p.length).map fun i => p.getD i default := by
      rw [← h2]
      exact List.map_congr_left fun i hi => by
        rw [ptI, (hst i (List.mem_range.1 hi)).2.2]; rfl
    rw [this, range_getD]
  have hk : tkTok s = true := by
    rw [tkTok, t1, hc, hd, hp, decide_eq_true (fun i hi => (hst i hi).1), decide_eq_true hs.symm]; rfl
  rw [← hs, takeTb, if_pos hk, hc, hd, hp]
theorem rt_back {r : TRoot} (h : rtOk r = true) : takeRt (rootB r) = (r, true) ∧ (rootB r).length = 82 := by
  have h' := h
  simp only [rtOk, Bool.and_eq_true, decide_eq_true_eq, upTo_iff] at h'
  obtain ⟨a1, a2, a3, a4, a5, a6⟩ := h'
  obtain ⟨g1, g2, t1, t2, t3⟩ := take_put (f := H3) (l := [r.Txg, r.Next, r.Guid]) (ptrsB [r.Table, r.Space, r.Kept] ++ (putF T1 [r.KeptTxg] ++ [])) (by decide) rfl
  obtain ⟨g3, g4, u1, u2, u3⟩ := take_put (f := T1) (l := [r.KeptTxg]) [] (by decide) rfl
  have t4 := takeP_put 3 [r.Table, r.Space, r.Kept] (putF T1 [r.KeptTxg] ++ []) rfl a6
  have e : rootB r = putF H3 [r.Txg, r.Next, r.Guid] ++ (ptrsB [r.Table, r.Space, r.Kept] ++ (putF T1 [r.KeptTxg] ++ [])) := by
    rw [rootB, if_pos h, ptrsF, if_pos a6, List.append_assoc, List.append_nil]
  have z1 : List.zipWith (fun w n => n % 256 ^ w.toNat) (digs H3) [r.Txg, r.Next, r.Guid] = [r.Txg, r.Next, r.Guid] := by
    have : digs H3 = [4, 4, 4] := by decide
    rw [this]
    show [r.Txg % 256 ^ 4, r.Next % 256 ^ 4, r.Guid % 256 ^ 4] = _
    rw [Int.emod_eq_of_lt (by omega) (by omega), Int.emod_eq_of_lt (by omega) (by omega), Int.emod_eq_of_lt (by omega) (by omega)]
  have z2 : List.zipWith (fun w n => n % 256 ^ w.toNat) (digs T1) [r.KeptTxg] = [r.KeptTxg] := by
    have : digs T1 = [4] := by decide
    rw [this]
    show [r.KeptTxg % 256 ^ 4] = _
    rw [Int.emod_eq_of_lt (by omega) (by omega)]
  obtain ⟨s, hs⟩ : ∃ s, s = rootB r := ⟨_, rfl⟩
  have e' := hs.trans e
  rw [← e'] at t1 t2 t3
  rw [z1] at t2
  rw [z2] at u2
  have p1 : takePOk 3 (takeR H3 s) = true := by rw [t3, takePOk, t4]; rfl
  have p2 : takePL 3 (takeR H3 s) = [r.Table, r.Space, r.Kept] := by rw [t3, takePL, t4]
  have p3 : takePR 3 (takeR H3 s) = putF T1 [r.KeptTxg] ++ [] := by rw [t3, takePR, t4]
  have er : rtOf s = r := by
    rw [rtOf, t2, p2, p3, u2]; rfl
  have hk : rtTok s = true := by
    rw [rtTok, rt1, rt2, rt3, t1, p1, p3, u1, er, decide_eq_true hs.symm]; rfl
  constructor
  · rw [← hs, takeRt, if_pos hk, er]
  · have l1 := ptrsB_len [r.Table, r.Space, r.Kept]
    have d1 : (digs H3).sum = 12 := by decide
    have d2 : (digs T1).sum = 4 := by decide
    rw [d1] at g2
    rw [d2] at g4
    rw [e, List.length_append, List.length_append, List.append_nil, l1]
    show _ + (22 * 3 + _) = 82
    omega
theorem head_len {l : List Byt} : (headL l).length = hdK l := by simp [headL]
theorem head_at {l : List Byt} {i : Nat} (h : i < hdK l) : (headL l).getD i default = hdI l i := by
  rw [List.getD_eq_getElem?_getD, headL, List.getElem?_map, List.getElem?_range h]; rfl
theorem head_noF {l : List Byt} : NoF (headL l) := by
  refine ⟨by rw [head_len]; unfold hdK; omega, fun d hd => ?_⟩
  obtain ⟨i, _, rfl⟩ := List.mem_map.1 hd
  rfl
theorem head_row {l : List Byt} {p : List TPtr} {i : Nat} (hi : i < hdK l) (hp : mayP (p.getD i default) = true) (hz : p.getD i default ≠ zeroP) : rowI (headL l) p i = true := by
  have hk : hdK l ≤ 8 := by unfold hdK; omega
  have hl : lastI (headL l) i = idH l i := by
    cases i with
    | zero => rfl
    | succ i =>
      rw [lastI, if_neg (by omega), show i + 1 - 1 = i from by omega, head_at (by omega)]; rfl
  have e1 : idH l (i + 1) = idH l i + 1 + (((l.getD (3 * i) default).v.toNat % 50 : Nat) : Int) := rfl
  obtain ⟨b1, b2⟩ := idH_bd (l := l) i
  have k1 := (l.getD (3 * i + 1) default).v.toNat_lt
  have k2 := (l.getD (3 * i + 2) default).v.toNat_lt
  rw [rowI, hl, head_at hi, rowOk_iff]
  refine ⟨?_, ?_, ?_, ?_, ?_, hp, hz⟩
  · show idH l i < idH l (i + 1)
    omega
  · show idH l (i + 1) ≤ 65535
    omega
  · show 1 + (((l.getD (3 * i + 1) default).v.toNat % 2 : Nat) : Int) = 1 ∨ 1 + (((l.getD (3 * i + 1) default).v.toNat % 2 : Nat) : Int) = 2
    omega
  · show 0 ≤ ((l.getD (3 * i + 1) default).v.toNat : Int) ∧ ((l.getD (3 * i + 1) default).v.toNat : Int) ≤ 65535
    omega
  · show 0 ≤ ((l.getD (3 * i + 2) default).v.toNat : Int) ∧ ((l.getD (3 * i + 2) default).v.toNat : Int) ≤ 255
    omega
theorem head_ok {l : List Byt} {p : List TPtr} (hl : p.length = hdK l) (hp : ∀ q ∈ p, mayP q = true ∧ q ≠ zeroP) : tabOk (headL l) p = true := by
  have hk : hdK l ≤ 8 := by unfold hdK; omega
  rw [tabOk, head_len, decide_eq_true hk, decide_eq_true hl.symm, decide_eq_true (fun i hi => by
    have hm : p.getD i default ∈ p := by
      rw [List.getD_eq_getElem?_getD, List.getElem?_eq_getElem (by omega)]; exact List.getElem_mem _
    exact head_row hi (hp _ hm).1 (hp _ hm).2)]; rfl
end Go.Proofs.Ytofcmdkmhbbbjaa
namespace Go.Proofs.Ytofcmdkmhbbbjaa
open Go Go.Eng
set_option maxRecDepth 100000
theorem ok9_of {n : Nat} {l : List TRun} (hd : dataOk n = true) (h : Nf l) (hw : Wn 14 40 l) : Ok9 n l := ⟨hd, h, hw.wide (by have := dataOk_iff.1 hd; omega)⟩
theorem sp_back {n : Nat} {s : TSpace} (hd : dataOk n = true) (h : Sp s) : takeSp n (spaceB n s) = (s, true) ∧ (spaceB n s).length = 4 * ((n + 7) / 8) := by
  have hok := h.ok hd
  have o1 := ok9_of hd h.nh h.wh
  have o2 := ok9_of hd h.no h.wo
  have o3 := ok9_of hd h.nt h.wt
  have o4 := ok9_of hd h.nk h.wk
  have e : spaceB n s = putM n s.Held ++ (putM n s.One ++ (putM n s.Two ++ (putM n s.Kept ++ []))) := by
    rw [spaceB, if_pos hok, List.append_nil, List.append_assoc, List.append_assoc]
  obtain ⟨t, ht⟩ : ∃ t, t = spaceB n s := ⟨_, rfl⟩
  have e' := ht.trans e
  have k0 : tkL n t 0 = (s.Held, putM n s.One ++ (putM n s.Two ++ (putM n s.Kept ++ [])), true) := by
    show takeM n t = _
    rw [e', o1.take]
  have k1 : tkL n t 1 = (s.One, putM n s.Two ++ (putM n s.Kept ++ []), true) := by
    show takeM n (tkL n t 0).2.1 = _
    rw [k0]; exact o2.take _
  have k2 : tkL n t 2 = (s.Two, putM n s.Kept ++ [], true) := by
    show takeM n (tkL n t 1).2.1 = _
    rw [k1]; exact o3.take _
  have k3 : tkL n t 3 = (s.Kept, [], true) := by
    show takeM n (tkL n t 2).2.1 = _
    rw [k2]; exact o4.take _
  have hS : tkS n t = s := by rw [tkS, k0, k1, k2, k3]
  have h4 : restL n t 4 = [] := by
    show (tkL n t 3).2.1 = []
    rw [k3]
  have hk : tkOk n t = true := by rw [tkOk, k0, k1, k2, k3, h4, hS, hok]; rfl
  constructor
  · rw [← ht, takeSp, if_pos hk, hS]
  · rw [e]
    simp only [List.length_append, List.length_nil, o1.len, o2.len, o3.len, o4.len]
    omega
def p0 : TPtr := ⟨20, 1, (0, 0, 0, 0)⟩
def l0 : List TDset := [⟨1, 1, 0, 0, []⟩]
def r0 : TRoot := ⟨3, 2, 0, p0, zeroP, zeroP, 0⟩
def s0 : TSpace := ⟨[⟨20, 22⟩], [], [], []⟩
theorem s0_sp : Sp s0 := Sp.mk' (.one (by decide)) .nil .nil .nil (fun i hi => by
  obtain ⟨r, hr, h1, h2⟩ := hasR_iff.1 hi
  obtain rfl := List.mem_singleton.1 hr
  have h1 : (20 : Int) ≤ i := h1
  have h2 : i < (22 : Int) := h2
  omega) wn_nil wn_nil wn_nil (fun i => Bool.and_false _) (fun i => Bool.and_false _) (fun i => rfl)
theorem t0_ok : tabOk l0 [p0] = true := by decide +kernel
theorem t0_len : (tabB l0 [p0]).length = 29 := by decide +kernel
theorem r0_ok : rtOk r0 = true := by decide +kernel
theorem r0_no : takeRt [120] = (zeroR, false) := by decide +kernel
theorem u0_dec : (Cell.dec [TV.int IntKind.u32 0] : Option UInt32) = some 0 := rfl
theorem rd_dec : (Cell.dec [TV.seq 2 [[.int .i64 20, .int .i64 22]]] : Option (List TRun)) = some [⟨20, 22⟩] := rfl
theorem p0_eta : (⟨20, 1, (0, 0, 0, 0)⟩ : TPtr) = p0 := rfl
theorem pz_eta : (⟨0, 0, (0, 0, 0, 0)⟩ : TPtr) = zeroP := rfl
theorem l0_eta : ([⟨1, 1, 0, 0, []⟩] : List TDset) = l0 := rfl
theorem r0_eta : (⟨3, 2, 0, p0, zeroP, zeroP, 0⟩ : TRoot) = r0 := rfl
theorem s0_eta : (⟨[⟨20, 22⟩], [], [], []⟩ : TSpace) = s0 := rfl
def G_law17_begun : GCode := .seq (.region [⟨(some 0), none, .assign (.const (.bool false))⟩]) (.seq (.region [⟨(some 12), none, .build 29 #[(0, .const (.int .i64 20)), (1, .const (.int .i64 1))]⟩, ⟨(some 1), none, .alloc 29⟩, ⟨none, none, .store 29 (.tmp 1) (.tmp 12)⟩]) (.seq (.seq .weak (.region [⟨(some 13), none, .build 36 #[(0, .const (.int .i64 1)), (1, .const (.int .i64 1))]⟩, ⟨(some 14), none, .buildSlice 23 1 #[(0, .tmp 13)]⟩, ⟨(some 15), none, .load 29 (.tmp 1)⟩, ⟨(some 16), none, .buildSlice 24 1 #[(0, .tmp 15)]⟩, ⟨(some 17), none, .call ⟨.value (.func 13), #[.tmp 14, .tmp 16], #[23, 24]⟩⟩, ⟨(some 2), none, .assign (.tmp 17)⟩])) (.seq (.seq .weak (.region [⟨(some 19), none, .move (.tmp 2)⟩, ⟨(some 20), none, .call ⟨.value (.func 18), #[.tmp 19], #[9]⟩⟩, ⟨(some 18), none, .move (.tmp 20)⟩, ⟨(some 21), none, .extract (.tmp 18) 0⟩, ⟨(some 22), none, .extract (.tmp 18) 1⟩, ⟨(some 23), none, .extract (.tmp 18) 2⟩, ⟨(some 3), none, .assign (.tmp 21)⟩, ⟨(some 4), none, .assign (.tmp 22)⟩, ⟨(some 5), none, .assign (.tmp 23)⟩])) (.seq (.seq .weak (.region [⟨(some 25), none, .load 29 (.tmp 1)⟩, ⟨(some 26), none, .build 31 #[(0, .const (.int .i64 3)), (1, .const (.int .i64 2)), (3, .tmp 25)]⟩, ⟨(some 27), none, .call ⟨.value (.func 16), #[.tmp 26], #[31]⟩⟩, ⟨(some 28), none, .call ⟨.value (.func 20), #[.tmp 27], #[9]⟩⟩, ⟨(some 24), none, .move (.tmp 28)⟩, ⟨(some 29), none, .extract (.tmp 24) 0⟩, ⟨(some 30), none, .extract (.tmp 24) 1⟩, ⟨(some 6), none, .alloc 31⟩, ⟨none, none, .store 31 (.tmp 6) (.tmp 29)⟩, ⟨(some 7), none, .assign (.tmp 30)⟩])) (.seq (.seq .weak (.region [⟨(some 32), none, .build 69 #[(0, .const (.int .i64 20)), (1, .const (.int .i64 22))]⟩, ⟨(some 33), none, .buildSlice 52 1 #[(0, .tmp 32)]⟩, ⟨(some 34), none, .build 56 #[(0, .tmp 33)]⟩, ⟨(some 35), none, .call ⟨.value (.func 26), #[.const (.int .i64 40), .tmp 34], #[3, 56]⟩⟩, ⟨(some 36), none, .call ⟨.value (.func 28), #[.const (.int .i64 40), .tmp 35], #[3, 9]⟩⟩, ⟨(some 31), none, .move (.tmp 36)⟩, ⟨(some 37), none, .extract (.tmp 31) 0⟩, ⟨(some 38), none, .extract (.tmp 31) 1⟩, ⟨(some 8), none, .alloc 56⟩, ⟨none, none, .store 56 (.tmp 8) (.tmp 37)⟩, ⟨(some 9), none, .assign (.tmp 38)⟩])) (.seq (.seq .weak (.region [⟨(some 40), none, .call ⟨.value (.func 20), #[.const (.string ⟨#[120]⟩)], #[9]⟩⟩, ⟨(some 39), none, .move (.tmp 40)⟩, ⟨(some 41), none, .extract (.tmp 39) 0⟩, ⟨(some 42), none, .extract (.tmp 39) 1⟩, ⟨(some 10), none, .alloc 31⟩, ⟨none, none, .store 31 (.tmp 10) (.tmp 41)⟩, ⟨(some 11), none, .assign (.tmp 42)⟩])) (.seq (.seq .weak (.region [⟨(some 43), none, .move (.tmp 2)⟩, ⟨(some 44), none, .call ⟨.builtin .len, #[.tmp 43], #[9]⟩⟩, ⟨(some 45), none, .binOp .eql 3 (.tmp 44) (.const (.int .i64 29)) 3⟩, ⟨(some 46), none, .move (.tmp 45)⟩, ⟨(some 47), (some (46, true)), .move (.tmp 5)⟩, ⟨(some 48), none, .pick (.tmp 46) (.tmp 47) (.const (.bool false))⟩, ⟨(some 49), none, .move (.tmp 48)⟩, ⟨(some 50), (some (49, true)), .move (.tmp 3)⟩, ⟨(some 51), (some (49, true)), .call ⟨.builtin .len, #[.tmp 50], #[23]⟩⟩, ⟨(some 52), (some (49, true)), .binOp .eql 3 (.tmp 51) (.const (.int .i64 1)) 3⟩, ⟨(some 53), none, .pick (.tmp 49) (.tmp 52) (.const (.bool false))⟩, ⟨(some 54), none, .move (.tmp 53)⟩, ⟨(some 55), (some (54, true)), .move (.tmp 3)⟩, ⟨(some 56), (some (54, true)), .indexAddr 23 (.tmp 55) (.const (.int .i64 0))⟩, ⟨(some 57), (some (54, true)), .fieldAddr 36 (.tmp 56) 0⟩, ⟨(some 58), (some (54, true)), .load 3 (.tmp 57)⟩, ⟨(some 59), (some (54, true)), .binOp .eql 3 (.tmp 58) (.const (.int .i64 1)) 3⟩, ⟨(some 60), none, .pick (.tmp 54) (.tmp 59) (.const (.bool false))⟩, ⟨(some 61), none, .move (.tmp 60)⟩, ⟨(some 62), (some (61, true)), .move (.tmp 4)⟩, ⟨(some 63), (some (61, true)), .call ⟨.builtin .len, #[.tmp 62], #[24]⟩⟩, ⟨(some 64), (some (61, true)), .binOp .eql 3 (.tmp 63) (.const (.int .i64 1)) 3⟩, ⟨(some 65), none, .pick (.tmp 61) (.tmp 64) (.const (.bool false))⟩, ⟨(some 66), none, .move (.tmp 65)⟩, ⟨(some 67), (some (66, true)), .move (.tmp 4)⟩, ⟨(some 68), (some (66, true)), .indexAddr 24 (.tmp 67) (.const (.int .i64 0))⟩, ⟨(some 69), (some (66, true)), .load 29 (.tmp 68)⟩, ⟨(some 70), (some (66, true)), .load 29 (.tmp 1)⟩, ⟨(some 71), (some (66, true)), .binOp .eql 29 (.tmp 69) (.tmp 70) 29⟩, ⟨(some 72), none, .pick (.tmp 66) (.tmp 71) (.const (.bool false))⟩, ⟨(some 73), none, .move (.tmp 72)⟩, ⟨(some 74), (some (73, true)), .move (.tmp 7)⟩, ⟨(some 75), none, .pick (.tmp 73) (.tmp 74) (.const (.bool false))⟩, ⟨(some 76), none, .move (.tmp 75)⟩, ⟨(some 77), (some (76, true)), .fieldAddr 31 (.tmp 6) 0⟩, ⟨(some 78), (some (76, true)), .load 3 (.tmp 77)⟩, ⟨(some 79), (some (76, true)), .binOp .eql 3 (.tmp 78) (.const (.int .i64 3)) 3⟩, ⟨(some 80), none, .pick (.tmp 76) (.tmp 79) (.const (.bool false))⟩, ⟨(some 81), none, .move (.tmp 80)⟩, ⟨(some 82), (some (81, true)), .fieldAddr 31 (.tmp 6) 3⟩, ⟨(some 83), (some (81, true)), .load 29 (.tmp 82)⟩, ⟨(some 84), (some (81, true)), .load 29 (.tmp 1)⟩, ⟨(some 85), (some (81, true)), .binOp .eql 29 (.tmp 83) (.tmp 84) 29⟩, ⟨(some 86), none, .pick (.tmp 81) (.tmp 85) (.const (.bool false))⟩, ⟨(some 87), none, .move (.tmp 86)⟩, ⟨(some 88), (some (87, true)), .move (.tmp 9)⟩, ⟨(some 89), none, .pick (.tmp 87) (.tmp 88) (.const (.bool false))⟩, ⟨(some 90), none, .move (.tmp 89)⟩, ⟨(some 91), (some (90, true)), .fieldAddr 56 (.tmp 8) 0⟩, ⟨(some 92), (some (90, true)), .load 52 (.tmp 91)⟩, ⟨(some 93), (some (90, true)), .call ⟨.builtin .len, #[.tmp 92], #[52]⟩⟩, ⟨(some 94), (some (90, true)), .binOp .eql 3 (.tmp 93) (.const (.int .i64 1)) 3⟩, ⟨(some 95), none, .pick (.tmp 90) (.tmp 94) (.const (.bool false))⟩, ⟨(some 96), none, .move (.tmp 95)⟩, ⟨(some 97), (some (96, true)), .move (.tmp 11)⟩, ⟨(some 98), (some (96, true)), .unOp .not 4 (.tmp 97)⟩, ⟨(some 99), none, .pick (.tmp 96) (.tmp 98) (.const (.bool false))⟩, ⟨(some 0), none, .assign (.tmp 99)⟩])) (.ret))))))))
noncomputable def l_law17_begun : List (Nat × Con) := [(13, c_table_Table), (18, c_table_TakeTable), (16, c_table_Root), (20, c_table_TakeRoot), (26, c_table_Space), (28, c_table_TakeSpace)]
noncomputable abbrev K_law17_begun : Ctx := ctx (cl l_law17_begun)
theorem geq_law17_begun : gof K_law17_begun Try.f9 = some G_law17_begun.strip := by kernel_rfl
theorem sys_law17_begun : Go.Eng.Sys Try.prog K_law17_begun := sys_of' ⟨ok_table_Table, ok_table_TakeTable, ok_table_Root, ok_table_TakeRoot, ok_table_Space, ok_table_TakeSpace, trivial⟩
noncomputable def k_law17_begun_table_Table := PLift.up (call_scal (C := K_law17_begun) (f := 13) (A := A_table_Table) (p := p_table_Table) (r := r_table_Table) rfl)
noncomputable def k_law17_begun_table_TakeTable := PLift.up (call_fn (C := K_law17_begun) (f := 18) (A := A_table_TakeTable) (p := p_table_TakeTable) (r := r_table_TakeTable) rfl)
noncomputable def k_law17_begun_table_Root := PLift.up (call_scal (C := K_law17_begun) (f := 16) (A := A_table_Root) (p := p_table_Root) (r := r_table_Root) rfl)
noncomputable def k_law17_begun_table_TakeRoot := PLift.up (call_fn (C := K_law17_begun) (f := 20) (A := A_table_TakeRoot) (p := p_table_TakeRoot) (r := r_table_TakeRoot) rfl)
noncomputable def k_law17_begun_table_Space := PLift.up (call_scal (C := K_law17_begun) (f := 26) (A := A_table_Space) (p := p_table_Space) (r := r_table_Space) rfl)
noncomputable def k_law17_begun_table_TakeSpace := PLift.up (call_fn (C := K_law17_begun) (f := 28) (A := A_table_TakeSpace) (p := p_table_TakeSpace) (r := r_table_TakeSpace) rfl)
def A_law17_begun := Arms.nil
def p_law17_begun (_ : Unit) : Prop := True
def r_law17_begun (_ : Unit) : AV := .t (.bool true)
set_option maxHeartbeats 4000000 in
theorem body_law17_begun (x : Unit) (_ : p_law17_begun x) : avp K_law17_begun G_law17_begun (Ret K_law17_begun [.tmp 0] fun v _ => v = r_law17_begun x) (entry (A_law17_begun.enc x) .empty) := by
  unfold G_law17_begun
  simp only [vP.down, vS.down, vE.down, qA, qB, qC, qD, qE, qF, qG, reduceIte, reduceCtorEq, qH, qI, qJ, ↓avp_condG, ↓tf_arrow, ↓ft_arrow]
  intro g hg
  obtain ⟨PC, hPC⟩ : ∃ PC : List TV, PC = [.int .i64 20, .int .i64 1, .int .u32 0, .int .u32 0, .int .u32 0, .int .u32 0] := ⟨_, rfl⟩
  refine weak_at [(1, .imm [.int .i64 20, .int .i64 1, .int .u32 0, .int .u32 0, .int .u32 0, .int .u32 0])] .empty fewer_empty (by
    simp only [vP.down, vS.down, vE.down, qA, qB, qC, qD, qE, qF, qG, reduceIte, reduceCtorEq, qH, qI, qJ, ↓avp_condG, ↓tf_arrow, ↓ft_arrow, wP.down]
    exact w2_imm (l := [.int .i64 20, .int .i64 1, .int .u32 0, .int .u32 0, .int .u32 0, .int .u32 0]) (ro := false) (Store.set_same _ _ _) rfl) ?_
  obtain ⟨B0, hB⟩ : ∃ B, B = tabB l0 [p0] := ⟨_, rfl⟩
  have tb : takeTb B0 = (l0, [p0], true) := hB ▸ tab_back t0_ok (fun d hd => by obtain rfl := List.mem_singleton.1 hd; rfl)
  have lb : B0.length = 29 := hB ▸ t0_len
  have pb : B0.length ≤ 1000000 := by omega
  obtain ⟨R0, hR⟩ : ∃ B, B = rootB r0 := ⟨_, rfl⟩
  have rb : takeRt R0 = (r0, true) := hR ▸ (rt_back r0_ok).1
  have rl : R0.length = 82 := hR ▸ (rt_back r0_ok).2
  have pr : R0.length ≤ 1000000 := by omega
  obtain ⟨S0, hS⟩ : ∃ B, B = spaceB 40 s0 := ⟨_, rfl⟩
  have sb : takeSp 40 S0 = (s0, true) := hS ▸ (sp_back (n := 40) rfl s0_sp).1
  have sl0 : S0.length = 20 := hS ▸ (sp_back (n := 40) rfl s0_sp).2
  have ps : S0.length ≤ 1000000 := by omega
  have ls : lenS s0 := s0_sp.len
  simp only [vP.down, vS.down, vE.down, qA, qB, qC, qD, qE, qF, qG, reduceIte, reduceCtorEq, qH, qI, qJ, ↓avp_condG, ↓tf_arrow, ↓ft_arrow]
  intro g1 hg1 g2 hg2
  have n2 := Store.ne_new hg2
  have b1 : ((Store.empty.set g1 (some (.row 5 [[.int .i64 1, .int .i64 1, .int .i64 0, .int .i64 0, .nilS]] false))).set g2 (some (.row 6 [[.int .i64 20, .int .i64 1, .int .u32 0, .int .u32 0, .int .u32 0, .int .u32 0]] false))).borrow1 (.tok g1 5 0 1) = some (.seq 5 [[.int .i64 1, .int .i64 1, .int .i64 0, .int .i64 0, .nilS]], [g1]) := by
    simp [Store.borrow1, set_f, n2.symm]
  simp only [vP.down, vS.down, vE.down, qA, qB, qC, qD, qE, qF, qG, reduceIte, reduceCtorEq, qH, qI, qJ, ↓avp_condG, ↓tf_arrow, ↓ft_arrow, b1, u0_dec, Option.bind_some, Option.map_some, p0_eta, l0_eta, ← hB, k_law17_begun_table_Table.down, A_table_Table, p_table_Table, r_table_Table]
  refine weak_at [(1, .imm [.int .i64 20, .int .i64 1, .int .u32 0, .int .u32 0, .int .u32 0, .int .u32 0]), (2, .t (.str B0))] .empty fewer_empty (by simp only [vP.down, vS.down, vE.down, qA, qB, qC, qD, qE, qF, qG, reduceIte, reduceCtorEq, qH, qI, qJ, ↓avp_condG, ↓tf_arrow, ↓ft_arrow, wP.down]) ?_
  clear b1 hg1 hg2 n2
  simp only [vP.down, vS.down, vE.down, qA, qB, qC, qD, qE, qF, qG, reduceIte, reduceCtorEq, qH, qI, qJ, ↓avp_condG, ↓tf_arrow, ↓ft_arrow, tb, pb, k_law17_begun_table_TakeTable.down, A_table_TakeTable, p_table_TakeTable, r_table_TakeTable]
  refine weak_at [(1, .imm [.int .i64 20, .int .i64 1, .int .u32 0, .int .u32 0, .int .u32 0, .int .u32 0]), (2, .t (.str B0)), (3, .t (sl l0)), (4, .t (sl [p0])), (5, .t (.bool true))] .empty fewer_refl (by simp only [vP.down, vS.down, vE.down, qA, qB, qC, qD, qE, qF, qG, reduceIte, reduceCtorEq, qH, qI, qJ, ↓avp_condG, ↓tf_arrow, ↓ft_arrow, wP.down]) ?_
  simp only [vP.down, vS.down, vE.down, qA, qB, qC, qD, qE, qF, qG, reduceIte, reduceCtorEq, qH, qI, qJ, ↓avp_condG, ↓tf_arrow, ↓ft_arrow, u0_dec, Option.bind_some, Option.map_some, p0_eta, pz_eta, r0_eta, ← hR, rb, pr, rtC, ptC, List.cons_append, List.nil_append, k_law17_begun_table_Root.down, A_table_Root, p_table_Root, r_table_Root, k_law17_begun_table_TakeRoot.down, A_table_TakeRoot, p_table_TakeRoot, r_table_TakeRoot]
  intro g6 hg6
  refine weak_at [(1, .imm [.int .i64 20, .int .i64 1, .int .u32 0, .int .u32 0, .int .u32 0, .int .u32 0]), (2, .t (.str B0)), (3, .t (sl l0)), (4, .t (sl [p0])), (5, .t (.bool true)), (6, .imm (rtC r0)), (7, .t (.bool true))] .empty fewer_empty (by
    simp only [vP.down, vS.down, vE.down, qA, qB, qC, qD, qE, qF, qG, reduceIte, reduceCtorEq, qH, qI, qJ, ↓avp_condG, ↓tf_arrow, ↓ft_arrow, wP.down]
    exact w2_imm (l := rtC r0) (ro := false) (Store.set_same _ _ _) rfl) ?_
  clear hg6
  have sdec : (argA TSpace).dec (.agg [.t (.seq 2 [[.int .i64 20, .int .i64 22]]), .t .nilS, .t .nilS, .t .nilS]) = some s0 := rfl
  simp only [vP.down, vS.down, vE.down, qA, qB, qC, qD, qE, qF, qG, reduceIte, reduceCtorEq, qH, qI, qJ, ↓avp_condG, ↓tf_arrow, ↓ft_arrow]
  intro g7 hg7
  simp only [vP.down, vS.down, vE.down, qA, qB, qC, qD, qE, qF, qG, reduceIte, reduceCtorEq, qH, qI, qJ, ↓avp_condG, ↓tf_arrow, ↓ft_arrow, rd_dec, Option.bind_some, Option.map_some, s0_eta, ls, ← hS, sb, ps, spC, k_law17_begun_table_Space.down, A_table_Space, p_table_Space, r_table_Space, k_law17_begun_table_TakeSpace.down, A_table_TakeSpace, p_table_TakeSpace, r_table_TakeSpace]
  intro g8 hg8
  refine weak_at [(1, .imm [.int .i64 20, .int .i64 1, .int .u32 0, .int .u32 0, .int .u32 0, .int .u32 0]), (2, .t (.str B0)), (3, .t (sl l0)), (4, .t (sl [p0])), (5, .t (.bool true)), (6, .imm (rtC r0)), (7, .t (.bool true)), (8, .imm (spC s0)), (9, .t (.bool true))] .empty fewer_empty (by
    simp only [vP.down, vS.down, vE.down, qA, qB, qC, qD, qE, qF, qG, reduceIte, reduceCtorEq, qH, qI, qJ, ↓avp_condG, ↓tf_arrow, ↓ft_arrow, wP.down]
    exact w2_imm (l := spC s0) (ro := false) (Store.set_same _ _ _) rfl) ?_
  clear hg7 hg8
  have l1 : ([120] : List UInt8).length ≤ 1000000 := by decide
  simp only [vP.down, vS.down, vE.down, qA, qB, qC, qD, qE, qF, qG, reduceIte, reduceCtorEq, qH, qI, qJ, ↓avp_condG, ↓tf_arrow, ↓ft_arrow, l1, r0_no, rtC, ptC, zeroR, zeroP, List.cons_append, List.nil_append, k_law17_begun_table_TakeRoot.down, A_table_TakeRoot, p_table_TakeRoot, r_table_TakeRoot]
  intro g10 hg10
  refine weak_at [(1, .imm [.int .i64 20, .int .i64 1, .int .u32 0, .int .u32 0, .int .u32 0, .int .u32 0]), (2, .t (.str B0)), (3, .t (sl l0)), (4, .t (sl [p0])), (5, .t (.bool true)), (6, .imm (rtC r0)), (7, .t (.bool true)), (8, .imm (spC s0)), (9, .t (.bool true)), (11, .t (.bool false))] .empty fewer_empty (by simp only [vP.down, vS.down, vE.down, qA, qB, qC, qD, qE, qF, qG, reduceIte, reduceCtorEq, qH, qI, qJ, ↓avp_condG, ↓tf_arrow, ↓ft_arrow, wP.down, rtC, ptC, List.cons_append, List.nil_append]) ?_
  have e1 : l0.length = 1 := rfl
  have e2 : [p0].length = 1 := rfl
  have e3 : s0.Held.length = 1 := rfl
  have e4 : r0.Txg = 3 := rfl
  have x0 : idxB K_law17_begun 23 (.t (sl l0)) (.t (.int .i64 0)) = .val True (.imm [.int .i64 1, .int .i64 1, .int .i64 0, .int .i64 0, sl ([] : List TNode)]) := idx_at (l := l0) (i := 0) ty_Lapi_Dset ty_api_Dset rfl (by decide) .i64
  have x1 : idxB K_law17_begun 24 (.t (sl [p0])) (.t (.int .i64 0)) = .val True (.imm [.int .i64 20, .int .i64 1, .int .u32 0, .int .u32 0, .int .u32 0, .int .u32 0]) := idx_at (l := [p0]) (i := 0) ty_Lapi_Ptr ty_api_Ptr rfl (by decide) .i64
  have er : rtC r0 = [.int .i64 3, .int .i64 2, .int .i64 0, .int .i64 20, .int .i64 1, .int .u32 0, .int .u32 0, .int .u32 0, .int .u32 0, .int .i64 0, .int .i64 0, .int .u32 0, .int .u32 0, .int .u32 0, .int .u32 0, .int .i64 0, .int .i64 0, .int .u32 0, .int .u32 0, .int .u32 0, .int .u32 0, .int .i64 0] := rfl
  simp only [vP.down, vS.down, vE.down, qA, qB, qC, qD, qE, qF, qG, reduceIte, reduceCtorEq, qH, qI, qJ, ↓avp_condG, ↓tf_arrow, ↓ft_arrow, lb, e1, e2, e3, x0, x1, er, spC, pick_of, pick_ot]
  simp only [vP.down, vS.down, vE.down, qA, qB, qC, qD, qE, qF, qG, reduceIte, reduceCtorEq, qH, qI, qJ, ↓avp_condG, ↓tf_arrow, ↓ft_arrow, vT.down]
  rfl
noncomputable def c_law17_begun : Con := fnScal A_law17_begun p_law17_begun r_law17_begun
theorem ok_law17_begun : COk Try.prog 9 c_law17_begun := fn_sok sys_law17_begun mixed Try.func9 (by kernel_rfl) geq_law17_begun Try.ntmps9 (by rw [Try.results9]) (fun x => by unfold r_law17_begun; simp [AV.scal]) fun x hx => ⟨Nat.le_of_ble_eq_true rfl, body_law17_begun x hx⟩
end Go.Proofs.Ytofcmdkmhbbbjaa
namespace Go.Proofs.Ytofcmdkmhbbbjaa
open Go Go.Eng
set_option maxRecDepth 100000
theorem row_ptr {M : List TPtr} {i : Nat} (h : i < M.length) : (M.map Cell.enc).getD i [] = ptC (M.getD i default) := by
  rw [row_get h]; rfl
theorem fix_put {M : List TPtr} {i : Nat} {x : TPtr} (h : i < M.length) : putRow (M.map Cell.enc) i 0 (ptC x) = (M.set i x).map Cell.enc := by
  rw [List.map_set, putRow, row_ptr h]
  rfl
end Go.Proofs.Ytofcmdkmhbbbjaa
