/- What the functions that the law comes to do, part 2. No condition. -/
import Derived.Test.YtbfajkdlafbknaaCona
set_option linter.unusedVariables false
set_option linter.unusedSimpArgs false
set_option linter.unnecessarySimpa false
namespace Go.Abs
open Go Go.Proofs
set_option maxRecDepth 100000
set_option linter.unusedSimpArgs false

def nrow (n : Int) : List C := [.v (.int .i64 n)]

theorem drows_nrow (l : List Int) : isDRows (l.map nrow) := by
  intro r hr c hc
  obtain ⟨n, _, rfl⟩ := List.mem_map.1 hr
  simp only [nrow, List.mem_singleton] at hc
  subst hc; rfl

theorem nrow_len (l : List Int) : ∀ r ∈ l.map nrow, r.length = 1 := by
  intro r hr
  obtain ⟨n, _, rfl⟩ := List.mem_map.1 hr
  rfl

theorem slices_Clone_int_int_con (rows : List (List C)) (hd : isDRows rows) (h1 : ∀ r ∈ rows, r.length = 1) (hb : rows.length ≤ 10000000000000) : Con Try.prog 54 [.c (.sl rows)] [] (.c (.osl 0)) [.arr 3 1 rows false] := by
  by_cases hr : rows = []
  · subst hr
    refine Con.split1 ?_ fun b off cap => ?_
    · skip
      refine C_slices_Clone_int_int (Nat.le_of_ble_eq_true rfl) (Nat.le_of_ble_eq_true rfl) ?_
      simp only [A_slices_Clone_int_int, argL, objL, List.length_nil, x_seq]
      refine aw_reg 16 (RG.go fun Q hQ => ?_)
      simp only [RX, eff, ev_k, setS_cons, setS_nil, AOp.isCall, setD, setEs, presOf, AOp.needs, idsOf, AOp.rds, List.map_nil, List.nil_append, true_and, Bool.false_eq_true, reduceCtorEq, Nat.reduceAdd, ↓reduceIte]
      refine hQ _ _ _ _ _ (RG.nil ?_)
      simp only [x_seq, x_tn]
      refine aw_reg 160 (RG.go fun Q hQ => ?_)
      simp only [RX, eff, ev_t, lk_cons, setS_cons, setS_nil, AOp.isCall, setD, setEs, presOf, AOp.needs, SV.one?, SV.pre, idsOf, AOp.rds, AOp.ops, SV.ids, C.ids0, List.map_nil, List.nil_append, true_and, and_self, Bool.false_eq_true, Bool.not_false, reduceCtorEq, Nat.reduceAdd, Nat.reduceEqDiff, ↓reduceIte, List.append_nil]
      refine hQ _ _ _ _ _ (RG.nil ?_)
      simp only [x_tn]
      refine aw_cond _ rfl trivial (fun ht => ?_) (fun hf => by cases hf)
      simp only [x_seq]
      refine aw_reg 320 (RG.go fun Q hQ => ?_)
      simp only [RX, eff, ev_k, setS_cons, AOp.isCall, setD, setEs, presOf, AOp.needs, idsOf, AOp.rds, List.map_nil, List.nil_append, true_and, Bool.false_eq_true, reduceCtorEq, Nat.reduceAdd, ↓reduceIte]
      refine hQ _ _ _ _ _ (RG.nil ?_)
      simp only [x_ret, x_tn, x_tr]
      exact Fin.ownNil (.inr rfl) rfl trivial (by decide)
    · skip
      refine C_slices_Clone_int_int (Nat.le_of_ble_eq_true rfl) (Nat.le_of_ble_eq_true rfl) ?_
      simp only [A_slices_Clone_int_int, argL, objL, List.length_nil, x_seq]
      refine aw_reg 16 (RG.go fun Q hQ => ?_)
      simp only [RX, eff, ev_k, setS_cons, setS_nil, AOp.isCall, setD, setEs, presOf, AOp.needs, idsOf, AOp.rds, List.map_nil, List.nil_append, true_and, Bool.false_eq_true, reduceCtorEq, Nat.reduceAdd, ↓reduceIte]
      refine hQ _ _ _ _ _ (RG.nil ?_)
      simp only [x_seq, x_tn]
      refine aw_reg 160 (RG.go fun Q hQ => ?_)
      simp only [RX, eff, ev_t, lk_cons, setS_cons, setS_nil, AOp.isCall, setD, setEs, presOf, AOp.needs, SV.one?, SV.pre, idsOf, AOp.rds, AOp.ops, SV.ids, C.ids0, List.map_nil, List.nil_append, true_and, and_self, Bool.false_eq_true, reduceCtorEq, Nat.reduceAdd, Nat.reduceEqDiff, ↓reduceIte, List.append_nil]
      refine hQ _ _ _ _ _ (RG.nil ?_)
      simp only [x_tn]
      refine aw_cond _ rfl trivial (fun ht => by cases ht) (fun hf => ?_)
      simp only [x_seq, x_skip, x_tn]
      refine aw_reg 320 (RG.go fun Q hQ => ?_)
      simp only [RX, eff, Nat.reduceMul, ev_t, lk_cons, lkE_cons, lkE_nil, setS_cons, setS_nil, setE_cons, setE_nil, AOp.isCall, setD, setEs, presOf, AOp.needs, SV.one?, SV.pre, idsOf, AOp.rds, AOp.ops, SV.ids, C.ids0, rowsOf, srcOf, bSRows, List.length_nil, Option.map_some, List.map_cons, List.map_nil, List.nil_append, List.cons_append, and_true, true_and, and_self, Bool.false_eq_true, reduceCtorEq, Nat.reduceAdd, Nat.reduceEqDiff, Nat.reduceLeDiff, ↓reduceIte, List.append_nil, Nat.add_zero]
      refine ⟨by simp, hQ _ _ _ _ _ (RG.nil ?_)⟩
      simp only [x_ret, x_tn]
      refine Fin.objs [] [(0, 352)] (.inr rfl) rfl (by first | exact trivial | exact ⟨trivial, trivial⟩ | exact ⟨trivial, trivial, trivial⟩) ?_ ?_ (by simp [objL, rlook]) (by simp [objL, rlook])
      · simp only [mkSt_sl, lk_cons, lkE_cons, lkE_nil, WkSV, WkSV1, WkC, WkC0, rlook, frzEs, objL, ↓reduceIte, reduceCtorEq, and_true, ne_eq, not_false_eq_true]
      · simp only [allL, lkE_cons, lkE_nil, WkEnt, rlook, frzEs, objL, isDRows, Option.some.injEq, Nat.reduceEqDiff, ↓reduceIte, reduceCtorEq, true_and, and_true, exists_eq_left', ne_eq, true_or]
        simp
  · skip
    refine C_slices_Clone_int_int (Nat.le_of_ble_eq_true rfl) (Nat.le_of_ble_eq_true rfl) ?_
    simp only [A_slices_Clone_int_int, argL, objL, List.length_nil, x_seq]
    refine aw_reg 16 (RG.go fun Q hQ => ?_)
    simp only [RX, eff, ev_k, setS_cons, setS_nil, AOp.isCall, setD, setEs, presOf, AOp.needs, idsOf, AOp.rds, List.map_nil, List.nil_append, true_and, Bool.false_eq_true, reduceCtorEq, Nat.reduceAdd, ↓reduceIte]
    refine hQ _ _ _ _ _ (RG.nil ?_)
    simp only [x_seq, x_tn]
    refine aw_reg 160 (RG.go fun Q hQ => ?_)
    simp only [RX, eff, ev_t, lk_cons, setS_cons, setS_nil, AOp.isCall, setD, setEs, presOf, AOp.needs, SV.one?, SV.pre, idsOf, AOp.rds, AOp.ops, SV.ids, C.ids0, List.map_nil, List.nil_append, true_and, and_self, Bool.false_eq_true, reduceCtorEq, Nat.reduceAdd, Nat.reduceEqDiff, ↓reduceIte, List.append_nil]
    refine ⟨hr, hQ _ _ _ _ _ (RG.nil ?_)⟩
    simp only [x_tn]
    refine aw_cond _ rfl trivial (fun ht => by cases ht) (fun hf => ?_)
    simp only [x_seq, x_skip, x_tn]
    refine aw_reg 320 (RG.go fun Q hQ => ?_)
    simp only [RX, eff, ev_t, lk_cons, lkE_cons, lkE_nil, setS_cons, setS_nil, setE_cons, setE_nil, AOp.isCall, setD, setEs, presOf, AOp.needs, SV.one?, SV.pre, idsOf, AOp.rds, AOp.ops, SV.ids, C.ids0, rowsOf, srcOf, bSRows, List.length_nil, Option.map_some, List.map_cons, List.map_nil, List.nil_append, List.cons_append, true_and, and_self, Bool.false_eq_true, reduceCtorEq, Nat.reduceAdd, Nat.reduceEqDiff, ↓reduceIte, Nat.zero_add, List.append_nil]
    refine ⟨⟨h1, by omega⟩, hQ _ _ _ _ _ (RG.nil ?_)⟩
    simp only [x_ret, x_tn]
    refine Fin.objs [] [(0, 352)] (.inr rfl) rfl (by first | exact trivial | exact ⟨trivial, trivial⟩ | exact ⟨trivial, trivial, trivial⟩) ?_ ?_ (by simp [objL, rlook]) (by simp [objL, rlook])
    · simp only [mkSt_sl, lk_cons, lkE_cons, lkE_nil, WkSV, WkSV1, WkC, WkC0, rlook, frzEs, objL, ↓reduceIte, reduceCtorEq, and_true, ne_eq, not_false_eq_true]
    · simp only [allL, lkE_cons, lkE_nil, WkEnt, rlook, frzEs, objL, isDRows, Option.some.injEq, Nat.reduceEqDiff, ↓reduceIte, reduceCtorEq, true_and, and_true, exists_eq_left', ne_eq, true_or]
      exact hd

/-- May it be a node? -/
def mayN (n : Int) : Bool := decide (0 ≤ n) && decide (n < 7)

theorem conf_may_con (n : Int) : Con Try.prog 56 [I n] [] (B (mayN n)) [] := by
  refine C_conf_may (Nat.le_of_ble_eq_true rfl) (Nat.le_of_ble_eq_true rfl) ?_
  simp only [A_conf_may, argL, objL, List.length_nil, x_seq]
  refine aw_reg 16 (RG.go fun Q hQ => ?_)
  simp only [RX, eff, ev_k, setS_cons, setS_nil, AOp.isCall, setD, setEs, presOf, AOp.needs, idsOf, AOp.rds, List.map_nil, List.nil_append, true_and, Bool.false_eq_true, reduceCtorEq, Nat.reduceAdd, ↓reduceIte]
  refine hQ _ _ _ _ _ (RG.nil ?_)
  simp only [x_seq, x_tn]
  refine aw_reg 160 (RG.go fun Q hQ => ?_)
  simp only [RX, eff, ev_t, ev_k, lk_cons, setS_cons, setS_nil, AOp.isCall, setD, setEs, presOf, AOp.needs, SV.one?, SV.pre, gval, binV, idsOf, AOp.rds, AOp.ops, SV.ids, C.ids0, Option.map_some, List.map_nil, List.nil_append, and_true, true_and, and_self, Bool.true_and, Bool.false_eq_true, beq_true, implies_true, imp_self, Bool.if_false_right, Bool.decide_eq_true, reduceCtorEq, ge_iff_le, Nat.reduceAdd, Nat.reduceEqDiff, ↓reduceIte, List.append_nil]
  refine hQ _ _ _ _ _ (RG.nil ?_)
  simp only [x_ret, x_tn]
  exact Fin.b (.inr rfl) rfl trivial (by rw [Bool.eq_iff_iff]; simp [mayN])

theorem conf_Of_1_con (n : Int) : Con Try.prog 55 [I n] [] (B (!mayN n)) [] := by
  refine C_conf_Of_1 (Nat.le_of_ble_eq_true rfl) (Nat.le_of_ble_eq_true rfl) ?_
  simp only [A_conf_Of_1, argL, objL, List.length_nil, x_seq]
  refine aw_reg 16 (RG.go fun Q hQ => ?_)
  simp only [RX, eff, ev_k, setS_cons, setS_nil, AOp.isCall, setD, setEs, presOf, AOp.needs, idsOf, AOp.rds, List.map_nil, List.nil_append, true_and, Bool.false_eq_true, reduceCtorEq, Nat.reduceAdd, ↓reduceIte]
  refine hQ _ _ _ _ _ (RG.nil ?_)
  simp only [x_seq, x_tn]
  refine aw_reg 160 (RG.go fun Q hQ => ?_)
  simp only [RX, eff, ev_t, lk_cons, setS_cons, setS_nil, AOp.isCall, setD, setEs, presOf, AOp.needs, idsOf, AOp.rds, List.map_nil, List.nil_append, true_and, Bool.false_eq_true, reduceCtorEq, Nat.reduceAdd, Nat.reduceEqDiff, ↓reduceIte]
  refine hQ _ _ _ _ _ ?_
  refine RG.call [] (conf_may_con n) (tr_cons tr_v tr_nil) (trivial) (.inl trivial) ?_
  refine RG.go fun Q hQ => ?_
  simp only [RX, eff, ev_t, lk_cons, setS_cons, setS_nil, AOp.isCall, setD, setEs, presOf, AOp.needs, SV.one?, SV.pre, unV, idsOf, AOp.rds, AOp.ops, SV.ids, C.ids0, Option.map_some, List.map_nil, List.nil_append, true_and, and_self, Bool.false_eq_true, reduceCtorEq, Nat.reduceAdd, Nat.reduceEqDiff, ↓reduceIte, List.append_nil]
  refine hQ _ _ _ _ _ (RG.nil ?_)
  simp only [x_ret, x_tn]
  exact Fin.scalar (.inr rfl) rfl trivial rfl trivial

/-- The first that may not be, or none. -/
def idxN (l : List Int) : Int := match l.findIdx? (fun n => !mayN n) with
  | some i => i
  | none => -1

theorem idxN_hit {l : List Int} {i : Nat} (hi : i < l.length) (hm : mayN l[i] = false) (hb : ∀ j (h : j < i), mayN (l[j]'(by omega)) = true) : idxN l = i := by
  have : l.findIdx? (fun n => !mayN n) = some i := by
    rw [List.findIdx?_eq_some_iff_getElem]
    exact ⟨hi, by simp [hm], fun j hj => by simp [hb j hj]⟩
  simp [idxN, this]

theorem idxN_miss {l : List Int} (hb : ∀ n ∈ l, mayN n = true) : idxN l = -1 := by
  have : l.findIdx? (fun n => !mayN n) = none := by
    rw [List.findIdx?_eq_none_iff]
    intro x hx; show (!mayN x) = false; rw [hb x hx]; rfl
  simp [idxN, this]

theorem slices_IndexFunc_con (l : List Int) (hb : l.length ≤ 10000000000000) : Con Try.prog 59 [.c (.sl (l.map nrow)), .c (.fn 55 [])] [] (I (idxN l)) [] := by
  refine C_slices_IndexFunc_int_int (Nat.le_of_ble_eq_true rfl) (Nat.le_of_ble_eq_true rfl) ?_
  simp only [A_slices_IndexFunc_int_int, argL, objL, List.length_nil, Nat.zero_add, x_seq]
  refine aw_reg 16 (RG.go fun Q hQ => ?_)
  simp only [RX, eff, ev_k, setS_cons, setS_nil, AOp.isCall, setD, setEs, presOf, AOp.needs, idsOf, AOp.rds, List.map_nil, List.nil_append, true_and, Bool.false_eq_true, reduceCtorEq, Nat.reduceAdd, Nat.reduceEqDiff, ↓reduceIte]
  refine hQ _ _ _ _ _ (RG.nil ?_)
  simp only [x_seq, x_tn]
  refine aw_reg 160 (RG.go fun Q hQ => ?_)
  simp only [RX, eff, ev_t, ev_k, lk_cons, setS_cons, setS_nil, AOp.isCall, setD, setEs, presOf, AOp.needs, SV.one?, SV.pre, idsOf, AOp.rds, AOp.ops, SV.ids, C.ids0, rowsOf, List.map_nil, List.nil_append, true_and, and_self, Bool.false_eq_true, reduceCtorEq, Nat.reduceAdd, Nat.reduceEqDiff, ↓reduceIte, Option.bind_some, List.append_nil]
  refine hQ _ _ _ _ _ (RG.nil ?_)
  simp only [x_block, x_tn]
  refine aw_loop (X := { i : Nat // i ≤ l.length ∧ ∀ j (h : j < l.length), j < i → mayN l[j] = true }) (fun i => mkSt [(0, .c (.sl (l.map nrow))), (1, .c (.fn 55 [])), (7, I l.length), (8, I i.1)] []) (fun i => l.length - i.1) ⟨0, Nat.zero_le _, fun j _ h => by omega⟩ ?_ ?_
  · refine Le.lit [] [] _ _ ?_ ?_ ?_ ?_
    · skip
      simp only [Int.cast_ofNat_Int, allL, lk_cons, lkE_nil, WkSV, WkSV1, WkC, WkC0, TrL, rlook, frzEs, Nat.reduceEqDiff, ↓reduceIte, reduceCtorEq, true_and, and_true, ne_eq, not_true_eq_false]
      simp
    · skip
      simp only [allL]
    · simp
    · simp
  rintro ⟨i, hi, hall⟩
  simp only [x_seq]
  refine aw_reg 320 (RG.go fun Q hQ => ?_)
  simp only [RX, eff, ev_t, lk_cons, setS_cons, setS_nil, AOp.isCall, setD, setEs, presOf, AOp.needs, SV.one?, SV.pre, binV, idsOf, AOp.rds, AOp.ops, SV.ids, C.ids0, Option.map_some, List.map_nil, List.nil_append, true_and, and_self, Bool.false_eq_true, reduceCtorEq, Nat.reduceAdd, Nat.reduceEqDiff, ↓reduceIte, List.append_nil]
  refine hQ _ _ _ _ _ (RG.nil ?_)
  simp only [x_seq, x_tn]
  refine aw_cond _ rfl trivial (fun ht => ?_) (fun hf => ?_)
  · have hi' : i < l.length := by simpa using ht
    have hr : (List.map nrow l)[(i : Int).toNat]?.getD [] = [.v (.int .i64 l[i])] := by simp [hi', nrow]
    simp only [x_seq, x_block, x_skip, x_tn]
    refine aw_reg 480 (RG.go fun Q hQ => ?_)
    simp only [RX, eff, ev_t, lk_cons, setS_cons, setS_nil, AOp.isCall, setD, setEs, presOf, AOp.needs, idsOf, AOp.rds, List.map_nil, List.nil_append, true_and, Bool.false_eq_true, reduceCtorEq, Nat.reduceAdd, Nat.reduceEqDiff, ↓reduceIte]
    refine hQ _ _ _ _ _ (RG.nil ?_)
    simp only [x_seq, x_tn]
    refine aw_reg 640 (RG.go fun Q hQ => ?_)
    simp only [RX, eff, ev_t, lk_cons, setS_cons, setS_nil, AOp.isCall, setD, setEs, presOf, AOp.needs, SV.one?, SV.pre, idsOf, AOp.rds, AOp.ops, SV.ids, C.ids0, Option.getD_some, List.length_cons, List.length_nil, List.getElem?_cons_zero, List.map_nil, List.nil_append, and_true, true_and, and_self, Bool.false_eq_true, reduceCtorEq, Nat.reduceAdd, Nat.reduceEqDiff, Nat.reduceLT, ↓reduceIte, Nat.zero_add, List.append_nil, C_default, hr]
    refine ⟨by simp; omega, hQ _ _ _ _ _ ?_⟩
    refine RG.callv [] rfl trivial (conf_Of_1_con l[i]) (tr_cons tr_v tr_nil) trivial (.inl trivial) ?_
    refine RG.go fun Q hQ => ?_
    simp only [RX, setS_cons, setS_nil, setD, reduceCtorEq, Nat.reduceAdd, Nat.reduceEqDiff, ↓reduceIte]
    refine hQ _ _ _ _ _ (RG.nil ?_)
    simp only [x_tn]
    refine aw_cond _ rfl trivial (fun ht => ?_) (fun hf => ?_)
    · have hm : mayN l[i] = false := by simpa using ht
      rw [idxN_hit hi' hm fun j hj => hall j (by omega) hj]
      simp only [x_seq]
      refine aw_reg 800 (RG.go fun Q hQ => ?_)
      simp only [RX, eff, ev_t, lk_cons, setS_cons, setS_nil, AOp.isCall, setD, setEs, presOf, AOp.needs, idsOf, AOp.rds, List.map_nil, List.nil_append, true_and, Bool.false_eq_true, reduceCtorEq, Nat.reduceAdd, Nat.reduceEqDiff, ↓reduceIte]
      refine hQ _ _ _ _ _ (RG.nil ?_)
      simp only [x_ret, x_tn, x_tr, x_br, x_lr]
      exact Fin.scalar (.inr rfl) rfl trivial rfl trivial
    have hm : mayN l[i] = true := by simpa using hf
    simp only [x_skip, x_tn, x_bn]
    refine aw_reg 800 (RG.go fun Q hQ => ?_)
    simp only [RX, eff, ev_t, ev_k, lk_cons, setS_cons, setS_nil, AOp.isCall, setD, setEs, presOf, AOp.needs, SV.one?, SV.pre, binV, idsOf, AOp.rds, AOp.ops, SV.ids, C.ids0, Option.map_some, List.map_nil, List.nil_append, true_and, and_self, Bool.false_eq_true, reduceCtorEq, Nat.reduceAdd, Nat.reduceEqDiff, ↓reduceIte, List.append_nil]
    refine hQ _ _ _ _ _ (RG.nil ?_)
    simp only [x_ln]
    refine ⟨⟨i + 1, hi', fun j h hj => ?_⟩, ?_, by simp; omega⟩
    · rcases Nat.lt_or_ge j i with h1 | h1
      · exact hall j h h1
      · have : j = i := by omega
        subst this; exact hm
    refine Le.lit [] [] _ _ ?_ ?_ ?_ ?_
    · skip
      simp only [allL, lk_cons, lkE_nil, WkSV, WkSV1, WkC, WkC0, TrL, rlook, frzEs, Nat.reduceEqDiff, ↓reduceIte, reduceCtorEq, true_and, and_true, ne_eq, not_true_eq_false]
      rw [w64 _ (by omega) (by omega)]; rfl
    · skip
      simp only [allL]
    · simp
    · simp
  have hi' : i = l.length := by simp at hf; omega
  subst hi'
  rw [idxN_miss fun n hn => by obtain ⟨j, hj, rfl⟩ := List.mem_iff_getElem.1 hn; exact hall j hj hj]
  simp only [x_seq, x_exit, x_tn, x_tx, x_bx, x_lx, ↓reduceIte]
  refine aw_reg 480 (RG.go fun Q hQ => ?_)
  simp only [RX, eff, ev_k, setS_cons, setS_nil, AOp.isCall, setD, setEs, presOf, AOp.needs, idsOf, AOp.rds, List.map_nil, List.nil_append, true_and, Bool.false_eq_true, reduceCtorEq, Nat.reduceAdd, Nat.reduceEqDiff, Int.reduceNeg, ↓reduceIte]
  refine hQ _ _ _ _ _ (RG.nil ?_)
  simp only [x_ret, x_tn]
  exact Fin.scalar (.inr rfl) rfl trivial rfl trivial


theorem idxN_cases (l : List Int) : (idxN l = -1 ∧ ∀ n ∈ l, mayN n = true) ∨ ∃ i, ∃ h : i < l.length, idxN l = (i : Nat) ∧ mayN l[i] = false ∧ ∀ j (h : j < i), mayN (l[j]'(by omega)) = true := by
  unfold idxN
  cases hf : l.findIdx? (fun n => !mayN n) with
  | none =>
    refine .inl ⟨rfl, fun n hn => ?_⟩
    rw [List.findIdx?_eq_none_iff] at hf
    simpa using hf n hn
  | some i =>
    rw [List.findIdx?_eq_some_iff_getElem] at hf
    obtain ⟨h1, h2, h3⟩ := hf
    exact .inr ⟨i, h1, rfl, by simpa using h2, fun j hj => by simpa using h3 j hj⟩

theorem filter_lt (l : List Int) (i j : Nat) (hi : i < l.length) (hm : mayN l[i] = false) (hj : i < j) (hjl : j ≤ l.length) : ((l.take j).filter mayN).length < j := by
  have h : ((l.take j).filter mayN).length < (l.take j).length := by
    rw [List.length_filter_lt_length_iff_exists]
    exact ⟨l[i], List.mem_of_getElem? (i := i) (by rw [List.getElem?_take, if_pos hj]; exact List.getElem?_eq_getElem hi), by simp [hm]⟩
  simp at h; omega

theorem filter_first (l : List Int) (i0 : Nat) (hi0 : i0 < l.length) (h2 : mayN l[i0] = false) (h3 : ∀ j (h : j < i0), mayN (l[j]'(by omega)) = true) : (l.take (i0 + 1)).filter mayN = l.take i0 := by
  rw [take_one l i0 hi0, List.filter_append]
  have e1 : (l.take i0).filter mayN = l.take i0 := List.filter_eq_self.2 fun n hn => by
    obtain ⟨j, hj, rfl⟩ := List.mem_iff_getElem.1 hn
    simp at hj
    rw [List.getElem_take]; exact h3 j (by omega)
  simp [e1, h2]

theorem filter_next (l : List Int) (j : Nat) (hj : j < l.length) : (l.take (j + 1)).filter mayN = (l.take j).filter mayN ++ if mayN l[j] then [l[j]] else [] := by
  rw [take_one l j hj, List.filter_append]
  cases h : mayN l[j] <;> simp [h]

theorem set_take {α : Type} (l : List α) (i : Nat) (x : α) (hi : i < l.length) : (l.set i x).take (i + 1) = l.take i ++ [x] := by
  rw [List.take_set, take_one l i hi, List.set_append, if_neg (by rw [List.length_take]; omega), List.length_take, Nat.min_eq_left (by omega), Nat.sub_self]
  simp

theorem drop_get {α : Type} {l m : List α} {j : Nat} (h : l.drop j = m.drop j) : l[j]? = m[j]? := by
  have := congrArg (fun k => k[0]?) h
  simpa using this

theorem slices_DeleteFunc_con (l : List Int) (hb : l.length ≤ 10000000000000) : Con Try.prog 53 [.c (.osl 0), .c (.fn 55 [])] [.arr 3 1 (l.map nrow) false] (.c (.osl 1)) [.gone, .arr 3 1 ((l.filter mayN).map nrow) false] := by
  refine C_slices_DeleteFunc_int_int (Nat.le_of_ble_eq_true rfl) (Nat.le_of_ble_eq_true rfl) ?_
  simp only [A_slices_DeleteFunc_int_int, argL, objL, List.length_nil, List.length_cons, Nat.zero_add, x_seq]
  refine aw_reg 16 (RG.go fun Q hQ => ?_)
  simp only [RX, eff, ev_k, setS_cons, setS_nil, AOp.isCall, setD, setEs, presOf, AOp.needs, idsOf, AOp.rds, List.map_nil, List.nil_append, true_and, Bool.false_eq_true, reduceCtorEq, Nat.reduceAdd, Nat.reduceEqDiff, ↓reduceIte]
  refine hQ _ _ _ _ _ (RG.nil ?_)
  simp only [x_seq, x_tn]
  refine aw_reg 160 (RG.go fun Q hQ => ?_)
  simp only [RX, eff, ev_t, lk_cons, setS_cons, setS_nil, AOp.isCall, setD, setEs, presOf, AOp.needs, idsOf, AOp.rds, List.map_nil, List.nil_append, true_and, Bool.false_eq_true, reduceCtorEq, Nat.reduceAdd, Nat.reduceEqDiff, ↓reduceIte]
  refine hQ _ _ _ _ _ ?_
  refine RG.call [0] (slices_IndexFunc_con l hb) (tr_cons (tr_view (by simp) rfl (drows_nrow _)) (tr_cons ⟨rfl, trivial⟩ tr_nil)) (views1 rfl trivial) (.inl trivial) ?_
  refine RG.go fun Q hQ => ?_
  simp only [RX, eff, ev_t, lk_cons, setS_cons, setS_nil, AOp.isCall, setD, setEs, presOf, AOp.needs, idsOf, AOp.rds, List.map_nil, List.nil_append, true_and, Bool.false_eq_true, reduceCtorEq, Nat.reduceAdd, Nat.reduceEqDiff, ↓reduceIte]
  refine hQ _ _ _ _ _ (RG.nil ?_)
  simp only [x_seq, x_tn]
  refine aw_reg 320 (RG.go fun Q hQ => ?_)
  simp only [RX, eff, ev_t, ev_k, lk_cons, setS_cons, setS_nil, AOp.isCall, setD, setEs, presOf, AOp.needs, SV.one?, SV.pre, binV, idsOf, AOp.rds, AOp.ops, SV.ids, C.ids0, Option.map_some, List.map_nil, List.nil_append, true_and, and_self, Bool.false_eq_true, reduceCtorEq, Nat.reduceAdd, Nat.reduceEqDiff, Int.reduceNeg, ↓reduceIte, List.append_nil]
  refine hQ _ _ _ _ _ (RG.nil ?_)
  simp only [x_tn]
  refine aw_cond _ rfl trivial (fun ht => ?_) (fun hf => ?_)
  · rcases idxN_cases l with ⟨h1, h2⟩ | ⟨i, _, h1, _⟩
    rotate_left
    · exfalso; rw [h1] at ht; simp at ht
    simp only [x_seq]
    refine aw_reg 480 (RG.go fun Q hQ => ?_)
    simp only [RX, eff, ev_t, lk_cons, setS_cons, setS_nil, AOp.isCall, setD, setEs, presOf, AOp.needs, idsOf, AOp.rds, List.map_nil, List.nil_append, true_and, Bool.false_eq_true, reduceCtorEq, Nat.reduceAdd, Nat.reduceEqDiff, Int.reduceNeg, ↓reduceIte]
    refine hQ _ _ _ _ _ (RG.nil ?_)
    simp only [x_ret, x_tn, x_tr]
    have : l.filter mayN = l := List.filter_eq_self.2 h2
    rw [this]
    exact Fin.moved (.inr rfl) rfl trivial rfl (drows_nrow _)
  rcases idxN_cases l with ⟨h1, _⟩ | ⟨i0, hi0, h1, h2, h3⟩
  · exfalso; rw [h1] at hf; simp at hf
  have hw : IntKind.i64.wrap ((i0 : Int) + 1) = ((i0 + 1 : Nat) : Int) := by rw [w64 _ (by omega) (by omega)]; rfl
  rw [h1]
  simp only [x_seq, x_skip, x_tn]
  refine aw_reg 480 (RG.go fun Q hQ => ?_)
  simp only [RX, eff, ev_t, ev_k, lk_cons, setS_cons, setS_nil, AOp.isCall, setD, setEs, presOf, AOp.needs, SV.one?, SV.pre, binV, idsOf, AOp.rds, AOp.ops, SV.ids, C.ids0, Option.map_some, List.map_nil, List.nil_append, true_and, and_self, Bool.false_eq_true, reduceCtorEq, Nat.reduceAdd, Nat.reduceEqDiff, Int.reduceNeg, ↓reduceIte, List.append_nil, hw]
  refine hQ _ _ _ _ _ (RG.nil ?_)
  simp only [x_block, x_tn]
  refine aw_loop (X := { p : Nat × List Int // p.1 ≤ l.length ∧ i0 < p.1 ∧ p.2.length = l.length ∧ p.2.drop p.1 = l.drop p.1 ∧ p.2.take ((l.take p.1).filter mayN).length = (l.take p.1).filter mayN }) (fun p => mkSt [(0, .c (.osl 0)), (1, .c (.fn 55 [])), (5, I (((l.take p.1.1).filter mayN).length : Nat)), (6, I p.1.1)] [(0, .arr 3 1 (p.1.2.map nrow) false)]) (fun p => l.length - p.1.1) ⟨(i0 + 1, l), ?_⟩ ?_ ?_
  · have hft := filter_first l i0 hi0 h2 h3
    refine ⟨by omega, by omega, rfl, rfl, ?_⟩
    simp only [hft]
    congr 1
    simp; omega
  · refine Le.lit [] [] _ _ ?_ ?_ ?_ ?_
    · skip
      simp only [allL, lk_cons, lkE_cons, lkE_nil, WkSV, WkSV1, WkC, WkC0, TrL, rlook, frzEs, Nat.reduceEqDiff, ↓reduceIte, reduceCtorEq, true_and, and_true, ne_eq, not_false_eq_true]
      have hft := filter_first l i0 hi0 h2 h3
      rw [hft]
      simp; omega
    · skip
      simp only [allL, lkE_cons, lkE_nil, WkEnt, rlook, frzEs, isDRows, Option.some.injEq, ↓reduceIte, reduceCtorEq, true_and, and_true, exists_eq_left', ne_eq, true_or]
      exact drows_nrow _
    · simp
    · simp [rlook]
  rintro ⟨⟨j, cur⟩, hj, hij, hlen, hdr, htk⟩
  simp only at hj hij hlen hdr htk
  simp only [x_seq]
  refine aw_reg 640 (RG.go fun Q hQ => ?_)
  simp only [RX, eff, ev_t, lk_cons, lkE_cons, setS_cons, setS_nil, AOp.isCall, setD, setEs, presOf, AOp.needs, SV.one?, SV.pre, binV, idsOf, AOp.rds, AOp.ops, SV.ids, C.ids0, rowsOf, Option.map_some, List.map_nil, List.nil_append, List.cons_append, true_and, and_self, Bool.false_eq_true, reduceCtorEq, Nat.reduceAdd, Nat.reduceEqDiff, ↓reduceIte, Option.bind_some, List.append_nil]
  refine hQ _ _ _ _ _ (RG.nil ?_)
  simp only [x_tn]
  have hfl := filter_lt l i0 j hi0 h2 hij hj
  refine aw_cond _ rfl trivial (fun ht => ?_) (fun hf => ?_)
  · have hj' : j < l.length := by simp [hlen] at ht; omega
    have hcj : cur[j]? = some l[j] := by rw [drop_get hdr]; exact List.getElem?_eq_getElem hj'
    have hr : (List.map nrow cur)[(j : Int).toNat]?.getD [] = [.v (.int .i64 l[j])] := by simp [hcj, nrow]
    have hnx := filter_next l j hj'
    simp only [x_seq, x_block, x_skip, x_tn]
    refine aw_reg 800 (RG.go fun Q hQ => ?_)
    simp only [RX, eff, ev_t, lk_cons, lkE_cons, setS_cons, setS_nil, AOp.isCall, setD, setEs, presOf, AOp.needs, SV.one?, SV.pre, idsOf, AOp.rds, AOp.ops, SV.ids, C.ids0, Option.getD_some, List.getElem?_cons_zero, List.map_nil, List.nil_append, List.cons_append, and_true, true_and, and_self, Bool.false_eq_true, reduceCtorEq, Nat.reduceAdd, Nat.reduceEqDiff, Nat.reduceLT, ↓reduceIte, List.append_nil, C_default, hr]
    refine ⟨by simp; omega, by simp; omega, hQ _ _ _ _ _ (RG.nil ?_)⟩
    simp only [x_seq, x_tn]
    refine aw_reg 960 (RG.go fun Q hQ => ?_)
    simp only [RX, eff, ev_t, lk_cons, setS_cons, setS_nil, AOp.isCall, setD, setEs, presOf, AOp.needs, idsOf, AOp.rds, List.map_nil, List.nil_append, true_and, Bool.false_eq_true, reduceCtorEq, Nat.reduceAdd, Nat.reduceEqDiff, ↓reduceIte]
    refine hQ _ _ _ _ _ ?_
    refine RG.callv [] rfl trivial (conf_Of_1_con l[j]) (tr_cons tr_v tr_nil) trivial (.inl trivial) ?_
    refine RG.go fun Q hQ => ?_
    simp only [RX, eff, ev_t, lk_cons, setS_cons, setS_nil, AOp.isCall, setD, setEs, presOf, AOp.needs, SV.one?, SV.pre, unV, idsOf, AOp.rds, AOp.ops, SV.ids, C.ids0, Option.map_some, List.map_nil, List.nil_append, true_and, and_self, Bool.false_eq_true, reduceCtorEq, Nat.reduceAdd, Nat.reduceEqDiff, ↓reduceIte, List.append_nil]
    refine hQ _ _ _ _ _ (RG.nil ?_)
    simp only [x_tn]
    have hic : ((l.take j).filter mayN).length < cur.length := by omega
    refine aw_cond _ rfl trivial (fun ht2 => ?_) (fun hf2 => ?_)
    · have hm : mayN l[j] = true := by simpa using ht2
      rw [hm, if_pos rfl] at hnx
      have hr2 : (List.map nrow cur)[(((l.take j).filter mayN).length : Int).toNat]?.getD [] = [.v (.int .i64 cur[((l.take j).filter mayN).length])] := by simp [hic, nrow]
      simp only [x_seq]
      refine aw_reg 1120 (RG.go fun Q hQ => ?_)
      simp only [RX, eff, ev_t, lk_cons, lkE_cons, setS_cons, setS_nil, setE_cons, AOp.isCall, setD, setEs, presOf, AOp.needs, SV.one?, SV.pre, SV.cells, idsOf, AOp.rds, AOp.ops, SV.ids, C.ids0, splice, List.take_zero, List.drop_succ_cons, List.drop_zero, List.length_cons, List.length_nil, List.map_cons, List.map_nil, List.nil_append, List.cons_append, and_true, true_and, and_self, Bool.false_eq_true, reduceCtorEq, Nat.reduceAdd, Nat.reduceEqDiff, ↓reduceIte, Nat.zero_add, Nat.le_refl, List.append_nil, hr2]
      refine ⟨by simp; omega, by simp; omega, hQ _ _ _ _ _ (RG.nil ?_)⟩
      simp only [x_tn]
      refine aw_reg 1280 (RG.go fun Q hQ => ?_)
      simp only [RX, eff, ev_t, ev_k, lk_cons, setS_cons, setS_nil, AOp.isCall, setD, setEs, presOf, AOp.needs, SV.one?, SV.pre, binV, idsOf, AOp.rds, AOp.ops, SV.ids, C.ids0, Option.map_some, List.map_nil, List.nil_append, true_and, and_self, Bool.false_eq_true, reduceCtorEq, Nat.reduceAdd, Nat.reduceEqDiff, ↓reduceIte, List.append_nil]
      refine hQ _ _ _ _ _ (RG.nil ?_)
      simp only [x_tn, x_bn]
      refine aw_reg 1440 (RG.go fun Q hQ => ?_)
      simp only [RX, eff, ev_t, ev_k, lk_cons, setS_cons, setS_nil, AOp.isCall, setD, setEs, presOf, AOp.needs, SV.one?, SV.pre, binV, idsOf, AOp.rds, AOp.ops, SV.ids, C.ids0, Option.map_some, List.map_nil, List.nil_append, true_and, and_self, Bool.false_eq_true, reduceCtorEq, Nat.reduceAdd, Nat.reduceEqDiff, ↓reduceIte, List.append_nil]
      refine hQ _ _ _ _ _ (RG.nil ?_)
      simp only [x_ln]
      refine ⟨⟨(j + 1, cur.set ((l.take j).filter mayN).length l[j]), by omega, by simp only; omega, by simp [hlen], ?_, ?_⟩, ?_, by simp only; omega⟩
      · simp only
        rw [List.drop_set_of_lt (by omega)]
        have := congrArg (List.drop 1) hdr
        simpa using this
      · simp only [hnx]
        rw [List.length_append, List.length_singleton, set_take cur _ _ hic, htk]
      refine Le.lit [] [] _ _ ?_ ?_ ?_ ?_
      · skip
        simp only [allL, lk_cons, lkE_cons, lkE_nil, WkSV, WkSV1, WkC, WkC0, TrL, rlook, frzEs, Nat.reduceEqDiff, ↓reduceIte, reduceCtorEq, true_and, and_true, ne_eq, not_false_eq_true]
        exact ⟨by rw [hnx, w64 _ (by omega) (by omega), List.length_append]; rfl, by rw [w64 _ (by omega) (by omega)]; rfl⟩
      · skip
        simp only [allL, lkE_cons, lkE_nil, WkEnt, rlook, frzEs, isDRows, Option.some.injEq, ↓reduceIte, reduceCtorEq, true_and, and_true, exists_eq_left', ne_eq, true_or]
        exact ⟨by rw [List.map_set]; simp [nrow], drows_nrow _⟩
      · simp
      · simp [rlook]
    have hm : mayN l[j] = false := by simpa using hf2
    rw [hm] at hnx
    simp only [x_skip, x_tn, x_bn]
    refine aw_reg 1120 (RG.go fun Q hQ => ?_)
    simp only [RX, eff, ev_t, ev_k, lk_cons, setS_cons, setS_nil, AOp.isCall, setD, setEs, presOf, AOp.needs, SV.one?, SV.pre, binV, idsOf, AOp.rds, AOp.ops, SV.ids, C.ids0, Option.map_some, List.map_nil, List.nil_append, true_and, and_self, Bool.false_eq_true, reduceCtorEq, Nat.reduceAdd, Nat.reduceEqDiff, ↓reduceIte, List.append_nil]
    refine hQ _ _ _ _ _ (RG.nil ?_)
    simp only [x_ln]
    refine ⟨⟨(j + 1, cur), by omega, by simp only; omega, hlen, ?_, ?_⟩, ?_, by simp only; omega⟩
    · have := congrArg (List.drop 1) hdr
      simpa using this
    · simp only [hnx]; simpa using htk
    refine Le.lit [] [] _ _ ?_ ?_ ?_ ?_
    · skip
      simp only [allL, lk_cons, lkE_cons, lkE_nil, WkSV, WkSV1, WkC, WkC0, TrL, rlook, frzEs, Nat.reduceEqDiff, ↓reduceIte, reduceCtorEq, true_and, and_true, ne_eq, not_false_eq_true]
      exact ⟨by rw [hnx]; simp, by rw [w64 _ (by omega) (by omega)]; rfl⟩
    · skip
      simp only [allL, lkE_cons, lkE_nil, WkEnt, rlook, frzEs, isDRows, Option.some.injEq, ↓reduceIte, reduceCtorEq, true_and, and_true, exists_eq_left', ne_eq, true_or]
      exact drows_nrow _
    · simp
    · simp [rlook]
  have hj' : j = l.length := by simp [hlen] at hf; omega
  subst hj'
  rw [List.take_length] at htk hfl
  have hne : List.map nrow cur ≠ [] := by intro h; have := congrArg List.length h; simp at this; rw [this] at hlen; simp at hlen; omega
  simp only [x_seq, x_exit, x_tn, x_tx, x_bx, x_lx, ↓reduceIte]
  refine aw_reg 801 (RG.go fun Q hQ => ?_)
  simp only [RX, eff, keepTo, Nat.reduceMod, ev_t, lk_cons, lkE_cons, setS_cons, setS_nil, setE_cons, AOp.isCall, setD, setEs, presOf, AOp.needs, SV.one?, SV.pre, idsOf, AOp.rds, AOp.ops, SV.ids, C.ids0, bnd', List.map_cons, List.map_nil, List.nil_append, List.cons_append, true_and, and_self, Bool.false_eq_true, reduceCtorEq, Nat.reduceAdd, Nat.reduceEqDiff, ↓reduceIte, List.append_nil, Option.toList_some, Option.toList_none, List.take_length]
  refine ⟨⟨by omega, by simp; omega, hne⟩, by simp; omega, hQ _ _ _ _ _ (RG.nil ?_)⟩
  simp only [x_seq, x_tn]
  refine aw_reg 1001 (RG.go fun Q hQ => ?_)
  simp only [RX, eff, keepTo, Nat.reduceMod, ev_t, lk_cons, lkE_cons, lkE_nil, setS_cons, setS_nil, setE_cons, setE_nil, AOp.isCall, setD, setEs, presOf, AOp.needs, SV.one?, SV.pre, idsOf, AOp.rds, AOp.ops, SV.ids, C.ids0, bnd', List.map_cons, List.map_nil, List.nil_append, List.cons_append, true_and, and_self, Bool.false_eq_true, reduceCtorEq, Nat.reduceAdd, Nat.reduceEqDiff, ↓reduceIte, List.append_nil, Option.toList_some, Option.toList_none]
  refine ⟨⟨by omega, by simp; omega⟩, hQ _ _ _ _ _ (RG.nil ?_)⟩
  simp only [x_ret, x_tn]
  refine Fin.objs [] [(1, 1033)] (.inr rfl) rfl (by first | exact trivial | exact ⟨trivial, trivial⟩ | exact ⟨trivial, trivial, trivial⟩) ?_ ?_ (by simp [objL, rlook]) (by simp [objL, rlook])
  · simp only [mkSt_sl, lk_cons, lkE_cons, lkE_nil, WkSV, WkSV1, WkC, WkC0, rlook, frzEs, objL, Nat.zero_add, Nat.reduceEqDiff, ↓reduceIte, reduceCtorEq, and_true, ne_eq, not_false_eq_true]
  · simp only [allL, lkE_cons, lkE_nil, WkEnt, rlook, frzEs, objL, isDRows, Option.some.injEq, Nat.zero_add, ↓reduceIte, reduceCtorEq, true_and, and_true, exists_eq_left', ne_eq, true_or]
    exact ⟨by simp; rw [List.take_append_of_le_length (by simp; omega), ← List.map_take, htk, List.take_of_length_le (by simp)], drows_nrow _⟩

end Go.Abs
namespace Go.Abs
open Go Go.Proofs
set_option maxRecDepth 100000
set_option linter.unusedSimpArgs false

def ins (x : Int) : List Int → List Int
  | [] => [x]
  | y :: r => if x ≤ y then x :: y :: r else y :: ins x r

def isort : List Int → List Int
  | [] => []
  | x :: r => ins x (isort r)

theorem ins_perm (x : Int) : ∀ l, (ins x l).Perm (x :: l)
  | [] => .refl _
  | y :: r => by
    unfold ins
    split
    · exact .refl _
    · exact ((ins_perm x r).cons y).trans (List.Perm.swap x y r)

theorem isort_perm : ∀ l, (isort l).Perm l
  | [] => .refl _
  | x :: r => (ins_perm x _).trans ((isort_perm r).cons x)

theorem ins_sorted (x : Int) : ∀ l, l.Pairwise (· ≤ ·) → (ins x l).Pairwise (· ≤ ·)
  | [], _ => by simp [ins]
  | y :: r, h => by
    rw [List.pairwise_cons] at h
    unfold ins
    split
    · rename_i hxy
      rw [List.pairwise_cons, List.pairwise_cons]
      exact ⟨fun z hz => by
        rcases List.mem_cons.1 hz with rfl | hz
        · exact hxy
        · exact Int.le_trans hxy (h.1 z hz), h⟩
    · rename_i hxy
      rw [List.pairwise_cons]
      refine ⟨fun z hz => ?_, ins_sorted x r h.2⟩
      rcases List.mem_cons.1 ((ins_perm x r).mem_iff.1 hz) with rfl | hz
      · omega
      · exact h.1 z hz

theorem isort_sorted : ∀ l, (isort l).Pairwise (· ≤ ·)
  | [] => .nil
  | x :: r => ins_sorted x _ (isort_sorted r)

theorem sorted_eq : ∀ {l m : List Int}, l.Perm m → l.Pairwise (· ≤ ·) → m.Pairwise (· ≤ ·) → l = m
  | [], m, h, _, _ => by have := h.length_eq; cases m with | nil => rfl | cons => simp at this
  | x :: l, [], h, _, _ => by have := h.length_eq; simp at this
  | x :: l, y :: m, h, hl, hm => by
    rw [List.pairwise_cons] at hl hm
    have h1 : x = y := by
      have hx : x ∈ y :: m := h.mem_iff.1 (by simp)
      have hy : y ∈ x :: l := h.mem_iff.2 (by simp)
      rcases List.mem_cons.1 hx with e | hx
      · exact e
      · rcases List.mem_cons.1 hy with e | hy
        · exact e.symm
        · have := hm.1 x hx; have := hl.1 y hy; omega
    subst h1
    rw [sorted_eq (List.Perm.cons_inv h) hl.2 hm.2]

theorem isort_unique {l m : List Int} (h : m.Perm l) (hs : m.Pairwise (· ≤ ·)) : m = isort l := sorted_eq (h.trans (isort_perm l).symm) hs (isort_sorted l)

theorem cmp_isNaN_con (n : Int) : Con Try.prog 78 [I n] [] (B false) [] := by
  refine C_cmp_isNaN_int (Nat.le_of_ble_eq_true rfl) (Nat.le_of_ble_eq_true rfl) ?_
  simp only [A_cmp_isNaN_int, argL, objL, List.length_nil, x_seq]
  refine aw_reg 16 (RG.go fun Q hQ => ?_)
  simp only [RX, eff, ev_k, setS_cons, setS_nil, AOp.isCall, setD, setEs, presOf, AOp.needs, idsOf, AOp.rds, List.map_nil, List.nil_append, true_and, Bool.false_eq_true, reduceCtorEq, Nat.reduceAdd, ↓reduceIte]
  refine hQ _ _ _ _ _ (RG.nil ?_)
  simp only [x_seq, x_tn]
  refine aw_reg 160 (RG.go fun Q hQ => ?_)
  simp only [RX, eff, ev_t, lk_cons, setS_cons, setS_nil, AOp.isCall, setD, setEs, presOf, AOp.needs, SV.one?, SV.pre, binV, idsOf, AOp.rds, AOp.ops, SV.ids, C.ids0, Option.map_some, List.map_nil, List.nil_append, true_and, and_self, Bool.false_eq_true, reduceCtorEq, Nat.reduceAdd, Nat.reduceEqDiff, ↓reduceIte, List.append_nil]
  refine hQ _ _ _ _ _ (RG.nil ?_)
  simp only [x_ret, x_tn]
  exact Fin.b (.inr rfl) rfl trivial (by simp)

theorem cmp_Less_con (a b : Int) : Con Try.prog 68 [I a, I b] [] (B (decide (a < b))) [] := by
  refine C_cmp_Less_int (Nat.le_of_ble_eq_true rfl) (Nat.le_of_ble_eq_true rfl) ?_
  simp only [A_cmp_Less_int, argL, objL, List.length_nil, Nat.zero_add, x_seq]
  refine aw_reg 16 (RG.go fun Q hQ => ?_)
  simp only [RX, eff, ev_k, setS_cons, setS_nil, AOp.isCall, setD, setEs, presOf, AOp.needs, idsOf, AOp.rds, List.map_nil, List.nil_append, true_and, Bool.false_eq_true, reduceCtorEq, Nat.reduceAdd, Nat.reduceEqDiff, ↓reduceIte]
  refine hQ _ _ _ _ _ (RG.nil ?_)
  simp only [x_seq, x_tn]
  refine aw_reg 160 (RG.go fun Q hQ => ?_)
  simp only [RX, eff, ev_t, lk_cons, setS_cons, setS_nil, AOp.isCall, setD, setEs, presOf, AOp.needs, idsOf, AOp.rds, List.map_nil, List.nil_append, true_and, Bool.false_eq_true, reduceCtorEq, Nat.reduceAdd, Nat.reduceEqDiff, ↓reduceIte]
  refine hQ _ _ _ _ _ ?_
  refine RG.call [] (cmp_isNaN_con a) (tr_cons tr_v tr_nil) (trivial) (.inl trivial) ?_
  refine RG.go fun Q hQ => ?_
  simp only [RX, eff, ev_t, lk_cons, setS_cons, setS_nil, AOp.isCall, setD, setEs, presOf, AOp.needs, gval, idsOf, AOp.rds, List.map_nil, List.nil_append, true_and, and_self, Bool.and_false, Bool.false_eq_true, beq_true, implies_true, reduceCtorEq, Nat.reduceAdd, Nat.reduceEqDiff, ↓reduceIte]
  refine hQ _ _ _ _ _ ?_
  refine RG.callg _ _ [] rfl (fun hg => ⟨_, cmp_isNaN_con b, tr_cons (tr_opt (by simpa using hg) tr_v) tr_nil, trivial, .inl trivial⟩) ?_
  refine RG.go fun Q hQ => ?_
  simp only [RX, eff, ev_t, ev_k, lk_cons, setS_cons, setS_nil, AOp.isCall, setD, setEs, presOf, AOp.needs, SV.one?, SV.pre, gval, binV, unV, idsOf, AOp.rds, AOp.ops, SV.ids, C.ids0, Option.map_some, List.map_nil, List.nil_append, and_true, true_and, and_self, Bool.and_true, Bool.and_false, Bool.false_eq_true, beq_true, Bool.not_false, implies_true, imp_self, reduceCtorEq, Nat.reduceAdd, Nat.reduceEqDiff, ↓reduceIte, BEq.rfl, List.append_nil]
  refine hQ _ _ _ _ _ (RG.nil ?_)
  simp only [x_ret, x_tn]
  exact Fin.b (.inr rfl) rfl trivial rfl

theorem cons_perm_mid {x : Int} {p t : List Int} : (p ++ x :: t).Perm (x :: (p ++ t)) := List.perm_middle

theorem slices_insertionSort_con (l : List Int) (hb : l.length ≤ 1000) : Con Try.prog 62 [.c (.osl 0), I 0, I l.length] [.arr 3 1 (l.map nrow) false] (.tup []) [.arr 3 1 ((isort l).map nrow) false] := by
  refine C_slices_insertionSortOrdered_int (Nat.le_of_ble_eq_true rfl) (Nat.le_of_ble_eq_true rfl) ?_
  simp only [A_slices_insertionSortOrdered_int, argL, objL, List.length_nil, List.length_cons, Nat.reduceAdd, Nat.zero_add, x_seq]
  refine aw_reg 16 (RG.go fun Q hQ => ?_)
  simp only [RX, eff, ev_t, ev_k, lk_cons, setS_cons, setS_nil, AOp.isCall, setD, setEs, presOf, AOp.needs, SV.one?, SV.pre, binV, idsOf, AOp.rds, AOp.ops, SV.ids, C.ids0, Option.map_some, List.map_nil, List.nil_append, true_and, and_self, Bool.false_eq_true, reduceCtorEq, Nat.reduceAdd, Nat.reduceEqDiff, Int.reduceAdd, ↓reduceIte, List.append_nil, (w64 1 (by decide) (by decide))]
  refine hQ _ _ _ _ _ (RG.nil ?_)
  simp only [x_block, x_tn]
  refine aw_loop (X := { p : Nat × List Int // p.2.Perm l ∧ (p.2.take p.1).Pairwise (· ≤ ·) ∧ p.1 ≤ 1 + l.length ∧ 1 ≤ p.1 }) (fun p => mkSt [(0, .c (.osl 0)), (1, I 0), (2, I l.length), (6, I p.1.1)] [(0, .arr 3 1 (p.1.2.map nrow) false)]) (fun p => 1 + l.length - p.1.1) ⟨(1, l), .refl _, ?_, by simp only; omega, by simp only; omega⟩ ?_ ?_
  · rcases l with _ | ⟨a, r⟩ <;> simp
  · refine Le.lit [] [] _ _ ?_ ?_ ?_ ?_
    · skip
      simp only [Int.cast_ofNat_Int, allL, lk_cons, lkE_cons, lkE_nil, WkSV, WkSV1, WkC, WkC0, rlook, frzEs, Nat.reduceEqDiff, ↓reduceIte, reduceCtorEq, and_true, ne_eq, not_false_eq_true]
    · skip
      simp only [allL, lkE_cons, lkE_nil, WkEnt, rlook, frzEs, isDRows, Option.some.injEq, ↓reduceIte, reduceCtorEq, true_and, and_true, exists_eq_left', ne_eq, true_or]
      exact drows_nrow _
    · simp
    · simp [rlook]
  rintro ⟨⟨i, cur⟩, hp, hs, hi, hi1⟩
  simp only at hp hs hi hi1
  have hlen := hp.length_eq
  simp only [x_seq]
  refine aw_reg 160 (RG.go fun Q hQ => ?_)
  simp only [RX, eff, ev_t, lk_cons, setS_cons, setS_nil, AOp.isCall, setD, setEs, presOf, AOp.needs, SV.one?, SV.pre, binV, idsOf, AOp.rds, AOp.ops, SV.ids, C.ids0, Option.map_some, List.map_nil, List.nil_append, true_and, and_self, Bool.false_eq_true, reduceCtorEq, Nat.reduceAdd, Nat.reduceEqDiff, ↓reduceIte, List.append_nil]
  refine hQ _ _ _ _ _ (RG.nil ?_)
  simp only [x_tn]
  refine aw_cond _ rfl trivial (fun ht => ?_) (fun hf => ?_)
  rotate_left
  · have hil : l.length ≤ i := by simp at hf; omega
    rw [List.take_of_length_le (by omega)] at hs
    have he := isort_unique hp hs
    simp only [x_exit, x_tx, x_bx, x_lx, ↓reduceIte]
    refine Fin.objs [] [] (.inl rfl) rfl trivial ?_ ?_ (by simp [objL, rlook]) (by simp [objL, rlook])
    · skip
      simp only [WkSV, TrL]
    · skip
      simp only [allL, lkE_cons, lkE_nil, WkEnt, rlook, frzEs, objL, isDRows, Option.some.injEq, ↓reduceIte, reduceCtorEq, true_and, and_true, exists_eq_left', ne_eq, true_or]
      exact ⟨by rw [he], drows_nrow _⟩
  have hil : i < l.length := by simp at ht; omega
  obtain ⟨x, hx⟩ : ∃ x, cur[i]? = some x := ⟨cur[i], List.getElem?_eq_getElem (by omega)⟩
  obtain ⟨s, r, hcur, hsl, hs'⟩ : ∃ s r, cur = s ++ x :: r ∧ s.length = i ∧ s.Pairwise (· ≤ ·) := by
    refine ⟨cur.take i, cur.drop (i + 1), ?_, by simp; omega, hs⟩
    have h1 := List.take_append_drop i cur
    rw [List.drop_eq_getElem_cons (by omega)] at h1
    rw [List.getElem?_eq_getElem (by omega)] at hx
    simp only [Option.some.injEq] at hx
    rw [hx] at h1; exact h1.symm
  simp only [x_seq, x_block, x_skip, x_tn]
  refine aw_reg 320 (RG.go fun Q hQ => ?_)
  simp only [RX, eff, ev_t, lk_cons, setS_cons, setS_nil, AOp.isCall, setD, setEs, presOf, AOp.needs, idsOf, AOp.rds, List.map_nil, List.nil_append, true_and, Bool.false_eq_true, reduceCtorEq, Nat.reduceAdd, Nat.reduceEqDiff, ↓reduceIte]
  refine hQ _ _ _ _ _ (RG.nil ?_)
  simp only [x_block, x_tn]
  refine aw_loop (X := { c : Nat × List Int // ∃ p q, c.2 = p ++ x :: (q ++ r) ∧ c.1 = p.length ∧ p.length + q.length = i ∧ (p ++ q).Pairwise (· ≤ ·) ∧ (∀ y ∈ q, x ≤ y) ∧ c.2.Perm l }) (fun c => mkSt [(0, .c (.osl 0)), (1, I 0), (2, I l.length), (6, I i), (7, I c.1.1)] [(0, .arr 3 1 (c.1.2.map nrow) false)]) (fun c => c.1.1) ⟨(i, cur), s, [], by simpa using hcur, hsl.symm, by simp [hsl], by simpa using hs', by simp, hp⟩ ?_ ?_
  · refine Le.lit [] [] _ _ ?_ ?_ ?_ ?_
    · skip
      simp only [allL, lk_cons, lkE_cons, lkE_nil, WkSV, WkSV1, WkC, WkC0, rlook, frzEs, Nat.reduceEqDiff, ↓reduceIte, reduceCtorEq, and_true, ne_eq, not_false_eq_true]
    · skip
      simp only [allL, lkE_cons, lkE_nil, WkEnt, rlook, frzEs, isDRows, Option.some.injEq, ↓reduceIte, reduceCtorEq, true_and, and_true, exists_eq_left', ne_eq, true_or]
      exact drows_nrow _
    · simp
    · simp [rlook]
  rintro ⟨⟨j, c⟩, p, q, hc, hj, hpq, hsd, hxq, hcp⟩
  simp only at hc hj hpq hcp
  have hcl : c.length = l.length := hcp.length_eq
  have hcx : c[j]? = some x := by rw [hc, hj]; simp
  have hr1 : (List.map nrow c)[(j : Int).toNat]?.getD [] = [.v (.int .i64 x)] := by simp [hcx, nrow]
  have htake : c.take (i + 1) = p ++ x :: q := by
    rw [hc, show p ++ x :: (q ++ r) = (p ++ x :: q) ++ r by simp]
    exact List.take_left' (by simp; omega)
  rcases List.eq_nil_or_concat p with rfl | ⟨p', y, rfl⟩
  · have hj0 : j = 0 := by simpa using hj
    subst hj0
    have hout : (c.take (i + 1)).Pairwise (· ≤ ·) := by
      rw [htake]
      simp only [List.nil_append, List.pairwise_cons]
      exact ⟨hxq, by simpa using hsd⟩
    simp only [x_seq]
    refine aw_draw 480 (RG.go fun Q hQ => ?_)
    simp only [RX, eff, ev_t, ev_k, lk_cons, lkE_cons, setS_cons, setS_nil, AOp.isCall, setD, setEs, presOf, AOp.needs, SV.one?, SV.pre, gval, binV, idsOf, AOp.rds, AOp.ops, SV.ids, C.ids0, Option.map_some, List.map_nil, List.nil_append, List.cons_append, and_true, true_and, and_self, Bool.and_false, Bool.false_eq_true, beq_true, implies_true, imp_self, false_implies, reduceCtorEq, gt_iff_lt, Nat.reduceAdd, Nat.reduceEqDiff, Nat.reduceLT, Int.reduceToNat, ↓reduceIte, List.append_nil, Int.cast_ofNat_Int, Int.reduceLE, C_default, decide_false, Int.lt_irrefl]
    refine hQ _ _ _ _ _ ?_
    refine RG.callg (res := B false) _ _ [] rfl (fun hg => absurd hg (by simp)) ?_
    refine RG.go fun Q hQ => ?_
    simp only [RX, eff, ev_t, ev_k, lk_cons, setS_cons, setS_nil, AOp.isCall, setD, setEs, presOf, AOp.needs, SV.one?, SV.pre, idsOf, AOp.rds, AOp.ops, SV.ids, C.ids0, List.map_nil, List.nil_append, and_true, true_and, and_self, Bool.and_false, Bool.false_eq_true, beq_true, implies_true, imp_self, reduceCtorEq, Nat.reduceAdd, Nat.reduceEqDiff, ↓reduceIte, List.append_nil]
    refine hQ _ _ _ _ _ (RG.nil ⟨by decide, ?_⟩)
    simp only [x_tn]
    refine aw_cond _ rfl trivial (fun ht => by cases ht) (fun hf => ?_)
    simp only [x_exit, x_tn, x_tx, x_bn, x_bx, x_lx, ↓reduceIte]
    refine aw_reg 720 (RG.go fun Q hQ => ?_)
    simp only [RX, eff, ev_t, ev_k, lk_cons, setS_cons, setS_nil, AOp.isCall, setD, setEs, presOf, AOp.needs, SV.one?, SV.pre, binV, idsOf, AOp.rds, AOp.ops, SV.ids, C.ids0, Option.map_some, List.map_nil, List.nil_append, true_and, and_self, Bool.false_eq_true, reduceCtorEq, Nat.reduceAdd, Nat.reduceEqDiff, ↓reduceIte, List.append_nil]
    refine hQ _ _ _ _ _ (RG.nil ?_)
    simp only [x_ln]
    refine ⟨⟨(i + 1, c), hcp, hout, by simp only; omega, by simp only; omega⟩, ?_, by simp only; omega⟩
    refine Le.lit [] [] _ _ ?_ ?_ ?_ ?_
    · skip
      simp only [allL, lk_cons, lkE_cons, lkE_nil, WkSV, WkSV1, WkC, WkC0, rlook, frzEs, Nat.reduceEqDiff, ↓reduceIte, reduceCtorEq, true_and, and_true, ne_eq, not_false_eq_true]
      rw [w64 _ (by omega) (by omega)]; rfl
    · skip
      simp only [allL, lkE_cons, lkE_nil, WkEnt, rlook, frzEs, isDRows, Option.some.injEq, ↓reduceIte, reduceCtorEq, true_and, and_true, exists_eq_left', ne_eq, true_or]
      exact drows_nrow _
    · simp
    · simp [rlook]
  rw [List.concat_eq_append] at *
  have hjp : j = p'.length + 1 := by simpa using hj
  have hcy : c[j - 1]? = some y := by rw [hc, hjp]; simp
  have hwj : IntKind.i64.wrap ((j : Int) - 1) = ((j - 1 : Nat) : Int) := by rw [w64 _ (by omega) (by omega)]; omega
  have hr2 : (List.map nrow c)[((j - 1 : Nat) : Int).toNat]?.getD [] = [.v (.int .i64 y)] := by simp [hcy, nrow]
  have hjd : decide ((0 : Int) < (j : Int)) = true := by simp; omega
  have hjl : j < l.length := by omega
  simp only [x_seq]
  refine aw_draw 480 (RG.go fun Q hQ => ?_)
  simp only [RX, eff, ev_t, ev_k, lk_cons, lkE_cons, setS_cons, setS_nil, AOp.isCall, setD, setEs, presOf, AOp.needs, SV.one?, SV.pre, gval, binV, idsOf, AOp.rds, AOp.ops, SV.ids, C.ids0, Option.getD_some, List.getElem?_cons_zero, Option.map_some, List.map_nil, List.nil_append, List.cons_append, and_true, true_and, and_self, Bool.and_true, Bool.false_eq_true, implies_true, true_implies, reduceCtorEq, gt_iff_lt, Nat.reduceAdd, Nat.reduceEqDiff, Nat.reduceLT, ↓reduceIte, BEq.rfl, List.append_nil, C_default, hjd, hwj, hr1, hr2]
  refine ⟨⟨by omega, by simp; omega⟩, by simp; omega, ⟨by omega, by simp; omega⟩, by simp; omega, hQ _ _ _ _ _ ?_⟩
  refine RG.callg _ _ [] rfl (fun hg => ⟨_, cmp_Less_con x y, tr_cons (tr_opt (by simpa using hg) tr_v) (tr_cons (tr_opt (by simpa using hg) tr_v) tr_nil), trivial, .inl trivial⟩) ?_
  refine RG.go fun Q hQ => ?_
  simp only [RX, eff, ev_t, ev_k, lk_cons, setS_cons, setS_nil, AOp.isCall, setD, setEs, presOf, AOp.needs, SV.one?, SV.pre, idsOf, AOp.rds, AOp.ops, SV.ids, C.ids0, List.map_nil, List.nil_append, true_and, and_self, Bool.and_true, Bool.false_eq_true, implies_true, reduceCtorEq, Nat.reduceAdd, Nat.reduceEqDiff, ↓reduceIte, BEq.rfl, List.append_nil]
  refine hQ _ _ _ _ _ (RG.nil ⟨by decide, ?_⟩)
  simp only [x_tn]
  refine aw_cond _ rfl trivial (fun ht => ?_) (fun hf => ?_)
  rotate_left
  · have hyx : y ≤ x := by simp at hf; omega
    have hout : (c.take (i + 1)).Pairwise (· ≤ ·) := by
      rw [htake]
      have h1 := List.pairwise_append.1 hsd
      rw [List.pairwise_append]
      refine ⟨h1.1, ?_, ?_⟩
      · rw [List.pairwise_cons]; exact ⟨hxq, h1.2.1⟩
      · intro a ha b hb
        have hay : a ≤ y := by
          rcases List.mem_append.1 ha with h | h
          · exact (List.pairwise_append.1 h1.1).2.2 a h y (by simp)
          · simp at h; omega
        rcases List.mem_cons.1 hb with rfl | hb
        · omega
        · have := hxq b hb; omega
    simp only [x_exit, x_tn, x_tx, x_bn, x_bx, x_lx, ↓reduceIte]
    refine aw_reg 720 (RG.go fun Q hQ => ?_)
    simp only [RX, eff, ev_t, ev_k, lk_cons, setS_cons, setS_nil, AOp.isCall, setD, setEs, presOf, AOp.needs, SV.one?, SV.pre, binV, idsOf, AOp.rds, AOp.ops, SV.ids, C.ids0, Option.map_some, List.map_nil, List.nil_append, true_and, and_self, Bool.false_eq_true, reduceCtorEq, Nat.reduceAdd, Nat.reduceEqDiff, ↓reduceIte, List.append_nil]
    refine hQ _ _ _ _ _ (RG.nil ?_)
    simp only [x_ln]
    refine ⟨⟨(i + 1, c), hcp, hout, by simp only; omega, by simp only; omega⟩, ?_, by simp only; omega⟩
    refine Le.lit [] [] _ _ ?_ ?_ ?_ ?_
    · skip
      simp only [allL, lk_cons, lkE_cons, lkE_nil, WkSV, WkSV1, WkC, WkC0, rlook, frzEs, Nat.reduceEqDiff, ↓reduceIte, reduceCtorEq, true_and, and_true, ne_eq, not_false_eq_true]
      rw [w64 _ (by omega) (by omega)]; rfl
    · skip
      simp only [allL, lkE_cons, lkE_nil, WkEnt, rlook, frzEs, isDRows, Option.some.injEq, ↓reduceIte, reduceCtorEq, true_and, and_true, exists_eq_left', ne_eq, true_or]
      exact drows_nrow _
    · simp
    · simp [rlook]
  have hxy : x < y := by simpa using ht
  have hc2 : (List.map nrow c).set (j : Int).toNat [C.v (Value.int IntKind.i64 y)] = (c.set j y).map nrow := by rw [List.map_set]; simp [nrow]
  have hr3 : (List.map nrow (c.set j y))[((j - 1 : Nat) : Int).toNat]?.getD [] = [.v (.int .i64 y)] := by
    rw [Int.toNat_natCast, List.getElem?_map, List.getElem?_set_ne (by omega), hcy]; rfl
  have hc3 : (List.map nrow (c.set j y)).set ((j - 1 : Nat) : Int).toNat [C.v (Value.int IntKind.i64 x)] = ((c.set j y).set (j - 1) x).map nrow := by rw [List.map_set]; simp [nrow]
  have hc' : (c.set j y).set (j - 1) x = p' ++ x :: ((y :: q) ++ r) := by
    rw [hc, hjp, List.append_assoc, List.set_append, if_neg (by omega), List.set_append, if_neg (by omega)]
    simp
  have hcp' : ((c.set j y).set (j - 1) x).Perm l := by
    rw [hc']
    refine List.Perm.trans ?_ hcp
    rw [hc, List.append_assoc]
    exact List.Perm.append_left p' (List.Perm.swap y x _)
  simp only [x_seq, x_block, x_skip, x_tn]
  refine aw_draw 1000 (RG.go fun Q hQ => ?_)
  simp only [RX, eff, ev_t, ev_k, lk_cons, lkE_cons, setS_cons, setS_nil, setE_cons, AOp.isCall, setD, setEs, presOf, AOp.needs, SV.one?, SV.pre, SV.cells, binV, idsOf, AOp.rds, AOp.ops, SV.ids, C.ids0, Option.getD_some, splice, List.take_zero, List.drop_succ_cons, List.drop_zero, List.length_cons, List.length_nil, List.getElem?_cons_zero, Option.map_some, List.map_cons, List.map_nil, List.nil_append, List.cons_append, and_true, true_and, and_self, Bool.false_eq_true, reduceCtorEq, Nat.reduceAdd, Nat.reduceEqDiff, Nat.reduceLT, ↓reduceIte, Nat.zero_add, Nat.le_refl, List.append_nil, C_default, hwj, hr1, hr2, hc2, hr3, hc3]
  refine ⟨⟨by omega, by simp; omega⟩, by simp; omega, ⟨by omega, by simp; omega⟩, by simp; omega, ⟨by omega, by simp; omega⟩, by simp; omega, ⟨by omega, by simp; omega⟩, by simp; omega, ?_⟩
  refine hQ _ _ _ _ _ (RG.nil ⟨by decide, ?_⟩)
  simp only [x_tn, x_bn]
  refine aw_reg 1400 (RG.go fun Q hQ => ?_)
  simp only [RX, eff, ev_t, ev_k, lk_cons, setS_cons, setS_nil, AOp.isCall, setD, setEs, presOf, AOp.needs, SV.one?, SV.pre, binV, idsOf, AOp.rds, AOp.ops, SV.ids, C.ids0, Option.map_some, List.map_nil, List.nil_append, true_and, and_self, Bool.false_eq_true, reduceCtorEq, Nat.reduceAdd, Nat.reduceEqDiff, ↓reduceIte, List.append_nil, hwj]
  refine hQ _ _ _ _ _ (RG.nil ?_)
  simp only [x_ln]
  refine ⟨⟨(j - 1, (c.set j y).set (j - 1) x), p', y :: q, hc', by simp only; omega, by simp at hpq ⊢; omega, by simpa using hsd, ?_, hcp'⟩, ?_, by simp only; omega⟩
  · intro z hz
    rcases List.mem_cons.1 hz with rfl | hz
    · omega
    · exact hxq z hz
  refine Le.lit [] [] _ _ ?_ ?_ ?_ ?_
  · skip
    simp only [allL, lk_cons, lkE_cons, lkE_nil, WkSV, WkSV1, WkC, WkC0, rlook, frzEs, Nat.reduceEqDiff, ↓reduceIte, reduceCtorEq, and_true, ne_eq, not_false_eq_true]
  · skip
    simp only [allL, lkE_cons, lkE_nil, WkEnt, rlook, frzEs, isDRows, Option.some.injEq, ↓reduceIte, reduceCtorEq, true_and, and_true, exists_eq_left', ne_eq, true_or]
    exact drows_nrow _
  · simp
  · simp [rlook]


theorem bits_Len64_con (n : Nat) (h : n ≤ 12) : ∃ k, Con Try.prog 72 [.c (.v (.int .u64 n))] [] (I k) [] := by
  apply Exists.intro
  · have hw : IntKind.u8.wrap (n : Int) = n := u8wrap n (by omega)
    refine C_math_bits_Len64 (Nat.le_of_ble_eq_true rfl) (Nat.le_of_ble_eq_true rfl) ?_
    simp only [A_math_bits_Len64, argL, objL, List.length_nil, x_seq]
    refine aw_reg 16 (RG.go fun Q hQ => ?_)
    simp only [RX, eff, ev_k, setS_cons, setS_nil, AOp.isCall, setD, setEs, presOf, AOp.needs, idsOf, AOp.rds, List.map_nil, List.nil_append, true_and, Bool.false_eq_true, reduceCtorEq, Nat.reduceAdd, ↓reduceIte]
    refine hQ _ _ _ _ _ (RG.nil ?_)
    simp only [x_seq, x_tn]
    refine aw_reg 160 (RG.go fun Q hQ => ?_)
    simp only [RX, eff, ev_t, ev_k, lk_cons, setS_cons, setS_nil, AOp.isCall, setD, setEs, presOf, AOp.needs, SV.one?, SV.pre, binV, idsOf, AOp.rds, AOp.ops, SV.ids, C.ids0, Option.map_some, List.map_nil, List.nil_append, true_and, and_self, Bool.false_eq_true, reduceCtorEq, ge_iff_le, Nat.reduceAdd, Nat.reduceEqDiff, ↓reduceIte, List.append_nil]
    refine hQ _ _ _ _ _ (RG.nil ?_)
    simp only [x_tn]
    refine aw_cond _ rfl trivial (fun ht => ?_) (fun hf => ?_)
    · exfalso; simp at ht; omega
    simp only [x_seq, x_skip, x_tn]
    refine aw_reg 320 (RG.go fun Q hQ => ?_)
    simp only [RX, eff, ev_t, ev_k, lk_cons, setS_cons, setS_nil, AOp.isCall, setD, setEs, presOf, AOp.needs, SV.one?, SV.pre, binV, idsOf, AOp.rds, AOp.ops, SV.ids, C.ids0, Option.map_some, List.map_nil, List.nil_append, true_and, and_self, Bool.false_eq_true, reduceCtorEq, ge_iff_le, Nat.reduceAdd, Nat.reduceEqDiff, ↓reduceIte, List.append_nil]
    refine hQ _ _ _ _ _ (RG.nil ?_)
    simp only [x_tn]
    refine aw_cond _ rfl trivial (fun ht => ?_) (fun hf => ?_)
    · exfalso; simp at ht; omega
    simp only [x_seq, x_skip, x_tn]
    refine aw_reg 480 (RG.go fun Q hQ => ?_)
    simp only [RX, eff, ev_t, ev_k, lk_cons, setS_cons, setS_nil, AOp.isCall, setD, setEs, presOf, AOp.needs, SV.one?, SV.pre, binV, idsOf, AOp.rds, AOp.ops, SV.ids, C.ids0, Option.map_some, List.map_nil, List.nil_append, true_and, and_self, Bool.false_eq_true, reduceCtorEq, ge_iff_le, Nat.reduceAdd, Nat.reduceEqDiff, ↓reduceIte, List.append_nil]
    refine hQ _ _ _ _ _ (RG.nil ?_)
    simp only [x_tn]
    refine aw_cond _ rfl trivial (fun ht => ?_) (fun hf => ?_)
    · exfalso; simp at ht; omega
    simp only [x_seq, x_skip, x_tn]
    refine aw_reg 640 (RG.go fun Q hQ => ?_)
    simp only [RX, eff, ev_t, ev_k, lk_cons, setS_cons, setS_nil, AOp.isCall, setD, setEs, presOf, AOp.needs, SV.one?, SV.pre, binV, idsOf, AOp.rds, AOp.ops, SV.ids, C.ids0, Option.map_some, List.map_nil, List.nil_append, true_and, and_self, Bool.false_eq_true, reduceCtorEq, Nat.reduceAdd, Nat.reduceEqDiff, ↓reduceIte, List.append_nil, hw]
    refine ⟨⟨by omega, Int.lt_of_le_of_lt (Int.ofNat_le.2 h) (by decide)⟩, hQ _ _ _ _ _ (RG.nil ?_)⟩
    simp only [x_ret, x_tn]
    exact Fin.scalar (.inr rfl) rfl trivial rfl trivial

theorem bits_Len_con (n : Nat) (h : n ≤ 12) : ∃ k, Con Try.prog 61 [.c (.v (.int .u64 n))] [] (I k) [] := by
  obtain ⟨k, hk⟩ := bits_Len64_con n h
  refine ⟨k, ?_⟩
  refine C_math_bits_Len (Nat.le_of_ble_eq_true rfl) (Nat.le_of_ble_eq_true rfl) ?_
  simp only [A_math_bits_Len, argL, objL, List.length_nil, x_seq]
  refine aw_reg 16 (RG.go fun Q hQ => ?_)
  simp only [RX, eff, ev_k, setS_cons, setS_nil, AOp.isCall, setD, setEs, presOf, AOp.needs, idsOf, AOp.rds, List.map_nil, List.nil_append, true_and, Bool.false_eq_true, reduceCtorEq, Nat.reduceAdd, ↓reduceIte]
  refine hQ _ _ _ _ _ (RG.nil ?_)
  simp only [x_seq, x_tn]
  refine aw_cond _ rfl trivial (fun ht => by cases ht) (fun hf => ?_)
  simp only [x_seq, x_skip, x_tn]
  refine aw_reg 160 (RG.go fun Q hQ => ?_)
  simp only [RX, eff, ev_t, lk_cons, setS_cons, setS_nil, AOp.isCall, setD, setEs, presOf, AOp.needs, idsOf, AOp.rds, List.map_nil, List.nil_append, true_and, Bool.false_eq_true, reduceCtorEq, Nat.reduceAdd, Nat.reduceEqDiff, ↓reduceIte]
  refine hQ _ _ _ _ _ ?_
  refine RG.call [] (hk) (tr_cons tr_v tr_nil) (trivial) (.inl trivial) ?_
  refine RG.go fun Q hQ => ?_
  simp only [RX, eff, ev_t, lk_cons, setS_cons, setS_nil, AOp.isCall, setD, setEs, presOf, AOp.needs, idsOf, AOp.rds, List.map_nil, List.nil_append, true_and, Bool.false_eq_true, reduceCtorEq, Nat.reduceAdd, Nat.reduceEqDiff, ↓reduceIte]
  refine hQ _ _ _ _ _ (RG.nil ?_)
  simp only [x_ret, x_tn]
  exact Fin.scalar (.inr rfl) rfl trivial rfl trivial

theorem slices_pdqsort_con (l : List Int) (k : Int) (hb : l.length ≤ 12) : Con Try.prog 60 [.c (.osl 0), I 0, I l.length, I k] [.arr 3 1 (l.map nrow) false] (.tup []) [.arr 3 1 ((isort l).map nrow) false] := by
  have hw : IntKind.i64.wrap ((l.length : Int) - 0) = l.length := by rw [w64 _ (by omega) (by omega)]; omega
  refine C_slices_pdqsortOrdered_int (Nat.le_of_ble_eq_true rfl) (Nat.le_of_ble_eq_true rfl) ?_
  simp only [A_slices_pdqsortOrdered_int, argL, objL, List.length_nil, List.length_cons, Nat.reduceAdd, Nat.zero_add, x_seq]
  refine aw_reg 16 (RG.go fun Q hQ => ?_)
  simp only [RX, eff, ev_k, setS_cons, setS_nil, AOp.isCall, setD, setEs, presOf, AOp.needs, idsOf, AOp.rds, List.map_nil, List.nil_append, true_and, Bool.false_eq_true, reduceCtorEq, Nat.reduceAdd, Nat.reduceEqDiff, ↓reduceIte]
  refine hQ _ _ _ _ _ (RG.nil ?_)
  simp only [x_seq, x_tn]
  refine aw_reg 160 (RG.go fun Q hQ => ?_)
  simp only [RX, eff, ev_k, setS_cons, setS_nil, AOp.isCall, setD, setEs, presOf, AOp.needs, idsOf, AOp.rds, List.map_nil, List.nil_append, true_and, Bool.false_eq_true, reduceCtorEq, Nat.reduceAdd, Nat.reduceEqDiff, ↓reduceIte]
  refine hQ _ _ _ _ _ (RG.nil ?_)
  simp only [x_block, x_tn]
  refine aw_loop (X := Unit) (fun _ => mkSt [(0, .c (.osl 0)), (1, I 0), (2, I l.length), (3, I k)] [(0, .arr 3 1 (l.map nrow) false)]) (fun _ => 0) () ?_ ?_
  · refine Le.lit [] [] _ _ ?_ ?_ ?_ ?_
    · skip
      simp only [allL, lk_cons, lkE_cons, lkE_nil, WkSV, WkSV1, WkC, WkC0, rlook, frzEs, Nat.reduceEqDiff, ↓reduceIte, reduceCtorEq, and_true, ne_eq, not_false_eq_true]
    · skip
      simp only [allL, lkE_cons, lkE_nil, WkEnt, rlook, frzEs, isDRows, Option.some.injEq, ↓reduceIte, reduceCtorEq, true_and, and_true, exists_eq_left', ne_eq, true_or]
      exact drows_nrow _
    · simp
    · simp [rlook]
  rintro ⟨⟩
  simp only [x_seq, x_block]
  refine aw_reg 320 (RG.go fun Q hQ => ?_)
  simp only [RX, eff, ev_t, lk_cons, setS_cons, setS_nil, AOp.isCall, setD, setEs, presOf, AOp.needs, SV.one?, SV.pre, binV, idsOf, AOp.rds, AOp.ops, SV.ids, C.ids0, Option.map_some, List.map_nil, List.nil_append, true_and, and_self, Bool.false_eq_true, reduceCtorEq, Nat.reduceAdd, Nat.reduceEqDiff, ↓reduceIte, List.append_nil, hw]
  refine hQ _ _ _ _ _ (RG.nil ?_)
  simp only [x_seq, x_tn]
  refine aw_reg 480 (RG.go fun Q hQ => ?_)
  simp only [RX, eff, ev_t, ev_k, lk_cons, setS_cons, setS_nil, AOp.isCall, setD, setEs, presOf, AOp.needs, SV.one?, SV.pre, binV, idsOf, AOp.rds, AOp.ops, SV.ids, C.ids0, Option.map_some, List.map_nil, List.nil_append, true_and, and_self, Bool.false_eq_true, reduceCtorEq, Nat.reduceAdd, Nat.reduceEqDiff, ↓reduceIte, List.append_nil]
  refine hQ _ _ _ _ _ (RG.nil ?_)
  simp only [x_tn]
  refine aw_cond _ rfl trivial (fun ht => ?_) (fun hf => ?_)
  rotate_left
  · exfalso; simp at hf; omega
  simp only [x_seq]
  refine aw_reg 640 (RG.go fun Q hQ => ?_)
  simp only [RX, eff, ev_t, lk_cons, setS_cons, setS_nil, AOp.isCall, setD, setEs, presOf, AOp.needs, idsOf, AOp.rds, List.map_nil, List.nil_append, true_and, Bool.false_eq_true, reduceCtorEq, Nat.reduceAdd, Nat.reduceEqDiff, ↓reduceIte]
  refine hQ _ _ _ _ _ ?_
  refine RG.callo [0] [] (slices_insertionSort_con l (by omega)) (.mk (tr_cons (tr_osl rfl) (tr_cons tr_v (tr_cons tr_v tr_nil))) (by simp only [TrL, TrEnt, lkE_cons, ↓reduceIte, true_and, and_true, exists_eq_left', Option.some.injEq, isDRows]; exact drows_nrow _) (by simp) (by simp) (trivial) (by simp [lkE_cons, lkE_nil]) (by simp only [List.mem_singleton, forall_eq, Ent.pure]; exact drows_nrow _) (by simp) (by simp)) ?_
  refine RG.go fun Q hQ => ?_
  simp only [RX, lkE_cons, lkE_nil, setS_cons, setS_nil, setE_cons, setD, setEs, List.drop_succ_cons, List.drop_zero, List.length_cons, List.length_nil, List.map_cons, List.map_nil, reduceCtorEq, Nat.reduceAdd, Nat.reduceEqDiff, ↓reduceIte, Nat.zero_add, renSV, renEnt, backUps, List.zip_nil_right, List.zip_cons_cons, List.zipIdx_nil, List.filterMap_nil, List.append_nil, List.range_zero, Nat.sub_self]
  refine hQ _ _ _ _ _ (RG.nil ?_)
  simp only [x_ret, x_tn, x_tr, x_br, x_lr]
  refine Fin.objs [] [] (.inr rfl) rfl trivial ?_ ?_ (by simp [objL, rlook]) (by simp [objL, rlook])
  · skip
    simp only [WkSV, TrL]
  · skip
    simp only [allL, lkE_cons, lkE_nil, WkEnt, rlook, frzEs, objL, isDRows, Option.some.injEq, ↓reduceIte, reduceCtorEq, true_and, and_true, exists_eq_left', ne_eq, true_or]
    exact drows_nrow _

theorem slices_Sort_con (l : List Int) (hb : l.length ≤ 12) : Con Try.prog 57 [.c (.osl 0)] [.arr 3 1 (l.map nrow) false] (.tup []) [.arr 3 1 ((isort l).map nrow) false] := by
  obtain ⟨k, hk⟩ := bits_Len_con l.length hb
  have hw : IntKind.u64.wrap ((l.map nrow).length : Int) = (l.length : Int) := by rw [w_u64, List.length_map]; omega
  refine C_slices_Sort_int_int (Nat.le_of_ble_eq_true rfl) (Nat.le_of_ble_eq_true rfl) ?_
  simp only [A_slices_Sort_int_int, argL, objL, List.length_nil, List.length_cons, Nat.zero_add, x_seq]
  refine aw_reg 16 (RG.go fun Q hQ => ?_)
  simp only [RX, eff, ev_t, lk_cons, lkE_cons, setS_cons, setS_nil, AOp.isCall, setD, setEs, presOf, AOp.needs, SV.one?, SV.pre, idsOf, AOp.rds, AOp.ops, SV.ids, C.ids0, rowsOf, List.map_nil, List.nil_append, List.cons_append, true_and, and_self, Bool.false_eq_true, reduceCtorEq, Nat.reduceAdd, Nat.reduceEqDiff, ↓reduceIte, Option.bind_some, List.append_nil]
  refine hQ _ _ _ _ _ (RG.nil ?_)
  simp only [x_tn]
  refine aw_reg 160 (RG.go fun Q hQ => ?_)
  simp only [RX, eff, ev_t, lk_cons, setS_cons, setS_nil, AOp.isCall, setD, setEs, presOf, AOp.needs, SV.one?, SV.pre, idsOf, AOp.rds, AOp.ops, SV.ids, C.ids0, List.map_nil, List.nil_append, true_and, and_self, Bool.false_eq_true, reduceCtorEq, Nat.reduceAdd, Nat.reduceEqDiff, ↓reduceIte, List.append_nil, hw]
  refine hQ _ _ _ _ _ ?_
  refine RG.call [] (hk) (tr_cons tr_v tr_nil) (trivial) (.inl trivial) ?_
  refine RG.go fun Q hQ => ?_
  simp only [RX, setS_cons, setS_nil, AOp.isCall, setD, reduceCtorEq, Nat.reduceAdd, Nat.reduceEqDiff, ↓reduceIte]
  refine hQ _ _ _ _ _ ?_
  refine RG.callo [0] [] (slices_pdqsort_con l k hb) (.mk (tr_cons (tr_osl rfl) (tr_cons tr_v (tr_cons (congrArg (fun k : Nat => Value.int .i64 (k : Int)) (by simp : (l.map nrow).length = l.length)) (tr_cons tr_v tr_nil)))) (by simp only [TrL, TrEnt, lkE_cons, ↓reduceIte, true_and, and_true, exists_eq_left', Option.some.injEq, isDRows]; exact drows_nrow _) (by simp) (by simp) (trivial) (by simp [lkE_cons, lkE_nil]) (by simp only [List.mem_singleton, forall_eq, Ent.pure]; exact drows_nrow _) (by simp) (by simp)) ?_
  refine RG.go fun Q hQ => ?_
  simp only [RX, lkE_cons, lkE_nil, setS_cons, setS_nil, setE_cons, setD, setEs, List.drop_succ_cons, List.drop_zero, List.length_cons, List.length_nil, List.map_cons, List.map_nil, reduceCtorEq, Nat.reduceAdd, Nat.reduceEqDiff, ↓reduceIte, Nat.zero_add, renSV, renEnt, backUps, List.zip_nil_right, List.zip_cons_cons, List.zipIdx_nil, List.filterMap_nil, List.append_nil, List.range_zero, Nat.sub_self]
  refine hQ _ _ _ _ _ (RG.nil ?_)
  refine Fin.objs [] [] (.inl rfl) rfl trivial ?_ ?_ (by simp [objL, rlook]) (by simp [objL, rlook])
  · skip
    simp only [WkSV, TrL]
  · skip
    simp only [allL, lkE_cons, lkE_nil, WkEnt, rlook, frzEs, objL, isDRows, Option.some.injEq, ↓reduceIte, reduceCtorEq, true_and, and_true, exists_eq_left', ne_eq, true_or]
    exact drows_nrow _

end Go.Abs
namespace Go.Abs
open Go Go.Proofs
set_option maxRecDepth 100000
set_option linter.unusedSimpArgs false

/-- Of equal neighbours one. -/
def dd : List Int → List Int
  | [] => []
  | [x] => [x]
  | x :: y :: r => if x = y then dd (y :: r) else x :: dd (y :: r)

theorem dd_snoc (p e : Int) : ∀ m : List Int, dd (m ++ [p] ++ [e]) = dd (m ++ [p]) ++ if e = p then [] else [e]
  | [] => by
    by_cases h : e = p
    · subst h; simp [dd]
    · have h' : ¬ p = e := fun hh => h hh.symm
      simp [dd, h, h']
  | [x] => by
    have ih := dd_snoc p e []
    simp only [List.nil_append, List.cons_append, dd] at ih ⊢
    by_cases h : x = p
    · simp only [h, if_true]; exact ih
    · simp only [h, if_false, List.cons_append]; rw [ih]; simp
  | x :: y :: r => by
    have ih := dd_snoc p e (y :: r)
    simp only [List.cons_append, dd] at ih ⊢
    by_cases h : x = y
    · simp only [h, if_true]; exact ih
    · simp only [h, if_false, List.cons_append]; rw [ih]

theorem dd_take (l : List Int) (n : Nat) (h0 : 0 < n) (hn : n < l.length) : dd (l.take (n + 1)) = dd (l.take n) ++ if l[n] = l[n - 1] then [] else [l[n]] := by
  have h1 : l.take n = l.take (n - 1) ++ [l[n - 1]] := by
    have := take_one l (n - 1) (by omega)
    rwa [show n - 1 + 1 = n by omega] at this
  rw [take_one l n hn, h1, dd_snoc]

theorem pure2 {E : TypeId} {s : Nat} {rows : List (List C)} {fz : Bool} (h : isDRows rows) : ∀ e ∈ ([.gone, .arr E s rows fz] : List Ent), e.pure := by
  intro e he
  simp only [List.mem_cons, List.not_mem_nil, or_false] at he
  rcases he with h1 | h1 <;> rw [h1]
  · exact trivial
  · exact h

theorem slices_Compact_con (l : List Int) (hb : l.length ≤ 1000000) : Con Try.prog 58 [.c (.osl 0)] [.arr 3 1 (l.map nrow) false] (.c (.osl 1)) [.gone, .arr 3 1 ((dd l).map nrow) false] := by
  refine C_slices_Compact_int_int (Nat.le_of_ble_eq_true rfl) (Nat.le_of_ble_eq_true rfl) ?_
  simp only [A_slices_Compact_int_int, argL, objL, List.length_nil, List.length_cons, Nat.zero_add, x_seq]
  refine aw_reg 16 (RG.go fun Q hQ => ?_)
  simp only [RX, eff, ev_k, setS_cons, setS_nil, AOp.isCall, setD, setEs, presOf, AOp.needs, idsOf, AOp.rds, List.map_nil, List.nil_append, true_and, Bool.false_eq_true, reduceCtorEq, Nat.reduceAdd, ↓reduceIte]
  refine hQ _ _ _ _ _ (RG.nil ?_)
  simp only [x_seq, x_tn]
  refine aw_reg 160 (RG.go fun Q hQ => ?_)
  simp only [RX, eff, ev_t, ev_k, lk_cons, lkE_cons, setS_cons, setS_nil, AOp.isCall, setD, setEs, presOf, AOp.needs, SV.one?, SV.pre, binV, idsOf, AOp.rds, AOp.ops, SV.ids, C.ids0, rowsOf, Option.map_some, List.map_nil, List.nil_append, List.cons_append, true_and, and_self, Bool.false_eq_true, reduceCtorEq, Nat.reduceAdd, Nat.reduceEqDiff, ↓reduceIte, Option.bind_some, List.append_nil]
  refine hQ _ _ _ _ _ (RG.nil ?_)
  simp only [x_tn]
  refine aw_cond _ rfl trivial (fun ht => ?_) (fun hf => ?_)
  · have hd : dd l = l := by
      rcases l with _ | ⟨a, _ | ⟨b, r⟩⟩
      · rfl
      · rfl
      · simp at ht; omega
    rw [hd]
    simp only [x_seq]
    refine aw_reg 320 (RG.go fun Q hQ => ?_)
    simp only [RX, eff, ev_t, lk_cons, setS_cons, setS_nil, AOp.isCall, setD, setEs, presOf, AOp.needs, idsOf, AOp.rds, List.map_nil, List.nil_append, true_and, Bool.false_eq_true, reduceCtorEq, Nat.reduceAdd, Nat.reduceEqDiff, ↓reduceIte]
    refine hQ _ _ _ _ _ (RG.nil ?_)
    simp only [x_ret, x_tn, x_tr]
    exact Fin.moved (.inr rfl) rfl trivial rfl (drows_nrow _)
  have hl2 : 2 ≤ l.length := by simp at hf; omega
  simp only [x_seq, x_skip, x_tn]
  refine aw_reg 320 (RG.go fun Q hQ => ?_)
  simp only [RX, eff, ev_k, setS_cons, setS_nil, AOp.isCall, setD, setEs, presOf, AOp.needs, idsOf, AOp.rds, List.map_nil, List.nil_append, true_and, Bool.false_eq_true, reduceCtorEq, Nat.reduceAdd, Nat.reduceEqDiff, ↓reduceIte]
  refine hQ _ _ _ _ _ (RG.nil ?_)
  simp only [x_block, x_tn]
  refine aw_loop (X := { k : Nat // 1 ≤ k ∧ k ≤ l.length ∧ dd (l.take k) = l.take k }) (fun k => mkSt [(0, .c (.osl 0)), (3, I k.1)] [(0, .arr 3 1 (l.map nrow) false)]) (fun k => l.length - k.1) ⟨1, by omega, by omega, ?_⟩ ?_ ?_
  · rcases l with _ | ⟨a, r⟩ <;> simp [dd]
  · refine Le.lit [] [] _ _ ?_ ?_ ?_ ?_
    · skip
      simp only [Int.cast_ofNat_Int, allL, lk_cons, lkE_cons, lkE_nil, WkSV, WkSV1, WkC, WkC0, rlook, frzEs, Nat.reduceEqDiff, ↓reduceIte, reduceCtorEq, and_true, ne_eq, not_false_eq_true]
    · skip
      simp only [allL, lkE_cons, lkE_nil, WkEnt, rlook, frzEs, isDRows, Option.some.injEq, ↓reduceIte, reduceCtorEq, true_and, and_true, exists_eq_left', ne_eq, true_or]
      exact drows_nrow _
    · simp
    · simp [rlook]
  rintro ⟨k, hk1, hk, hdk⟩
  simp only [x_seq]
  refine aw_reg 480 (RG.go fun Q hQ => ?_)
  simp only [RX, eff, ev_t, lk_cons, lkE_cons, setS_cons, setS_nil, AOp.isCall, setD, setEs, presOf, AOp.needs, SV.one?, SV.pre, binV, idsOf, AOp.rds, AOp.ops, SV.ids, C.ids0, rowsOf, Option.map_some, List.map_nil, List.nil_append, List.cons_append, true_and, and_self, Bool.false_eq_true, reduceCtorEq, Nat.reduceAdd, Nat.reduceEqDiff, ↓reduceIte, Option.bind_some, List.append_nil]
  refine hQ _ _ _ _ _ (RG.nil ?_)
  simp only [x_tn]
  refine aw_cond _ rfl trivial (fun ht => ?_) (fun hf => ?_)
  rotate_left
  · have hk' : k = l.length := by simp at hf; omega
    rw [hk', List.take_length] at hdk
    rw [hdk]
    simp only [x_seq, x_exit, x_tn, x_tx, x_bx, x_lx, ↓reduceIte]
    refine aw_reg 640 (RG.go fun Q hQ => ?_)
    simp only [RX, eff, ev_t, lk_cons, setS_cons, setS_nil, AOp.isCall, setD, setEs, presOf, AOp.needs, idsOf, AOp.rds, List.map_nil, List.nil_append, true_and, Bool.false_eq_true, reduceCtorEq, Nat.reduceAdd, Nat.reduceEqDiff, ↓reduceIte]
    refine hQ _ _ _ _ _ (RG.nil ?_)
    simp only [x_ret, x_tn]
    exact Fin.moved (.inr rfl) rfl trivial rfl (drows_nrow _)
  have hk' : k < l.length := by simp at ht; omega
  have hw : IntKind.i64.wrap ((k : Int) - 1) = ((k - 1 : Nat) : Int) := by rw [w64 _ (by omega) (by omega)]; omega
  have hw1 : IntKind.i64.wrap ((k : Int) + 1) = ((k + 1 : Nat) : Int) := by rw [w64 _ (by omega) (by omega)]; rfl
  have hr1 : (List.map nrow l)[(k : Int).toNat]?.getD [] = [.v (.int .i64 l[k])] := by simp [hk', nrow]
  have hr2 : (List.map nrow l)[((k - 1 : Nat) : Int).toNat]?.getD [] = [.v (.int .i64 l[k - 1])] := by
    rw [Int.toNat_natCast, List.getElem?_map, List.getElem?_eq_getElem (by omega)]; rfl
  have hdt := dd_take l k (by omega) hk'
  simp only [x_seq, x_block, x_skip, x_tn]
  refine aw_draw 640 (RG.go fun Q hQ => ?_)
  simp only [RX, eff, ev_t, ev_k, lk_cons, lkE_cons, setS_cons, setS_nil, AOp.isCall, setD, setEs, presOf, AOp.needs, SV.one?, SV.pre, binV, idsOf, AOp.rds, AOp.ops, SV.ids, C.ids0, Option.getD_some, List.getElem?_cons_zero, Option.map_some, List.map_nil, List.nil_append, List.cons_append, and_true, true_and, and_self, Bool.false_eq_true, reduceCtorEq, Nat.reduceAdd, Nat.reduceEqDiff, Nat.reduceLT, ↓reduceIte, List.append_nil, C_default, hw, hr1, hr2]
  refine ⟨⟨by omega, by simp; omega⟩, by simp; omega, ⟨by omega, by simp; omega⟩, by simp; omega, ?_⟩
  refine hQ _ _ _ _ _ (RG.nil ⟨by decide, ?_⟩)
  simp only [x_tn]
  refine aw_cond _ rfl trivial (fun ht2 => ?_) (fun hf2 => ?_)
  rotate_left
  · have hne : l[k] ≠ l[k - 1] := by simpa using hf2
    rw [if_neg hne, hdk, ← take_one l k hk'] at hdt
    simp only [x_skip, x_tn, x_bn]
    refine aw_reg 900 (RG.go fun Q hQ => ?_)
    simp only [RX, eff, ev_t, ev_k, lk_cons, setS_cons, setS_nil, AOp.isCall, setD, setEs, presOf, AOp.needs, SV.one?, SV.pre, binV, idsOf, AOp.rds, AOp.ops, SV.ids, C.ids0, Option.map_some, List.map_nil, List.nil_append, true_and, and_self, Bool.false_eq_true, reduceCtorEq, Nat.reduceAdd, Nat.reduceEqDiff, ↓reduceIte, List.append_nil, hw1]
    refine hQ _ _ _ _ _ (RG.nil ?_)
    simp only [x_ln]
    refine ⟨⟨k + 1, by omega, by omega, hdt⟩, ?_, by simp; omega⟩
    refine Le.lit [] [] _ _ ?_ ?_ ?_ ?_
    · skip
      simp only [allL, lk_cons, lkE_cons, lkE_nil, WkSV, WkSV1, WkC, WkC0, rlook, frzEs, ↓reduceIte, reduceCtorEq, and_true, ne_eq, not_false_eq_true]
    · skip
      simp only [allL, lkE_cons, lkE_nil, WkEnt, rlook, frzEs, isDRows, Option.some.injEq, ↓reduceIte, reduceCtorEq, true_and, and_true, exists_eq_left', ne_eq, true_or]
      exact drows_nrow _
    · simp
    · simp [rlook]
  have heq : l[k] = l[k - 1] := by simpa using ht2
  rw [if_pos heq, hdk, List.append_nil] at hdt
  have hne : List.map nrow l ≠ [] := by intro h; have : l = [] := (by simpa using h); rw [this] at hl2; simp at hl2
  simp only [x_seq]
  refine aw_reg 901 (RG.go fun Q hQ => ?_)
  simp only [RX, eff, keepTo, Nat.reduceMod, ev_t, lk_cons, lkE_cons, setS_cons, setS_nil, AOp.isCall, setD, setEs, presOf, AOp.needs, SV.one?, SV.pre, idsOf, AOp.rds, AOp.ops, SV.ids, C.ids0, bnd', List.map_nil, List.nil_append, List.cons_append, true_and, and_self, Bool.false_eq_true, reduceCtorEq, Nat.reduceAdd, Nat.reduceEqDiff, ↓reduceIte, List.append_nil, Option.toList_some, Option.toList_none]
  refine ⟨⟨by omega, by simp; omega, hne⟩, hQ _ _ _ _ _ (RG.nil ?_)⟩
  simp only [x_seq, x_tn]
  refine aw_reg 1000 (RG.go fun Q hQ => ?_)
  simp only [RX, eff, ev_k, setS_cons, setS_nil, AOp.isCall, setD, setEs, presOf, AOp.needs, idsOf, AOp.rds, List.map_nil, List.nil_append, true_and, Bool.false_eq_true, reduceCtorEq, Nat.reduceAdd, Nat.reduceEqDiff, ↓reduceIte]
  refine hQ _ _ _ _ _ (RG.nil ?_)
  simp only [x_block, x_tn]
  refine aw_loop (X := { p : Nat × Nat × List Int // 1 ≤ p.2.1 ∧ k + p.2.1 ≤ l.length ∧ p.1 + 1 ≤ k + p.2.1 ∧ p.2.2.length = l.length ∧ p.2.2.drop (k + p.2.1 - 1) = l.drop (k + p.2.1 - 1) ∧ p.2.2.take p.1 = dd (l.take (k + p.2.1)) ∧ (dd (l.take (k + p.2.1))).length = p.1 }) (fun p => mkSt [(0, .c (.osl 0)), (3, I p.1.1), (4, .c (.ow 0 k)), (5, I p.1.2.1)] [(0, .arr 3 1 (p.1.2.2.map nrow) false)]) (fun p => l.length - p.1.2.1) ⟨(k, 1, l), by simp only; omega, by simp only; omega, by simp only; omega, rfl, rfl, hdt.symm, by rw [hdt]; simp; omega⟩ ?_ ?_
  · refine Le.lit [] [] _ _ ?_ ?_ ?_ ?_
    · skip
      simp only [Int.cast_ofNat_Int, allL, lk_cons, lkE_cons, lkE_nil, WkSV, WkSV1, WkC, WkC0, rlook, frzEs, Nat.reduceEqDiff, ↓reduceIte, reduceCtorEq, true_and, and_true, ne_eq, not_false_eq_true]
      simp
    · skip
      simp only [allL, lkE_cons, lkE_nil, WkEnt, rlook, frzEs, isDRows, Option.some.injEq, ↓reduceIte, reduceCtorEq, true_and, and_true, exists_eq_left', ne_eq, true_or]
      exact drows_nrow _
    · simp
    · simp [rlook]
  rintro ⟨⟨k1, k2, cur⟩, h1, h2, h3, h4, h5, h6, h7⟩
  simp only at h1 h2 h3 h4 h5 h6 h7
  simp only [x_seq]
  refine aw_reg 1200 (RG.go fun Q hQ => ?_)
  simp only [RX, eff, ev_t, lk_cons, lkE_cons, setS_cons, setS_nil, AOp.isCall, setD, setEs, presOf, AOp.needs, SV.one?, SV.pre, binV, idsOf, AOp.rds, AOp.ops, SV.ids, C.ids0, rowsOf, Option.map_some, List.map_nil, List.nil_append, List.cons_append, true_and, and_self, Bool.false_eq_true, reduceCtorEq, Nat.reduceAdd, Nat.reduceEqDiff, ↓reduceIte, Option.bind_some, List.append_nil]
  refine hQ _ _ _ _ _ (RG.nil ?_)
  simp only [x_tn]
  refine aw_cond _ rfl trivial (fun ht3 => ?_) (fun hf3 => ?_)
  rotate_left
  · have hk2 : k + k2 = l.length := by simp at hf3; omega
    rw [hk2, List.take_length] at h6 h7
    have hne2 : List.map nrow cur ≠ [] := by intro h; have := congrArg List.length h; simp at this; rw [this] at h4; simp at h4; omega
    simp only [x_seq, x_exit, x_tn, x_tx, x_bx, x_lx, ↓reduceIte]
    refine aw_reg 1401 (RG.go fun Q hQ => ?_)
    simp only [RX, eff, keepTo, Nat.reduceMod, ev_t, lk_cons, lkE_cons, setS_cons, setS_nil, setE_cons, AOp.isCall, setD, setEs, presOf, AOp.needs, SV.one?, SV.pre, idsOf, AOp.rds, AOp.ops, SV.ids, C.ids0, bnd', List.map_cons, List.map_nil, List.nil_append, List.cons_append, true_and, and_self, Bool.false_eq_true, reduceCtorEq, Nat.reduceAdd, Nat.reduceEqDiff, ↓reduceIte, List.append_nil, Option.toList_some, Option.toList_none]
    refine ⟨⟨by omega, by simp; omega, hne2⟩, by simp; omega, hQ _ _ _ _ _ (RG.nil ?_)⟩
    simp only [x_seq, x_tn]
    refine aw_reg 1601 (RG.go fun Q hQ => ?_)
    simp only [RX, eff, keepTo, Nat.reduceMod, ev_t, lk_cons, lkE_cons, lkE_nil, setS_cons, setS_nil, setE_cons, setE_nil, AOp.isCall, setD, setEs, presOf, AOp.needs, SV.one?, SV.pre, idsOf, AOp.rds, AOp.ops, SV.ids, C.ids0, bnd', List.map_cons, List.map_nil, List.nil_append, List.cons_append, true_and, and_self, Bool.false_eq_true, reduceCtorEq, Nat.reduceAdd, Nat.reduceEqDiff, ↓reduceIte, List.append_nil, Option.toList_some, Option.toList_none]
    refine ⟨⟨by omega, by simp; omega⟩, hQ _ _ _ _ _ (RG.nil ?_)⟩
    simp only [x_ret, x_tn, x_tr, x_br, x_lr]
    refine Fin.objs [] [(1, 1633)] (.inr rfl) rfl (by first | exact trivial | exact ⟨trivial, trivial⟩ | exact ⟨trivial, trivial, trivial⟩) ?_ ?_ (by simp [objL, rlook]) (by simp [objL, rlook])
    · simp only [mkSt_sl, lk_cons, lkE_cons, lkE_nil, WkSV, WkSV1, WkC, WkC0, rlook, frzEs, objL, Nat.zero_add, Nat.reduceEqDiff, ↓reduceIte, reduceCtorEq, and_true, ne_eq, not_false_eq_true]
    · simp only [allL, lkE_cons, lkE_nil, WkEnt, rlook, frzEs, objL, isDRows, Option.some.injEq, Nat.zero_add, ↓reduceIte, reduceCtorEq, true_and, and_true, exists_eq_left', ne_eq, true_or]
      exact ⟨by simp; rw [List.take_append_of_le_length (by simp; omega), ← List.map_take, h6, List.take_of_length_le (by simp; omega)], drows_nrow _⟩
  have hk2 : k + k2 < l.length := by simp at ht3; omega
  have hc : ∀ n, k + k2 - 1 ≤ n → cur[n]? = l[n]? := fun n hn => by
    have := congrArg (fun m => m[n - (k + k2 - 1)]?) h5
    simp only [List.getElem?_drop] at this
    rwa [show k + k2 - 1 + (n - (k + k2 - 1)) = n by omega] at this
  have hv : IntKind.i64.wrap ((k2 : Int) - 1) = ((k2 - 1 : Nat) : Int) := by rw [w64 _ (by omega) (by omega)]; omega
  have hv1 : IntKind.i64.wrap ((k2 : Int) + 1) = ((k2 + 1 : Nat) : Int) := by rw [w64 _ (by omega) (by omega)]; rfl
  have hv3 : IntKind.i64.wrap ((k1 : Int) + 1) = ((k1 + 1 : Nat) : Int) := by rw [w64 _ (by omega) (by omega)]; rfl
  have hs1 : (List.map nrow cur)[k + (k2 : Int).toNat]?.getD [] = [.v (.int .i64 l[k + k2])] := by
    rw [Int.toNat_natCast, List.getElem?_map, hc _ (by omega), List.getElem?_eq_getElem hk2]; rfl
  have hs2 : (List.map nrow cur)[k + ((k2 - 1 : Nat) : Int).toNat]?.getD [] = [.v (.int .i64 l[k + k2 - 1])] := by
    rw [Int.toNat_natCast, List.getElem?_map, show k + (k2 - 1) = k + k2 - 1 by omega, hc _ (by omega), List.getElem?_eq_getElem (by omega)]; rfl
  have hdn := dd_take l (k + k2) (by omega) hk2
  simp only [x_seq, x_block, x_skip, x_tn]
  refine aw_draw 1400 (RG.go fun Q hQ => ?_)
  simp only [RX, eff, ev_t, ev_k, lk_cons, lkE_cons, setS_cons, setS_nil, AOp.isCall, setD, setEs, presOf, AOp.needs, SV.one?, SV.pre, binV, idsOf, AOp.rds, AOp.ops, SV.ids, C.ids0, Option.getD_some, List.getElem?_cons_zero, Option.map_some, List.map_nil, List.nil_append, List.cons_append, and_true, true_and, and_self, Bool.false_eq_true, reduceCtorEq, Nat.reduceAdd, Nat.reduceEqDiff, Nat.reduceLT, ↓reduceIte, List.append_nil, C_default, hv, hs1, hs2]
  refine ⟨⟨by omega, by simp; omega⟩, by simp; omega, ⟨by omega, by simp; omega⟩, by simp; omega, ?_⟩
  refine hQ _ _ _ _ _ (RG.nil ⟨by decide, ?_⟩)
  simp only [x_tn]
  refine aw_cond _ rfl trivial (fun ht4 => ?_) (fun hf4 => ?_)
  rotate_left
  · have he : l[k + k2] = l[k + k2 - 1] := by simpa using hf4
    rw [if_pos he, List.append_nil] at hdn
    simp only [x_skip, x_tn, x_bn]
    refine aw_reg 1700 (RG.go fun Q hQ => ?_)
    simp only [RX, eff, ev_t, ev_k, lk_cons, setS_cons, setS_nil, AOp.isCall, setD, setEs, presOf, AOp.needs, SV.one?, SV.pre, binV, idsOf, AOp.rds, AOp.ops, SV.ids, C.ids0, Option.map_some, List.map_nil, List.nil_append, true_and, and_self, Bool.false_eq_true, reduceCtorEq, Nat.reduceAdd, Nat.reduceEqDiff, ↓reduceIte, List.append_nil, hv1]
    refine hQ _ _ _ _ _ (RG.nil ?_)
    simp only [x_ln]
    refine ⟨⟨(k1, k2 + 1, cur), by simp only; omega, by simp only; omega, by simp only; omega, h4, ?_, by simp only; rw [h6, ← hdn]; rfl, by simp only; rw [← h7, ← hdn]; rfl⟩, ?_, by simp only; omega⟩
    · have := congrArg (List.drop 1) h5
      simp only [List.drop_drop] at this
      simp only
      rwa [show k + k2 - 1 + 1 = k + (k2 + 1) - 1 by omega] at this
    refine Le.lit [] [] _ _ ?_ ?_ ?_ ?_
    · skip
      simp only [allL, lk_cons, lkE_cons, lkE_nil, WkSV, WkSV1, WkC, WkC0, rlook, frzEs, Nat.reduceEqDiff, ↓reduceIte, reduceCtorEq, and_true, ne_eq, not_false_eq_true]
    · skip
      simp only [allL, lkE_cons, lkE_nil, WkEnt, rlook, frzEs, isDRows, Option.some.injEq, ↓reduceIte, reduceCtorEq, true_and, and_true, exists_eq_left', ne_eq, true_or]
      exact drows_nrow _
    · simp
    · simp [rlook]
  have he : l[k + k2] ≠ l[k + k2 - 1] := by simpa using ht4
  rw [if_neg he] at hdn
  have hk1c : k1 < cur.length := by omega
  have hs3 : (List.map nrow cur)[(k1 : Int).toNat]?.getD [] = [.v (.int .i64 cur[k1])] := by simp [hk1c, nrow]
  have hs4 : (List.map nrow cur).set (k1 : Int).toNat [C.v (Value.int IntKind.i64 l[k + k2])] = (cur.set k1 l[k + k2]).map nrow := by rw [List.map_set]; simp [nrow]
  simp only [x_seq]
  refine aw_reg 1700 (RG.go fun Q hQ => ?_)
  simp only [RX, eff, ev_t, lk_cons, lkE_cons, setS_cons, setS_nil, setE_cons, AOp.isCall, setD, setEs, presOf, AOp.needs, SV.one?, SV.pre, SV.cells, idsOf, AOp.rds, AOp.ops, SV.ids, C.ids0, Option.getD_some, splice, List.take_zero, List.drop_succ_cons, List.drop_zero, List.length_cons, List.length_nil, List.getElem?_cons_zero, List.map_cons, List.map_nil, List.nil_append, List.cons_append, and_true, true_and, and_self, Bool.false_eq_true, reduceCtorEq, Nat.reduceAdd, Nat.reduceEqDiff, Nat.reduceLT, ↓reduceIte, Nat.zero_add, Nat.le_refl, List.append_nil, C_default, hs1, hs3, hs4]
  refine ⟨⟨by omega, by simp; omega⟩, by simp; omega, ⟨by omega, by simp; omega⟩, by simp; omega, hQ _ _ _ _ _ (RG.nil ?_)⟩
  simp only [x_tn]
  refine aw_reg 1900 (RG.go fun Q hQ => ?_)
  simp only [RX, eff, ev_t, ev_k, lk_cons, setS_cons, setS_nil, AOp.isCall, setD, setEs, presOf, AOp.needs, SV.one?, SV.pre, binV, idsOf, AOp.rds, AOp.ops, SV.ids, C.ids0, Option.map_some, List.map_nil, List.nil_append, true_and, and_self, Bool.false_eq_true, reduceCtorEq, Nat.reduceAdd, Nat.reduceEqDiff, ↓reduceIte, List.append_nil, hv3]
  refine hQ _ _ _ _ _ (RG.nil ?_)
  simp only [x_tn, x_bn]
  refine aw_reg 2100 (RG.go fun Q hQ => ?_)
  simp only [RX, eff, ev_t, ev_k, lk_cons, setS_cons, setS_nil, AOp.isCall, setD, setEs, presOf, AOp.needs, SV.one?, SV.pre, binV, idsOf, AOp.rds, AOp.ops, SV.ids, C.ids0, Option.map_some, List.map_nil, List.nil_append, true_and, and_self, Bool.false_eq_true, reduceCtorEq, Nat.reduceAdd, Nat.reduceEqDiff, ↓reduceIte, List.append_nil, hv1]
  refine hQ _ _ _ _ _ (RG.nil ?_)
  simp only [x_ln]
  refine ⟨⟨(k1 + 1, k2 + 1, cur.set k1 l[k + k2]), by simp only; omega, by simp only; omega, by simp only; omega, by simp [h4], ?_, ?_, ?_⟩, ?_, by simp only; omega⟩
  · have := congrArg (List.drop 1) h5
    simp only [List.drop_drop] at this
    simp only
    rw [List.drop_set_of_lt (by omega)]
    rwa [show k + k2 - 1 + 1 = k + (k2 + 1) - 1 by omega] at this
  · simp only
    rw [set_take cur _ _ hk1c, h6, ← hdn]; rfl
  · simp only
    rw [show k + (k2 + 1) = k + k2 + 1 by omega, hdn, List.length_append, h7]; rfl
  refine Le.lit [] [] _ _ ?_ ?_ ?_ ?_
  · skip
    simp only [allL, lk_cons, lkE_cons, lkE_nil, WkSV, WkSV1, WkC, WkC0, rlook, frzEs, Nat.reduceEqDiff, ↓reduceIte, reduceCtorEq, and_true, ne_eq, not_false_eq_true]
  · skip
    simp only [allL, lkE_cons, lkE_nil, WkEnt, rlook, frzEs, isDRows, Option.some.injEq, ↓reduceIte, reduceCtorEq, true_and, and_true, exists_eq_left', ne_eq, true_or]
    exact drows_nrow _
  · simp
  · simp [rlook]


/-- The nodes among numbers, each once, in order. -/
def ofS (l : List Int) : List Int := dd (isort (l.filter mayN))

theorem dd_len : ∀ l : List Int, (dd l).length ≤ l.length
  | [] => by simp [dd]
  | [x] => by simp [dd]
  | x :: y :: r => by
    have := dd_len (y :: r)
    unfold dd
    split
    · simp at this ⊢; omega
    · simp at this ⊢; omega

theorem ofS_len (l : List Int) : (ofS l).length ≤ l.length := by
  have h1 := dd_len (isort (l.filter mayN))
  have h2 := (isort_perm (l.filter mayN)).length_eq
  have h3 := List.length_filter_le mayN l
  unfold ofS; omega

theorem conf_Of_con (l : List Int) (hb : l.length ≤ 12) : Con Try.prog 50 [.c (.sl (l.map nrow))] [] (.c (.osl 0)) [.arr 3 1 ((ofS l).map nrow) false] := by
  have hf := List.length_filter_le mayN l
  have hi := (isort_perm (l.filter mayN)).length_eq
  refine C_conf_Of (Nat.le_of_ble_eq_true rfl) (Nat.le_of_ble_eq_true rfl) ?_
  simp only [A_conf_Of, argL, objL, List.length_nil, x_seq]
  refine aw_reg 16 (RG.go fun Q hQ => ?_)
  simp only [RX, eff, ev_k, setS_cons, setS_nil, AOp.isCall, setD, setEs, presOf, AOp.needs, idsOf, AOp.rds, List.map_nil, List.nil_append, true_and, Bool.false_eq_true, reduceCtorEq, Nat.reduceAdd, ↓reduceIte]
  refine hQ _ _ _ _ _ (RG.nil ?_)
  simp only [x_seq, x_tn]
  refine aw_reg 160 (RG.go fun Q hQ => ?_)
  simp only [RX, eff, ev_t, lk_cons, setS_cons, setS_nil, AOp.isCall, setD, setEs, presOf, AOp.needs, idsOf, AOp.rds, List.map_nil, List.nil_append, true_and, Bool.false_eq_true, reduceCtorEq, Nat.reduceAdd, Nat.reduceEqDiff, ↓reduceIte]
  refine hQ _ _ _ _ _ ?_
  refine RG.callo [] [] (slices_Clone_int_int_con (l.map nrow) (drows_nrow _) (nrow_len _) (by simp; omega)) (.mk (tr_cons tr_sl tr_nil) (trivial) (by simp) (by simp) (trivial) (by simp [lkE_nil]) (by simp only [List.mem_singleton, forall_eq, Ent.pure]; exact drows_nrow _) (by simp) (by simp)) ?_
  refine RG.go fun Q hQ => ?_
  simp only [RX, lkE_nil, setS_cons, setS_nil, setE_nil, AOp.isCall, setD, setEs, List.drop_zero, List.length_cons, List.length_nil, List.map_cons, List.map_nil, List.nil_append, reduceCtorEq, Nat.reduceAdd, Nat.reduceEqDiff, ↓reduceIte, Nat.zero_add, renSV, renSV1, renC, renC0, rn, renEnt, backUps, List.zip_nil_left, List.zipIdx_cons, List.zipIdx_nil, List.filterMap_nil, List.append_nil, List.getElem?_nil, Nat.sub_self, Nat.sub_zero, Nat.add_zero]
  refine hQ _ _ _ _ _ ?_
  refine RG.callo [176] [] (slices_DeleteFunc_con l (by omega)) (.mk (tr_cons (tr_osl rfl) (tr_cons ⟨rfl, trivial⟩ tr_nil)) (by simp only [TrL, TrEnt, lkE_cons, ↓reduceIte, true_and, and_true, exists_eq_left', Option.some.injEq, isDRows]; exact drows_nrow _) (by simp) (by simp) (trivial) (by simp [lkE_cons, lkE_nil]) (pure2 (drows_nrow _)) (by simp) (by simp)) ?_
  refine RG.go fun Q hQ => ?_
  simp only [RX, eff, ev_t, lk_cons, lkE_cons, lkE_nil, setS_cons, setS_nil, setE_cons, setE_nil, AOp.isCall, setD, setEs, presOf, AOp.needs, idsOf, AOp.rds, List.drop_succ_cons, List.drop_zero, List.length_cons, List.length_nil, List.getElem?_cons_succ, List.map_cons, List.map_nil, List.nil_append, List.cons_append, true_and, Bool.false_eq_true, reduceCtorEq, Nat.reduceAdd, Nat.reduceEqDiff, Nat.reduceSub, ↓reduceIte, Nat.zero_add, renSV, renSV1, renC, renC0, rn, renEnt, backUps, List.zip_nil_left, List.zip_cons_cons, List.zipIdx_cons, List.zipIdx_nil, List.filterMap_nil, List.append_nil, List.getElem?_nil, Nat.sub_self, Nat.add_zero]
  refine hQ _ _ _ _ _ (RG.nil ?_)
  simp only [x_seq, x_tn]
  refine aw_reg 400 (RG.go fun Q hQ => ?_)
  simp only [RX, eff, ev_t, lk_cons, setS_cons, setS_nil, AOp.isCall, setD, setEs, presOf, AOp.needs, idsOf, AOp.rds, List.map_nil, List.nil_append, true_and, Bool.false_eq_true, reduceCtorEq, Nat.reduceAdd, Nat.reduceEqDiff, ↓reduceIte]
  refine hQ _ _ _ _ _ ?_
  refine RG.callo [192] [] (slices_Sort_con (l.filter mayN) (by omega)) (.mk (tr_cons (tr_osl rfl) tr_nil) (by simp only [TrL, TrEnt, lkE_cons, Nat.reduceEqDiff, ↓reduceIte, true_and, and_true, exists_eq_left', Option.some.injEq, isDRows]; exact drows_nrow _) (by simp) (by simp) (trivial) (by simp [lkE_cons, lkE_nil]) (by simp only [List.mem_singleton, forall_eq, Ent.pure]; exact drows_nrow _) (by simp) (by simp)) ?_
  refine RG.go fun Q hQ => ?_
  simp only [RX, lkE_cons, lkE_nil, setS_cons, setS_nil, setE_cons, setD, setEs, List.drop_succ_cons, List.drop_zero, List.length_cons, List.length_nil, List.map_cons, List.map_nil, reduceCtorEq, Nat.reduceAdd, Nat.reduceEqDiff, ↓reduceIte, Nat.zero_add, renSV, renEnt, backUps, List.zip_nil_right, List.zip_cons_cons, List.zipIdx_nil, List.filterMap_nil, List.append_nil, List.range_zero, Nat.sub_self]
  refine hQ _ _ _ _ _ (RG.nil ?_)
  simp only [x_seq, x_tn]
  refine aw_reg 600 (RG.go fun Q hQ => ?_)
  simp only [RX, eff, ev_t, lk_cons, setS_cons, setS_nil, AOp.isCall, setD, setEs, presOf, AOp.needs, idsOf, AOp.rds, List.map_nil, List.nil_append, true_and, Bool.false_eq_true, reduceCtorEq, Nat.reduceAdd, Nat.reduceEqDiff, ↓reduceIte]
  refine hQ _ _ _ _ _ ?_
  refine RG.callo [192] [] (slices_Compact_con (isort (l.filter mayN)) (by omega)) (.mk (tr_cons (tr_osl rfl) tr_nil) (by simp only [TrL, TrEnt, lkE_cons, Nat.reduceEqDiff, ↓reduceIte, true_and, and_true, exists_eq_left', Option.some.injEq, isDRows]; exact drows_nrow _) (by simp) (by simp) (trivial) (by simp [lkE_cons, lkE_nil]) (pure2 (drows_nrow _)) (by simp) (by simp)) ?_
  refine RG.go fun Q hQ => ?_
  simp only [RX, eff, ev_t, lk_cons, lkE_cons, lkE_nil, setS_cons, setS_nil, setE_cons, setE_nil, AOp.isCall, setD, setEs, presOf, AOp.needs, idsOf, AOp.rds, List.drop_succ_cons, List.drop_zero, List.length_cons, List.length_nil, List.getElem?_cons_succ, List.map_cons, List.map_nil, List.nil_append, List.cons_append, true_and, Bool.false_eq_true, reduceCtorEq, Nat.reduceAdd, Nat.reduceEqDiff, Nat.reduceSub, ↓reduceIte, Nat.zero_add, renSV, renSV1, renC, renC0, rn, renEnt, backUps, List.zip_nil_left, List.zip_cons_cons, List.zipIdx_cons, List.zipIdx_nil, List.filterMap_nil, List.append_nil, List.getElem?_nil, Nat.sub_self, Nat.add_zero]
  refine hQ _ _ _ _ _ (RG.nil ?_)
  simp only [x_ret, x_tn]
  refine Fin.objs [] [(0, 616)] (.inr rfl) rfl (by first | exact trivial | exact ⟨trivial, trivial⟩ | exact ⟨trivial, trivial, trivial⟩) ?_ ?_ (by simp [objL, rlook]) (by simp [objL, rlook])
  · simp only [mkSt_sl, lk_cons, lkE_cons, lkE_nil, WkSV, WkSV1, WkC, WkC0, rlook, frzEs, objL, ↓reduceIte, reduceCtorEq, and_true, ne_eq, not_false_eq_true]
  · simp only [allL, lkE_cons, lkE_nil, WkEnt, rlook, frzEs, objL, isDRows, Option.some.injEq, Nat.reduceEqDiff, ↓reduceIte, reduceCtorEq, true_and, and_true, exists_eq_left', ne_eq, true_or]
    exact ⟨rfl, drows_nrow _⟩


theorem slices_Equal_con (l m : List Int) (hb : l.length ≤ 1000000) : Con Try.prog 43 [.c (.sl (l.map nrow)), .c (.sl (m.map nrow))] [] (B (decide (l = m))) [] := by
  refine C_slices_Equal_int_int (Nat.le_of_ble_eq_true rfl) (Nat.le_of_ble_eq_true rfl) ?_
  simp only [A_slices_Equal_int_int, argL, objL, List.length_nil, Nat.zero_add, x_seq]
  refine aw_reg 16 (RG.go fun Q hQ => ?_)
  simp only [RX, eff, ev_k, setS_cons, setS_nil, AOp.isCall, setD, setEs, presOf, AOp.needs, idsOf, AOp.rds, List.map_nil, List.nil_append, true_and, Bool.false_eq_true, reduceCtorEq, Nat.reduceAdd, Nat.reduceEqDiff, ↓reduceIte]
  refine hQ _ _ _ _ _ (RG.nil ?_)
  simp only [x_seq, x_tn]
  refine aw_reg 160 (RG.go fun Q hQ => ?_)
  simp only [RX, eff, ev_t, lk_cons, setS_cons, setS_nil, AOp.isCall, setD, setEs, presOf, AOp.needs, SV.one?, SV.pre, binV, idsOf, AOp.rds, AOp.ops, SV.ids, C.ids0, rowsOf, Option.map_some, List.map_nil, List.nil_append, true_and, and_self, Bool.false_eq_true, reduceCtorEq, Nat.reduceAdd, Nat.reduceEqDiff, ↓reduceIte, Option.bind_some, List.append_nil]
  refine hQ _ _ _ _ _ (RG.nil ?_)
  simp only [x_tn]
  refine aw_cond _ rfl trivial (fun ht => ?_) (fun hf => ?_)
  · have hne : l ≠ m := by rintro rfl; simp at ht
    simp only [x_seq]
    refine aw_reg 320 (RG.go fun Q hQ => ?_)
    simp only [RX, eff, ev_k, setS_cons, AOp.isCall, setD, setEs, presOf, AOp.needs, idsOf, AOp.rds, List.map_nil, List.nil_append, true_and, Bool.false_eq_true, reduceCtorEq, Nat.reduceAdd, Nat.reduceEqDiff, ↓reduceIte]
    refine hQ _ _ _ _ _ (RG.nil ?_)
    simp only [x_ret, x_tn, x_tr]
    exact Fin.b (.inr rfl) rfl trivial (by simp [hne])
  have hlen : l.length = m.length := by simp at hf; omega
  simp only [x_seq, x_skip, x_tn]
  refine aw_reg 320 (RG.go fun Q hQ => ?_)
  simp only [RX, eff, ev_t, ev_k, lk_cons, setS_cons, setS_nil, AOp.isCall, setD, setEs, presOf, AOp.needs, SV.one?, SV.pre, idsOf, AOp.rds, AOp.ops, SV.ids, C.ids0, rowsOf, List.map_nil, List.nil_append, true_and, and_self, Bool.false_eq_true, reduceCtorEq, Nat.reduceAdd, Nat.reduceEqDiff, ↓reduceIte, Option.bind_some, List.append_nil]
  refine hQ _ _ _ _ _ (RG.nil ?_)
  simp only [x_block, x_tn]
  refine aw_loop (X := { i : Nat // i ≤ l.length ∧ l.take i = m.take i }) (fun i => mkSt [(0, .c (.sl (l.map nrow))), (1, .c (.sl (m.map nrow))), (12, I l.length), (13, I i.1)] []) (fun i => l.length - i.1) ⟨0, by omega, by simp⟩ ?_ ?_
  · refine Le.lit [] [] _ _ ?_ ?_ ?_ ?_
    · skip
      simp only [Int.cast_ofNat_Int, allL, lk_cons, lkE_nil, WkSV, WkSV1, WkC, WkC0, rlook, frzEs, Nat.reduceEqDiff, ↓reduceIte, reduceCtorEq, true_and, and_true, ne_eq, not_true_eq_false]
      simp
    · skip
      simp only [allL]
    · simp
    · simp
  rintro ⟨i, hi, htk⟩
  simp only [x_seq]
  refine aw_reg 480 (RG.go fun Q hQ => ?_)
  simp only [RX, eff, ev_t, lk_cons, setS_cons, setS_nil, AOp.isCall, setD, setEs, presOf, AOp.needs, SV.one?, SV.pre, binV, idsOf, AOp.rds, AOp.ops, SV.ids, C.ids0, Option.map_some, List.map_nil, List.nil_append, true_and, and_self, Bool.false_eq_true, reduceCtorEq, Nat.reduceAdd, Nat.reduceEqDiff, ↓reduceIte, List.append_nil]
  refine hQ _ _ _ _ _ (RG.nil ?_)
  simp only [x_seq, x_tn]
  refine aw_cond _ rfl trivial (fun ht => ?_) (fun hf => ?_)
  rotate_left
  · have hi' : i = l.length := by simp at hf; omega
    have he : l = m := by
      have h1 := htk
      rw [hi', List.take_length] at h1
      rw [hlen, List.take_length] at h1
      exact h1
    simp only [x_seq, x_exit, x_tn, x_tx, x_bx, x_lx, ↓reduceIte]
    refine aw_reg 640 (RG.go fun Q hQ => ?_)
    simp only [RX, eff, ev_k, setS_cons, setS_nil, AOp.isCall, setD, setEs, presOf, AOp.needs, idsOf, AOp.rds, List.map_nil, List.nil_append, true_and, Bool.false_eq_true, reduceCtorEq, Nat.reduceAdd, Nat.reduceEqDiff, ↓reduceIte]
    refine hQ _ _ _ _ _ (RG.nil ?_)
    simp only [x_ret, x_tn]
    exact Fin.b (.inr rfl) rfl trivial (by simp [he])
  have hi' : i < l.length := by simp at ht; omega
  have hm' : i < m.length := by omega
  have hr1 : (List.map nrow l)[(i : Int).toNat]?.getD [] = [.v (.int .i64 l[i])] := by simp [hi', nrow]
  have hr2 : (List.map nrow m)[(i : Int).toNat]?.getD [] = [.v (.int .i64 m[i])] := by simp [hm', nrow]
  have hw1 : IntKind.i64.wrap ((i : Int) + 1) = ((i + 1 : Nat) : Int) := by rw [w64 _ (by omega) (by omega)]; rfl
  simp only [x_seq, x_block, x_skip, x_tn]
  refine aw_reg 640 (RG.go fun Q hQ => ?_)
  simp only [RX, eff, ev_t, lk_cons, setS_cons, setS_nil, AOp.isCall, setD, setEs, presOf, AOp.needs, idsOf, AOp.rds, List.map_nil, List.nil_append, true_and, Bool.false_eq_true, reduceCtorEq, Nat.reduceAdd, Nat.reduceEqDiff, ↓reduceIte]
  refine hQ _ _ _ _ _ (RG.nil ?_)
  simp only [x_seq, x_tn]
  refine aw_draw 800 (RG.go fun Q hQ => ?_)
  simp only [RX, eff, ev_t, lk_cons, setS_cons, setS_nil, AOp.isCall, setD, setEs, presOf, AOp.needs, SV.one?, SV.pre, binV, idsOf, AOp.rds, AOp.ops, SV.ids, C.ids0, Option.getD_some, List.length_cons, List.length_nil, List.getElem?_cons_zero, Option.map_some, List.map_nil, List.nil_append, and_true, true_and, and_self, Bool.false_eq_true, reduceCtorEq, Nat.reduceAdd, Nat.reduceEqDiff, Nat.reduceLT, ↓reduceIte, Nat.zero_add, List.append_nil, C_default, hr1, hr2]
  refine ⟨⟨by omega, by simp; omega⟩, ⟨by omega, by simp; omega⟩, ?_⟩
  refine hQ _ _ _ _ _ (RG.nil ⟨by decide, ?_⟩)
  simp only [x_tn]
  refine aw_cond _ rfl trivial (fun ht2 => ?_) (fun hf2 => ?_)
  · have hne : l ≠ m := by
      rintro rfl
      simp at ht2
    simp only [x_seq]
    refine aw_reg 1000 (RG.go fun Q hQ => ?_)
    simp only [RX, eff, ev_k, setS_cons, setS_nil, AOp.isCall, setD, setEs, presOf, AOp.needs, idsOf, AOp.rds, List.map_nil, List.nil_append, true_and, Bool.false_eq_true, reduceCtorEq, Nat.reduceAdd, Nat.reduceEqDiff, ↓reduceIte]
    refine hQ _ _ _ _ _ (RG.nil ?_)
    simp only [x_ret, x_tn, x_tr, x_br, x_lr]
    exact Fin.b (.inr rfl) rfl trivial (by simp [hne])
  have he : l[i] = m[i] := by simpa using hf2
  simp only [x_skip, x_tn, x_bn]
  refine aw_reg 1000 (RG.go fun Q hQ => ?_)
  simp only [RX, eff, ev_t, ev_k, lk_cons, setS_cons, setS_nil, AOp.isCall, setD, setEs, presOf, AOp.needs, SV.one?, SV.pre, binV, idsOf, AOp.rds, AOp.ops, SV.ids, C.ids0, Option.map_some, List.map_nil, List.nil_append, true_and, and_self, Bool.false_eq_true, reduceCtorEq, Nat.reduceAdd, Nat.reduceEqDiff, ↓reduceIte, List.append_nil, hw1]
  refine hQ _ _ _ _ _ (RG.nil ?_)
  simp only [x_ln]
  refine ⟨⟨i + 1, hi', by rw [take_one l i hi', take_one m i hm', htk, he]⟩, ?_, by simp; omega⟩
  refine Le.lit [] [] _ _ ?_ ?_ ?_ ?_
  · skip
    simp only [allL, lk_cons, lkE_nil, WkSV, WkSV1, WkC, WkC0, rlook, frzEs, Nat.reduceEqDiff, ↓reduceIte, reduceCtorEq, and_true, ne_eq, not_true_eq_false]
  · skip
    simp only [allL]
  · simp
  · simp

theorem mementoref6_SameInts_con (l m : List Int) (hb : l.length ≤ 1000000) : Con Try.prog 44 [.c (.sl (l.map nrow)), .c (.sl (m.map nrow))] [] (B (decide (l = m))) [] := by
  refine C_mementoref6_SameInts (Nat.le_of_ble_eq_true rfl) (Nat.le_of_ble_eq_true rfl) ?_
  simp only [A_mementoref6_SameInts, argL, objL, List.length_nil, Nat.zero_add, x_seq]
  refine aw_reg 16 (RG.go fun Q hQ => ?_)
  simp only [RX, eff, ev_k, setS_cons, setS_nil, AOp.isCall, setD, setEs, presOf, AOp.needs, idsOf, AOp.rds, List.map_nil, List.nil_append, true_and, Bool.false_eq_true, reduceCtorEq, Nat.reduceAdd, Nat.reduceEqDiff, ↓reduceIte]
  refine hQ _ _ _ _ _ (RG.nil ?_)
  simp only [x_seq, x_tn]
  refine aw_reg 160 (RG.go fun Q hQ => ?_)
  simp only [RX, eff, ev_t, lk_cons, setS_cons, setS_nil, AOp.isCall, setD, setEs, presOf, AOp.needs, SV.one?, SV.pre, binV, idsOf, AOp.rds, AOp.ops, SV.ids, C.ids0, rowsOf, Option.map_some, List.map_nil, List.nil_append, true_and, and_self, Bool.false_eq_true, reduceCtorEq, Nat.reduceAdd, Nat.reduceEqDiff, ↓reduceIte, Option.bind_some, List.append_nil]
  refine hQ _ _ _ _ _ (RG.nil ?_)
  simp only [x_tn]
  refine aw_cond _ rfl trivial (fun ht => ?_) (fun hf => ?_)
  · have hne : l ≠ m := by rintro rfl; simp at ht
    simp only [x_seq]
    refine aw_reg 320 (RG.go fun Q hQ => ?_)
    simp only [RX, eff, ev_k, setS_cons, AOp.isCall, setD, setEs, presOf, AOp.needs, idsOf, AOp.rds, List.map_nil, List.nil_append, true_and, Bool.false_eq_true, reduceCtorEq, Nat.reduceAdd, Nat.reduceEqDiff, ↓reduceIte]
    refine hQ _ _ _ _ _ (RG.nil ?_)
    simp only [x_ret, x_tn, x_tr]
    exact Fin.b (.inr rfl) rfl trivial (by simp [hne])
  have hlen : l.length = m.length := by simp at hf; omega
  simp only [x_seq, x_skip, x_tn]
  refine aw_reg 320 (RG.go fun Q hQ => ?_)
  simp only [RX, eff, ev_k, setS_cons, setS_nil, AOp.isCall, setD, setEs, presOf, AOp.needs, idsOf, AOp.rds, List.map_nil, List.nil_append, true_and, Bool.false_eq_true, reduceCtorEq, Nat.reduceAdd, Nat.reduceEqDiff, ↓reduceIte]
  refine hQ _ _ _ _ _ (RG.nil ?_)
  simp only [x_block, x_tn]
  refine aw_loop (X := { i : Nat // i ≤ l.length ∧ l.take i = m.take i }) (fun i => mkSt [(0, .c (.sl (l.map nrow))), (1, .c (.sl (m.map nrow))), (5, I i.1)] []) (fun i => l.length - i.1) ⟨0, by omega, by simp⟩ ?_ ?_
  · refine Le.lit [] [] _ _ ?_ ?_ ?_ ?_
    · skip
      simp only [Int.cast_ofNat_Int, allL, lk_cons, lkE_nil, WkSV, WkSV1, WkC, WkC0, rlook, frzEs, Nat.reduceEqDiff, ↓reduceIte, reduceCtorEq, and_true, ne_eq, not_true_eq_false]
      skip
    · skip
      simp only [allL]
    · simp
    · simp
  rintro ⟨i, hi, htk⟩
  simp only [x_seq]
  refine aw_reg 480 (RG.go fun Q hQ => ?_)
  simp only [RX, eff, ev_t, lk_cons, setS_cons, setS_nil, AOp.isCall, setD, setEs, presOf, AOp.needs, SV.one?, SV.pre, binV, idsOf, AOp.rds, AOp.ops, SV.ids, C.ids0, rowsOf, Option.map_some, List.map_nil, List.nil_append, true_and, and_self, Bool.false_eq_true, reduceCtorEq, Nat.reduceAdd, Nat.reduceEqDiff, ↓reduceIte, Option.bind_some, List.append_nil]
  refine hQ _ _ _ _ _ (RG.nil ?_)
  simp only [x_tn]
  refine aw_cond _ rfl trivial (fun ht => ?_) (fun hf => ?_)
  rotate_left
  · have hi' : i = l.length := by simp at hf; omega
    have he : l = m := by
      have h1 := htk
      rw [hi', List.take_length] at h1
      rw [hlen, List.take_length] at h1
      exact h1
    simp only [x_seq, x_exit, x_tn, x_tx, x_bx, x_lx, ↓reduceIte]
    refine aw_reg 640 (RG.go fun Q hQ => ?_)
    simp only [RX, eff, ev_k, setS_cons, setS_nil, AOp.isCall, setD, setEs, presOf, AOp.needs, idsOf, AOp.rds, List.map_nil, List.nil_append, true_and, Bool.false_eq_true, reduceCtorEq, Nat.reduceAdd, Nat.reduceEqDiff, ↓reduceIte]
    refine hQ _ _ _ _ _ (RG.nil ?_)
    simp only [x_ret, x_tn]
    exact Fin.b (.inr rfl) rfl trivial (by simp [he])
  have hi' : i < l.length := by simp at ht; omega
  have hm' : i < m.length := by omega
  have hr1 : (List.map nrow l)[(i : Int).toNat]?.getD [] = [.v (.int .i64 l[i])] := by simp [hi', nrow]
  have hr2 : (List.map nrow m)[(i : Int).toNat]?.getD [] = [.v (.int .i64 m[i])] := by simp [hm', nrow]
  have hw1 : IntKind.i64.wrap ((i : Int) + 1) = ((i + 1 : Nat) : Int) := by rw [w64 _ (by omega) (by omega)]; rfl
  simp only [x_seq, x_block, x_skip, x_tn]
  skip
  refine aw_draw 800 (RG.go fun Q hQ => ?_)
  simp only [RX, eff, ev_t, lk_cons, setS_cons, setS_nil, AOp.isCall, setD, setEs, presOf, AOp.needs, SV.one?, SV.pre, binV, idsOf, AOp.rds, AOp.ops, SV.ids, C.ids0, Option.getD_some, List.length_cons, List.length_nil, List.getElem?_cons_zero, Option.map_some, List.map_nil, List.nil_append, and_true, true_and, and_self, Bool.false_eq_true, reduceCtorEq, Nat.reduceAdd, Nat.reduceEqDiff, Nat.reduceLT, ↓reduceIte, Nat.zero_add, List.append_nil, C_default, hr1, hr2]
  refine ⟨⟨by omega, by simp; omega⟩, ⟨by omega, by simp; omega⟩, ?_⟩
  refine hQ _ _ _ _ _ (RG.nil ⟨by decide, ?_⟩)
  simp only [x_tn]
  refine aw_cond _ rfl trivial (fun ht2 => ?_) (fun hf2 => ?_)
  · have hne : l ≠ m := by
      rintro rfl
      simp at ht2
    simp only [x_seq]
    refine aw_reg 1000 (RG.go fun Q hQ => ?_)
    simp only [RX, eff, ev_k, setS_cons, setS_nil, AOp.isCall, setD, setEs, presOf, AOp.needs, idsOf, AOp.rds, List.map_nil, List.nil_append, true_and, Bool.false_eq_true, reduceCtorEq, Nat.reduceAdd, Nat.reduceEqDiff, ↓reduceIte]
    refine hQ _ _ _ _ _ (RG.nil ?_)
    simp only [x_ret, x_tn, x_tr, x_br, x_lr]
    exact Fin.b (.inr rfl) rfl trivial (by simp [hne])
  have he : l[i] = m[i] := by simpa using hf2
  simp only [x_skip, x_tn, x_bn]
  refine aw_reg 1000 (RG.go fun Q hQ => ?_)
  simp only [RX, eff, ev_t, ev_k, lk_cons, setS_cons, setS_nil, AOp.isCall, setD, setEs, presOf, AOp.needs, SV.one?, SV.pre, binV, idsOf, AOp.rds, AOp.ops, SV.ids, C.ids0, Option.map_some, List.map_nil, List.nil_append, true_and, and_self, Bool.false_eq_true, reduceCtorEq, Nat.reduceAdd, Nat.reduceEqDiff, ↓reduceIte, List.append_nil, hw1]
  refine hQ _ _ _ _ _ (RG.nil ?_)
  simp only [x_ln]
  refine ⟨⟨i + 1, hi', by rw [take_one l i hi', take_one m i hm', htk, he]⟩, ?_, by simp; omega⟩
  refine Le.lit [] [] _ _ ?_ ?_ ?_ ?_
  · skip
    simp only [allL, lk_cons, lkE_nil, WkSV, WkSV1, WkC, WkC0, rlook, frzEs, Nat.reduceEqDiff, ↓reduceIte, reduceCtorEq, and_true, ne_eq, not_true_eq_false]
  · skip
    simp only [allL]
  · simp
  · simp

end Go.Abs
namespace Go.Abs
open Go Go.Proofs
set_option maxRecDepth 100000
set_option linter.unusedSimpArgs false

theorem dd_mem (x : Int) : ∀ l : List Int, x ∈ dd l ↔ x ∈ l
  | [] => by simp [dd]
  | [y] => by simp [dd]
  | y :: z :: r => by
    have ih := dd_mem x (z :: r)
    unfold dd
    split
    · rename_i h; subst h; rw [ih]; simp
    · rw [List.mem_cons, ih, List.mem_cons (a := x) (b := y)]

theorem dd_sorted : ∀ l : List Int, l.Pairwise (· ≤ ·) → (dd l).Pairwise (· < ·)
  | [], _ => by simp [dd]
  | [y], _ => by simp [dd]
  | y :: z :: r, h => by
    rw [List.pairwise_cons] at h
    have ih := dd_sorted (z :: r) h.2
    unfold dd
    split
    · exact ih
    · rename_i hne
      rw [List.pairwise_cons]
      refine ⟨fun x hx => ?_, ih⟩
      have hx' := (dd_mem x (z :: r)).1 hx
      have hyz := h.1 z (by simp)
      rcases List.mem_cons.1 hx' with rfl | hx'
      · omega
      · have hz := (List.pairwise_cons.1 h.2).1 x hx'
        omega

theorem strict_eq : ∀ {l m : List Int}, (∀ x, x ∈ l ↔ x ∈ m) → l.Pairwise (· < ·) → m.Pairwise (· < ·) → l = m
  | [], [], _, _, _ => rfl
  | [], y :: m, h, _, _ => by have := (h y).2 (by simp); simp at this
  | x :: l, [], h, _, _ => by have := (h x).1 (by simp); simp at this
  | x :: l, y :: m, h, hl, hm => by
    rw [List.pairwise_cons] at hl hm
    have h1 : x = y := by
      rcases List.mem_cons.1 ((h x).1 (by simp)) with e | hx
      · exact e
      · rcases List.mem_cons.1 ((h y).2 (by simp)) with e | hy
        · exact e.symm
        · have := hm.1 x hx; have := hl.1 y hy; omega
    subst h1
    rw [strict_eq (fun z => ?_) hl.2 hm.2]
    constructor
    · intro hz
      rcases List.mem_cons.1 ((h z).1 (List.mem_cons_of_mem _ hz)) with rfl | hz'
      · exact absurd (hl.1 z hz) (Int.lt_irrefl _)
      · exact hz'
    · intro hz
      rcases List.mem_cons.1 ((h z).2 (List.mem_cons_of_mem _ hz)) with rfl | hz'
      · exact absurd (hm.1 z hz) (Int.lt_irrefl _)
      · exact hz'

/-- The first so many nodes, those among numbers. -/
def ofN (l : List Int) (n : Nat) : List Int := ((List.range n).map fun (k : Nat) => (k : Int)).filter fun k => decide (k ∈ l)

theorem ofN_succ (l : List Int) (n : Nat) : ofN l (n + 1) = ofN l n ++ if (n : Int) ∈ l then [(n : Int)] else [] := by
  unfold ofN
  rw [List.range_succ, List.map_append, List.filter_append]
  by_cases h : (n : Int) ∈ l <;> simp [h]

theorem ofN_len (l : List Int) (n : Nat) : (ofN l n).length ≤ n := by
  unfold ofN
  have := List.length_filter_le (fun k => decide (k ∈ l)) ((List.range n).map fun (k : Nat) => (k : Int))
  simpa using this

theorem ofN_ofS (l : List Int) : ofN l 7 = ofS l := by
  refine strict_eq (fun x => ?_) ?_ (dd_sorted _ (isort_sorted _))
  · unfold ofS
    rw [dd_mem, (isort_perm _).mem_iff, List.mem_filter]
    unfold ofN mayN
    simp only [List.mem_filter, List.mem_map, List.mem_range, decide_eq_true_eq, Bool.and_eq_true]
    constructor
    · rintro ⟨⟨k, hk, rfl⟩, h⟩; exact ⟨h, by omega, by omega⟩
    · rintro ⟨h, h1, h2⟩; exact ⟨⟨x.toNat, by omega, by omega⟩, h⟩
  · unfold ofN
    refine List.Pairwise.filter _ ?_
    decide

theorem mementoref6_Has_con (l : List Int) (n : Int) (hb : l.length ≤ 1000000) : Con Try.prog 40 [.c (.sl (l.map nrow)), I n] [] (B (decide (n ∈ l))) [] := by
  refine C_mementoref6_Has (Nat.le_of_ble_eq_true rfl) (Nat.le_of_ble_eq_true rfl) ?_
  simp only [A_mementoref6_Has, argL, objL, List.length_nil, Nat.zero_add, x_seq]
  refine aw_reg 16 (RG.go fun Q hQ => ?_)
  simp only [RX, eff, ev_k, setS_cons, setS_nil, AOp.isCall, setD, setEs, presOf, AOp.needs, idsOf, AOp.rds, List.map_nil, List.nil_append, true_and, Bool.false_eq_true, reduceCtorEq, Nat.reduceAdd, Nat.reduceEqDiff, ↓reduceIte]
  refine hQ _ _ _ _ _ (RG.nil ?_)
  simp only [x_seq, x_tn]
  refine aw_reg 160 (RG.go fun Q hQ => ?_)
  simp only [RX, eff, ev_k, setS_cons, setS_nil, AOp.isCall, setD, setEs, presOf, AOp.needs, idsOf, AOp.rds, List.map_nil, List.nil_append, true_and, Bool.false_eq_true, reduceCtorEq, Nat.reduceAdd, Nat.reduceEqDiff, ↓reduceIte]
  refine hQ _ _ _ _ _ (RG.nil ?_)
  simp only [x_block, x_tn]
  refine aw_loop (X := { i : Nat // i ≤ l.length ∧ n ∉ l.take i }) (fun i => mkSt [(0, .c (.sl (l.map nrow))), (1, I n), (5, I i.1)] []) (fun i => l.length - i.1) ⟨0, by omega, by simp⟩ ?_ ?_
  · refine Le.lit [] [] _ _ ?_ ?_ ?_ ?_
    · skip
      simp only [Int.cast_ofNat_Int, allL, lk_cons, lkE_nil, WkSV, WkSV1, WkC, WkC0, rlook, frzEs, Nat.reduceEqDiff, ↓reduceIte, reduceCtorEq, and_true, ne_eq, not_true_eq_false]
    · skip
      simp only [allL]
    · simp
    · simp
  rintro ⟨i, hi, hnt⟩
  simp only [x_seq]
  refine aw_reg 480 (RG.go fun Q hQ => ?_)
  simp only [RX, eff, ev_t, lk_cons, setS_cons, setS_nil, AOp.isCall, setD, setEs, presOf, AOp.needs, SV.one?, SV.pre, binV, idsOf, AOp.rds, AOp.ops, SV.ids, C.ids0, rowsOf, Option.map_some, List.map_nil, List.nil_append, true_and, and_self, Bool.false_eq_true, reduceCtorEq, Nat.reduceAdd, Nat.reduceEqDiff, ↓reduceIte, Option.bind_some, List.append_nil]
  refine hQ _ _ _ _ _ (RG.nil ?_)
  simp only [x_tn]
  refine aw_cond _ rfl trivial (fun ht => ?_) (fun hf => ?_)
  rotate_left
  · have hi' : i = l.length := by simp at hf; omega
    have hn : n ∉ l := by have h1 := hnt; rw [hi', List.take_length] at h1; exact h1
    simp only [x_seq, x_exit, x_tn, x_tx, x_bx, x_lx, ↓reduceIte]
    refine aw_reg 640 (RG.go fun Q hQ => ?_)
    simp only [RX, eff, ev_k, setS_cons, setS_nil, AOp.isCall, setD, setEs, presOf, AOp.needs, idsOf, AOp.rds, List.map_nil, List.nil_append, true_and, Bool.false_eq_true, reduceCtorEq, Nat.reduceAdd, Nat.reduceEqDiff, ↓reduceIte]
    refine hQ _ _ _ _ _ (RG.nil ?_)
    simp only [x_ret, x_tn]
    exact Fin.b (.inr rfl) rfl trivial (by simp [hn])
  have hi' : i < l.length := by simp at ht; omega
  have hr1 : (List.map nrow l)[(i : Int).toNat]?.getD [] = [.v (.int .i64 l[i])] := by simp [hi', nrow]
  have hw1 : IntKind.i64.wrap ((i : Int) + 1) = ((i + 1 : Nat) : Int) := by rw [w64 _ (by omega) (by omega)]; rfl
  simp only [x_seq, x_block, x_skip, x_tn]
  refine aw_reg 800 (RG.go fun Q hQ => ?_)
  simp only [RX, eff, ev_t, lk_cons, setS_cons, setS_nil, AOp.isCall, setD, setEs, presOf, AOp.needs, SV.one?, SV.pre, binV, idsOf, AOp.rds, AOp.ops, SV.ids, C.ids0, Option.getD_some, List.length_cons, List.length_nil, List.getElem?_cons_zero, Option.map_some, List.map_nil, List.nil_append, and_true, true_and, and_self, Bool.false_eq_true, reduceCtorEq, Nat.reduceAdd, Nat.reduceEqDiff, Nat.reduceLT, ↓reduceIte, Nat.zero_add, List.append_nil, C_default, hr1]
  refine ⟨by simp; omega, hQ _ _ _ _ _ (RG.nil ?_)⟩
  simp only [x_tn]
  refine aw_cond _ rfl trivial (fun ht2 => ?_) (fun hf2 => ?_)
  · have he : l[i] = n := by simpa using ht2
    have hn : n ∈ l := by rw [← he]; exact List.getElem_mem hi'
    simp only [x_seq]
    refine aw_reg 1000 (RG.go fun Q hQ => ?_)
    simp only [RX, eff, ev_k, setS_cons, setS_nil, AOp.isCall, setD, setEs, presOf, AOp.needs, idsOf, AOp.rds, List.map_nil, List.nil_append, true_and, Bool.false_eq_true, reduceCtorEq, Nat.reduceAdd, Nat.reduceEqDiff, ↓reduceIte]
    refine hQ _ _ _ _ _ (RG.nil ?_)
    simp only [x_ret, x_tn, x_tr, x_br, x_lr]
    exact Fin.b (.inr rfl) rfl trivial (by simp [hn])
  have he : ¬ l[i] = n := by simpa using hf2
  simp only [x_skip, x_tn, x_bn]
  refine aw_reg 1000 (RG.go fun Q hQ => ?_)
  simp only [RX, eff, ev_t, ev_k, lk_cons, setS_cons, setS_nil, AOp.isCall, setD, setEs, presOf, AOp.needs, SV.one?, SV.pre, binV, idsOf, AOp.rds, AOp.ops, SV.ids, C.ids0, Option.map_some, List.map_nil, List.nil_append, true_and, and_self, Bool.false_eq_true, reduceCtorEq, Nat.reduceAdd, Nat.reduceEqDiff, ↓reduceIte, List.append_nil, hw1]
  refine hQ _ _ _ _ _ (RG.nil ?_)
  simp only [x_ln]
  refine ⟨⟨i + 1, hi', by rw [take_one l i hi']; simp only [List.mem_append, List.mem_singleton, not_or]; exact ⟨hnt, fun h => he h.symm⟩⟩, ?_, by simp; omega⟩
  refine Le.lit [] [] _ _ ?_ ?_ ?_ ?_
  · skip
    simp only [allL, lk_cons, lkE_nil, WkSV, WkSV1, WkC, WkC0, rlook, frzEs, Nat.reduceEqDiff, ↓reduceIte, reduceCtorEq, and_true, ne_eq, not_true_eq_false]
  · skip
    simp only [allL]
  · simp
  · simp

theorem mementoref6_Of_con (l : List Int) (hb : l.length ≤ 1000000) : Con Try.prog 18 [.c (.sl (l.map nrow))] [] (.c (.osl 0)) [.arr 3 1 ((ofS l).map nrow) false] := by
  refine C_mementoref6_Of (Nat.le_of_ble_eq_true rfl) (Nat.le_of_ble_eq_true rfl) ?_
  simp only [A_mementoref6_Of, argL, objL, List.length_nil, x_seq]
  refine aw_reg 16 (RG.go fun Q hQ => ?_)
  simp only [RX, eff, ev_k, setS_cons, setS_nil, AOp.isCall, setD, setEs, presOf, AOp.needs, idsOf, AOp.rds, List.map_nil, List.nil_append, true_and, Bool.false_eq_true, reduceCtorEq, Nat.reduceAdd, ↓reduceIte]
  refine hQ _ _ _ _ _ (RG.nil ?_)
  simp only [x_seq, x_tn]
  refine aw_reg 160 (RG.go fun Q hQ => ?_)
  simp only [RX, eff, ev_k, setS_cons, setS_nil, AOp.isCall, setD, setEs, presOf, AOp.needs, idsOf, AOp.rds, List.map_nil, List.nil_append, true_and, Bool.false_eq_true, reduceCtorEq, Nat.reduceAdd, Nat.reduceEqDiff, ↓reduceIte]
  refine hQ _ _ _ _ _ (RG.nil ?_)
  simp only [x_seq, x_tn]
  refine aw_reg 320 (RG.go fun Q hQ => ?_)
  simp only [RX, eff, ev_k, setS_cons, setS_nil, AOp.isCall, setD, setEs, presOf, AOp.needs, idsOf, AOp.rds, List.map_nil, List.nil_append, true_and, Bool.false_eq_true, reduceCtorEq, Nat.reduceAdd, Nat.reduceEqDiff, ↓reduceIte]
  refine hQ _ _ _ _ _ (RG.nil ?_)
  simp only [x_block, x_tn]
  refine aw_loop (X := { i : Nat // i ≤ 7 }) (fun i => mkSt [(0, .c (.sl (l.map nrow))), (3, .c (.osl 1000)), (4, I i.1)] [(1000, .arr 3 1 ((ofN l i.1).map nrow) false)]) (fun i => 7 - i.1) ⟨0, by omega⟩ ?_ ?_
  · refine (Le.own 3 1000 3 1 rfl rfl (by decide)).trans (Le.lit [] [] _ _ ?_ ?_ ?_ ?_)
    · skip
      simp only [Int.cast_ofNat_Int, allL, lk_cons, lkE_cons, lkE_nil, WkSV, WkSV1, WkC, WkC0, rlook, frzEs, setE_nil, setS_cons, Nat.reduceEqDiff, ↓reduceIte, reduceCtorEq, and_true, ne_eq, not_false_eq_true]
    · skip
      simp only [allL, lkE_cons, lkE_nil, WkEnt, rlook, frzEs, setE_nil, isDRows, Option.some.injEq, ↓reduceIte, reduceCtorEq, true_and, and_true, exists_eq_left', ne_eq, true_or]
      simp [ofN]
    · simp
    · simp
  rintro ⟨i, hi⟩
  simp only [x_seq]
  refine aw_reg 480 (RG.go fun Q hQ => ?_)
  simp only [RX, eff, ev_t, ev_k, lk_cons, setS_cons, setS_nil, AOp.isCall, setD, setEs, presOf, AOp.needs, SV.one?, SV.pre, binV, idsOf, AOp.rds, AOp.ops, SV.ids, C.ids0, Option.map_some, List.map_nil, List.nil_append, true_and, and_self, Bool.false_eq_true, reduceCtorEq, Nat.reduceAdd, Nat.reduceEqDiff, ↓reduceIte, List.append_nil]
  refine hQ _ _ _ _ _ (RG.nil ?_)
  simp only [x_tn]
  refine aw_cond _ rfl trivial (fun ht => ?_) (fun hf => ?_)
  rotate_left
  · have hi' : i = 7 := by simp at hf; omega
    have he : ofN l i = ofS l := by rw [hi']; exact ofN_ofS l
    simp only [x_seq, x_exit, x_tn, x_tx, x_bx, x_lx, ↓reduceIte]
    refine aw_reg 640 (RG.go fun Q hQ => ?_)
    simp only [RX, eff, ev_t, lk_cons, setS_cons, setS_nil, AOp.isCall, setD, setEs, presOf, AOp.needs, idsOf, AOp.rds, List.map_nil, List.nil_append, true_and, Bool.false_eq_true, reduceCtorEq, Nat.reduceAdd, Nat.reduceEqDiff, ↓reduceIte]
    refine hQ _ _ _ _ _ (RG.nil ?_)
    simp only [x_ret, x_tn]
    refine Fin.objs [] [(0, 1000)] (.inr rfl) rfl (by first | exact trivial | exact ⟨trivial, trivial⟩ | exact ⟨trivial, trivial, trivial⟩) ?_ ?_ (by simp [objL, rlook]) (by simp [objL, rlook])
    · simp only [mkSt_sl, lk_cons, lkE_cons, lkE_nil, WkSV, WkSV1, WkC, WkC0, rlook, frzEs, objL, Nat.reduceEqDiff, ↓reduceIte, reduceCtorEq, and_true, ne_eq, not_false_eq_true]
    · simp only [allL, lkE_cons, lkE_nil, WkEnt, rlook, frzEs, objL, isDRows, Option.some.injEq, ↓reduceIte, reduceCtorEq, true_and, and_true, exists_eq_left', ne_eq, true_or]
      exact ⟨by rw [he], drows_nrow _⟩
  have hi' : i < 7 := by simp at ht; omega
  have hw1 : IntKind.i64.wrap ((i : Int) + 1) = ((i + 1 : Nat) : Int) := by rw [w64 _ (by omega) (by omega)]; rfl
  have hs := ofN_succ l i
  have hl := ofN_len l i
  simp only [x_seq, x_block, x_skip, x_tn]
  refine aw_reg 800 (RG.go fun Q hQ => ?_)
  simp only [RX, eff, ev_t, lk_cons, setS_cons, setS_nil, AOp.isCall, setD, setEs, presOf, AOp.needs, idsOf, AOp.rds, List.map_nil, List.nil_append, true_and, Bool.false_eq_true, reduceCtorEq, Nat.reduceAdd, Nat.reduceEqDiff, ↓reduceIte]
  refine hQ _ _ _ _ _ ?_
  refine RG.call [] (mementoref6_Has_con l i hb) (tr_cons tr_sl (tr_cons tr_v tr_nil)) (trivial) (.inl trivial) ?_
  refine RG.go fun Q hQ => ?_
  simp only [RX, setS_cons, setS_nil, setD, reduceCtorEq, Nat.reduceAdd, Nat.reduceEqDiff, ↓reduceIte]
  refine hQ _ _ _ _ _ (RG.nil ?_)
  simp only [x_tn]
  refine aw_cond _ rfl trivial (fun ht2 => ?_) (fun hf2 => ?_)
  · have he : (i : Int) ∈ l := by simpa using ht2
    rw [if_pos he] at hs
    refine aw_reg 1000 (RG.go fun Q hQ => ?_)
    simp only [RX, eff, ev_t, lk_cons, lkE_cons, lkE_nil, setS_cons, setS_nil, setE_cons, setE_nil, AOp.isCall, setD, setEs, presOf, AOp.needs, SV.one?, SV.pre, SV.cells, idsOf, AOp.rds, AOp.ops, SV.ids, C.ids0, rowsOf, srcOf, bSRows, List.length_cons, List.length_nil, Option.map_some, List.map_cons, List.map_nil, List.nil_append, List.cons_append, true_and, and_self, Bool.false_eq_true, reduceCtorEq, Nat.reduceAdd, Nat.reduceEqDiff, ↓reduceIte, Nat.zero_add, List.append_nil]
    refine ⟨⟨by simp, by simp; omega⟩, hQ _ _ _ _ _ (RG.nil ?_)⟩
    simp only [x_tn, x_bn]
    refine aw_reg 1200 (RG.go fun Q hQ => ?_)
    simp only [RX, eff, ev_t, ev_k, lk_cons, setS_cons, setS_nil, AOp.isCall, setD, setEs, presOf, AOp.needs, SV.one?, SV.pre, binV, idsOf, AOp.rds, AOp.ops, SV.ids, C.ids0, Option.map_some, List.map_nil, List.nil_append, true_and, and_self, Bool.false_eq_true, reduceCtorEq, Nat.reduceAdd, Nat.reduceEqDiff, ↓reduceIte, List.append_nil, hw1]
    refine hQ _ _ _ _ _ (RG.nil ?_)
    simp only [x_ln]
    refine ⟨⟨i + 1, by omega⟩, ?_, by simp; omega⟩
    refine Le.lit [] [(1000, 1048)] _ _ ?_ ?_ ?_ ?_
    · skip
      simp only [allL, lk_cons, lkE_cons, lkE_nil, WkSV, WkSV1, WkC, WkC0, rlook, frzEs, Nat.reduceEqDiff, ↓reduceIte, reduceCtorEq, and_true, ne_eq, not_false_eq_true]
    · skip
      simp only [allL, lkE_cons, lkE_nil, WkEnt, rlook, frzEs, isDRows, Option.some.injEq, Nat.reduceEqDiff, ↓reduceIte, reduceCtorEq, true_and, and_true, exists_eq_left', ne_eq, true_or]
      exact ⟨by rw [hs, List.map_append]; rfl, drows_nrow _⟩
    · simp
    · simp
  have he : ¬ (i : Int) ∈ l := by simpa using hf2
  rw [if_neg he, List.append_nil] at hs
  simp only [x_skip, x_tn, x_bn]
  refine aw_reg 1200 (RG.go fun Q hQ => ?_)
  simp only [RX, eff, ev_t, ev_k, lk_cons, setS_cons, setS_nil, AOp.isCall, setD, setEs, presOf, AOp.needs, SV.one?, SV.pre, binV, idsOf, AOp.rds, AOp.ops, SV.ids, C.ids0, Option.map_some, List.map_nil, List.nil_append, true_and, and_self, Bool.false_eq_true, reduceCtorEq, Nat.reduceAdd, Nat.reduceEqDiff, ↓reduceIte, List.append_nil, hw1]
  refine hQ _ _ _ _ _ (RG.nil ?_)
  simp only [x_ln]
  refine ⟨⟨i + 1, by omega⟩, ?_, by simp; omega⟩
  refine Le.lit [] [] _ _ ?_ ?_ ?_ ?_
  · skip
    simp only [allL, lk_cons, lkE_cons, lkE_nil, WkSV, WkSV1, WkC, WkC0, rlook, frzEs, Nat.reduceEqDiff, ↓reduceIte, reduceCtorEq, and_true, ne_eq, not_false_eq_true]
  · skip
    simp only [allL, lkE_cons, lkE_nil, WkEnt, rlook, frzEs, isDRows, Option.some.injEq, ↓reduceIte, reduceCtorEq, true_and, and_true, exists_eq_left', ne_eq, true_or]
    exact ⟨by rw [hs], drows_nrow _⟩
  · simp
  · simp

/-- May these be the members? -/
def rightS (l : List Int) : Bool := decide (0 < l.length) && decide (l = ofS l)

theorem conf_Right_con (l : List Int) (hb : l.length ≤ 12) : Con Try.prog 41 [.c (.sl (l.map nrow))] [] (B (rightS l)) [] := by
  refine C_conf_Right (Nat.le_of_ble_eq_true rfl) (Nat.le_of_ble_eq_true rfl) ?_
  simp only [A_conf_Right, argL, objL, List.length_nil, x_seq]
  refine aw_reg 16 (RG.go fun Q hQ => ?_)
  simp only [RX, eff, ev_k, setS_cons, setS_nil, AOp.isCall, setD, setEs, presOf, AOp.needs, idsOf, AOp.rds, List.map_nil, List.nil_append, true_and, Bool.false_eq_true, reduceCtorEq, Nat.reduceAdd, ↓reduceIte]
  refine hQ _ _ _ _ _ (RG.nil ?_)
  simp only [x_seq, x_tn]
  refine aw_reg 160 (RG.go fun Q hQ => ?_)
  simp only [RX, eff, ev_t, ev_k, lk_cons, setS_cons, setS_nil, AOp.isCall, setD, setEs, presOf, AOp.needs, SV.one?, SV.pre, gval, binV, idsOf, AOp.rds, AOp.ops, SV.ids, C.ids0, rowsOf, Option.map_some, List.map_nil, List.nil_append, true_and, and_self, Bool.true_and, Bool.false_eq_true, beq_true, implies_true, reduceCtorEq, gt_iff_lt, Nat.reduceAdd, Nat.reduceEqDiff, ↓reduceIte, Option.bind_some, List.append_nil]
  refine hQ _ _ _ _ _ ?_
  refine RG.callg _ _ [] rfl (fun hg => ⟨_, (conf_Of_con l hb).rows (drows_nrow _), tr_cons (tr_opt (by simpa using hg) tr_sl) tr_nil, trivial, .inr ⟨rfl, trivial⟩⟩) ?_
  refine RG.go fun Q hQ => ?_
  simp only [RX, setS_cons, setS_nil, AOp.isCall, setD, Bool.true_and, beq_true, reduceCtorEq, Nat.reduceAdd, Nat.reduceEqDiff, ↓reduceIte]
  refine hQ _ _ _ _ _ ?_
  refine RG.callg _ _ [] rfl (fun hg => ⟨_, slices_Equal_con l (ofS l) (by omega), tr_cons (tr_opt (by simpa using hg) tr_sl) (tr_cons (tr_opt (by simpa using hg) tr_sl) tr_nil), trivial, .inl trivial⟩) ?_
  refine RG.go fun Q hQ => ?_
  simp only [RX, eff, ev_t, ev_k, lk_cons, setS_cons, setS_nil, AOp.isCall, setD, setEs, presOf, AOp.needs, SV.one?, SV.pre, idsOf, AOp.rds, AOp.ops, SV.ids, C.ids0, List.map_nil, List.nil_append, and_true, true_and, and_self, Bool.true_and, Bool.false_eq_true, beq_true, implies_true, imp_self, Bool.if_false_right, Bool.decide_eq_true, reduceCtorEq, Nat.reduceAdd, Nat.reduceEqDiff, ↓reduceIte, List.append_nil]
  refine hQ _ _ _ _ _ (RG.nil ?_)
  simp only [x_ret, x_tn]
  exact Fin.b (.inr rfl) rfl trivial (by rw [Bool.eq_iff_iff]; simp [rightS])

theorem mementoref6_Right_con (l : List Int) (hb : l.length ≤ 1000000) : Con Try.prog 42 [.c (.sl (l.map nrow))] [] (B (rightS l)) [] := by
  refine C_mementoref6_Right (Nat.le_of_ble_eq_true rfl) (Nat.le_of_ble_eq_true rfl) ?_
  simp only [A_mementoref6_Right, argL, objL, List.length_nil, x_seq]
  refine aw_reg 16 (RG.go fun Q hQ => ?_)
  simp only [RX, eff, ev_k, setS_cons, setS_nil, AOp.isCall, setD, setEs, presOf, AOp.needs, idsOf, AOp.rds, List.map_nil, List.nil_append, true_and, Bool.false_eq_true, reduceCtorEq, Nat.reduceAdd, ↓reduceIte]
  refine hQ _ _ _ _ _ (RG.nil ?_)
  simp only [x_seq, x_tn]
  refine aw_reg 160 (RG.go fun Q hQ => ?_)
  simp only [RX, eff, ev_t, lk_cons, setS_cons, setS_nil, AOp.isCall, setD, setEs, presOf, AOp.needs, idsOf, AOp.rds, List.map_nil, List.nil_append, true_and, Bool.false_eq_true, reduceCtorEq, Nat.reduceAdd, Nat.reduceEqDiff, ↓reduceIte]
  refine hQ _ _ _ _ _ ?_
  refine RG.call [] ((mementoref6_Of_con l hb).rows (drows_nrow _)) (tr_cons tr_sl tr_nil) (trivial) (.inr ⟨rfl, trivial⟩) ?_
  refine RG.go fun Q hQ => ?_
  simp only [RX, eff, ev_t, lk_cons, setS_cons, setS_nil, AOp.isCall, setD, setEs, presOf, AOp.needs, idsOf, AOp.rds, List.map_nil, List.nil_append, true_and, Bool.false_eq_true, reduceCtorEq, Nat.reduceAdd, Nat.reduceEqDiff, ↓reduceIte]
  refine hQ _ _ _ _ _ (RG.nil ?_)
  simp only [x_seq, x_tn]
  refine aw_reg 320 (RG.go fun Q hQ => ?_)
  simp only [RX, eff, ev_t, ev_k, lk_cons, setS_cons, setS_nil, AOp.isCall, setD, setEs, presOf, AOp.needs, SV.one?, SV.pre, gval, binV, idsOf, AOp.rds, AOp.ops, SV.ids, C.ids0, rowsOf, Option.map_some, List.map_nil, List.nil_append, and_true, true_and, and_self, Bool.true_and, Bool.false_eq_true, beq_false, implies_true, imp_self, Bool.if_true_left, Bool.decide_eq_true, reduceCtorEq, Nat.reduceAdd, Nat.reduceEqDiff, ↓reduceIte, Option.bind_some, List.append_nil]
  refine ⟨fun h => by rw [h]; rfl, hQ _ _ _ _ _ (RG.nil ?_)⟩
  simp only [x_tn]
  refine aw_cond _ rfl trivial (fun ht => ?_) (fun hf => ?_)
  · have hr : rightS l = false := by
      unfold rightS
      by_cases h0 : l.length = 0
      · simp [h0]
      · have : l ≠ ofS l := by
          intro h; rw [← h] at ht; simp at ht; rw [ht] at h0; simp at h0
        simp [this]
    rw [hr]
    simp only [x_seq]
    refine aw_reg 480 (RG.go fun Q hQ => ?_)
    simp only [RX, eff, ev_k, setS_cons, AOp.isCall, setD, setEs, presOf, AOp.needs, idsOf, AOp.rds, List.map_nil, List.nil_append, true_and, Bool.false_eq_true, reduceCtorEq, Nat.reduceAdd, ↓reduceIte]
    refine hQ _ _ _ _ _ (RG.nil ?_)
    simp only [x_ret, x_tn, x_tr]
    exact Fin.scalar (.inr rfl) rfl trivial rfl trivial
  have hlen : 0 < l.length ∧ (ofS l).length = l.length := by
    simp at hf
    exact ⟨by have := List.length_pos_iff.2 hf.1; exact this, by omega⟩
  generalize hm : ofS l = m at *
  have hrs : rightS l = decide (l = m) := by unfold rightS; rw [hm]; simp [hlen.1]
  rw [hrs]
  simp only [x_seq, x_skip, x_tn]
  refine aw_reg 480 (RG.go fun Q hQ => ?_)
  simp only [RX, eff, ev_k, setS_cons, setS_nil, AOp.isCall, setD, setEs, presOf, AOp.needs, idsOf, AOp.rds, List.map_nil, List.nil_append, true_and, Bool.false_eq_true, reduceCtorEq, Nat.reduceAdd, Nat.reduceEqDiff, ↓reduceIte]
  refine hQ _ _ _ _ _ (RG.nil ?_)
  simp only [x_block, x_tn]
  refine aw_loop (X := { i : Nat // i ≤ l.length ∧ l.take i = m.take i }) (fun i => mkSt [(0, .c (.sl (l.map nrow))), (3, .c (.sl (m.map nrow))), (4, I i.1)] []) (fun i => l.length - i.1) ⟨0, by omega, by simp⟩ ?_ ?_
  · refine Le.lit [] [] _ _ ?_ ?_ ?_ ?_
    · skip
      simp only [Int.cast_ofNat_Int, allL, lk_cons, lkE_nil, WkSV, WkSV1, WkC, WkC0, rlook, frzEs, Nat.reduceEqDiff, ↓reduceIte, reduceCtorEq, and_true, ne_eq, not_true_eq_false]
    · skip
      simp only [allL]
    · simp
    · simp
  rintro ⟨i, hi, htk⟩
  simp only [x_seq]
  refine aw_reg 680 (RG.go fun Q hQ => ?_)
  simp only [RX, eff, ev_t, lk_cons, setS_cons, setS_nil, AOp.isCall, setD, setEs, presOf, AOp.needs, SV.one?, SV.pre, binV, idsOf, AOp.rds, AOp.ops, SV.ids, C.ids0, rowsOf, Option.map_some, List.map_nil, List.nil_append, true_and, and_self, Bool.false_eq_true, reduceCtorEq, Nat.reduceAdd, Nat.reduceEqDiff, ↓reduceIte, Option.bind_some, List.append_nil]
  refine hQ _ _ _ _ _ (RG.nil ?_)
  simp only [x_tn]
  refine aw_cond _ rfl trivial (fun ht => ?_) (fun hf2 => ?_)
  rotate_left
  · have hi' : i = l.length := by simp at hf2; omega
    have he : l = m := by
      have h1 := htk
      rw [hi', List.take_length] at h1
      rw [← hlen.2, List.take_length] at h1
      exact h1
    simp only [x_seq, x_exit, x_tn, x_tx, x_bx, x_lx, ↓reduceIte]
    refine aw_reg 640 (RG.go fun Q hQ => ?_)
    simp only [RX, eff, ev_k, setS_cons, setS_nil, AOp.isCall, setD, setEs, presOf, AOp.needs, idsOf, AOp.rds, List.map_nil, List.nil_append, true_and, Bool.false_eq_true, reduceCtorEq, Nat.reduceAdd, Nat.reduceEqDiff, ↓reduceIte]
    refine hQ _ _ _ _ _ (RG.nil ?_)
    simp only [x_ret, x_tn]
    exact Fin.b (.inr rfl) rfl trivial (by simp [he])
  have hi' : i < l.length := by simp at ht; omega
  have hm' : i < m.length := by omega
  have hr1 : (List.map nrow l)[(i : Int).toNat]?.getD [] = [.v (.int .i64 l[i])] := by simp [hi', nrow]
  have hr2 : (List.map nrow m)[(i : Int).toNat]?.getD [] = [.v (.int .i64 m[i])] := by simp [hm', nrow]
  have hw1 : IntKind.i64.wrap ((i : Int) + 1) = ((i + 1 : Nat) : Int) := by rw [w64 _ (by omega) (by omega)]; rfl
  simp only [x_seq, x_block, x_skip, x_tn]
  refine aw_draw 800 (RG.go fun Q hQ => ?_)
  simp only [RX, eff, ev_t, lk_cons, setS_cons, setS_nil, AOp.isCall, setD, setEs, presOf, AOp.needs, SV.one?, SV.pre, binV, idsOf, AOp.rds, AOp.ops, SV.ids, C.ids0, Option.getD_some, List.length_cons, List.length_nil, List.getElem?_cons_zero, Option.map_some, List.map_nil, List.nil_append, and_true, true_and, and_self, Bool.false_eq_true, reduceCtorEq, Nat.reduceAdd, Nat.reduceEqDiff, Nat.reduceLT, ↓reduceIte, Nat.zero_add, List.append_nil, C_default, hr1, hr2]
  refine ⟨⟨by omega, by simp; omega⟩, ⟨by omega, by simp; omega⟩, ?_⟩
  refine hQ _ _ _ _ _ (RG.nil ⟨by decide, ?_⟩)
  simp only [x_tn]
  refine aw_cond _ rfl trivial (fun ht2 => ?_) (fun hf2 => ?_)
  · have hne : l ≠ m := by
      intro h; subst h
      simp at ht2
    simp only [x_seq]
    refine aw_reg 1000 (RG.go fun Q hQ => ?_)
    simp only [RX, eff, ev_k, setS_cons, setS_nil, AOp.isCall, setD, setEs, presOf, AOp.needs, idsOf, AOp.rds, List.map_nil, List.nil_append, true_and, Bool.false_eq_true, reduceCtorEq, Nat.reduceAdd, Nat.reduceEqDiff, ↓reduceIte]
    refine hQ _ _ _ _ _ (RG.nil ?_)
    simp only [x_ret, x_tn, x_tr, x_br, x_lr]
    exact Fin.b (.inr rfl) rfl trivial (by simp [hne])
  have he : l[i] = m[i] := by simpa using hf2
  simp only [x_skip, x_tn, x_bn]
  refine aw_reg 1000 (RG.go fun Q hQ => ?_)
  simp only [RX, eff, ev_t, ev_k, lk_cons, setS_cons, setS_nil, AOp.isCall, setD, setEs, presOf, AOp.needs, SV.one?, SV.pre, binV, idsOf, AOp.rds, AOp.ops, SV.ids, C.ids0, Option.map_some, List.map_nil, List.nil_append, true_and, and_self, Bool.false_eq_true, reduceCtorEq, Nat.reduceAdd, Nat.reduceEqDiff, ↓reduceIte, List.append_nil, hw1]
  refine hQ _ _ _ _ _ (RG.nil ?_)
  simp only [x_ln]
  refine ⟨⟨i + 1, hi', by rw [take_one l i hi', take_one m i hm', htk, he]⟩, ?_, by simp; omega⟩
  refine Le.lit [] [] _ _ ?_ ?_ ?_ ?_
  · skip
    simp only [allL, lk_cons, lkE_nil, WkSV, WkSV1, WkC, WkC0, rlook, frzEs, Nat.reduceEqDiff, ↓reduceIte, reduceCtorEq, and_true, ne_eq, not_true_eq_false]
  · skip
    simp only [allL]
  · simp
  · simp

end Go.Abs
namespace Go.Abs
open Go Go.Proofs
set_option maxRecDepth 100000
set_option linter.unusedSimpArgs false

/-- May a base be? -/
def baseRight (i t : Int) (conf : List Int) (data : List Nat) : Bool := timeS i && timeS t && rightS conf && decide (data.length ≤ 32767)

abbrev basC (i t : Int) (conf : List Int) (data : List Nat) : List C := [.v (.int .i64 i), .v (.int .i64 t), .sl (conf.map nrow), .sl (data.map brow)]

theorem entry_BaseRight_con (i t : Int) (conf : List Int) (data : List Nat) (hb : conf.length ≤ 12) : Con Try.prog 21 [.agg (basC i t conf data)] [] (B (baseRight i t conf data)) [] := by
  refine C_entry_BaseRight (Nat.le_of_ble_eq_true rfl) (Nat.le_of_ble_eq_true rfl) ?_
  simp only [A_entry_BaseRight, argL, objL, List.length_nil, x_seq]
  refine aw_reg 16 (RG.go fun Q hQ => ?_)
  simp only [RX, eff, ev_t, ev_k, lk_cons, lkE_nil, setS_cons, setS_nil, setE_nil, AOp.isCall, setD, setEs, presOf, AOp.needs, SV.pre, SV.cells, idsOf, AOp.rds, AOp.ops, SV.ids, List.map_cons, List.map_nil, List.nil_append, true_and, and_self, Bool.false_eq_true, reduceCtorEq, Nat.reduceAdd, Nat.reduceEqDiff, ↓reduceIte, List.append_nil]
  refine hQ _ _ _ _ _ (RG.nil ?_)
  simp only [x_seq, x_tn]
  refine aw_reg 160 (RG.go fun Q hQ => ?_)
  simp only [RX, eff, ev_t, lk_cons, lkE_cons, setS_cons, setS_nil, AOp.isCall, setD, setEs, presOf, AOp.needs, SV.one?, SV.pre, idsOf, AOp.rds, AOp.ops, SV.ids, C.ids0, List.getElem?_cons_zero, Option.map_some, List.map_nil, List.nil_append, List.cons_append, true_and, and_self, Bool.false_eq_true, reduceCtorEq, Nat.reduceAdd, Nat.reduceEqDiff, ↓reduceIte, List.append_nil, Nat.add_zero]
  refine hQ _ _ _ _ _ ?_
  refine RG.call [] (entry_time_con i) (tr_cons tr_v tr_nil) (trivial) (.inl trivial) ?_
  refine RG.go fun Q hQ => ?_
  simp only [RX, eff, ev_t, lk_cons, lkE_cons, setS_cons, setS_nil, AOp.isCall, setD, setEs, presOf, AOp.needs, SV.one?, SV.pre, gval, idsOf, AOp.rds, AOp.ops, SV.ids, C.ids0, List.getElem?_cons_zero, List.getElem?_cons_succ, Option.map_some, List.map_nil, List.nil_append, List.cons_append, and_true, true_and, and_self, Bool.true_and, Bool.false_eq_true, beq_true, implies_true, imp_self, reduceCtorEq, Nat.reduceAdd, Nat.reduceEqDiff, ↓reduceIte, Nat.zero_add, List.append_nil]
  refine hQ _ _ _ _ _ ?_
  refine RG.callg _ _ [] rfl (fun hg => ⟨_, entry_time_con t, tr_cons (tr_opt (by simpa using hg) tr_v) tr_nil, trivial, .inl trivial⟩) ?_
  refine RG.go fun Q hQ => ?_
  simp only [RX, eff, ev_t, ev_k, lk_cons, lkE_cons, setS_cons, setS_nil, AOp.isCall, setD, setEs, presOf, AOp.needs, SV.one?, SV.pre, gval, idsOf, AOp.rds, AOp.ops, SV.ids, C.ids0, List.getElem?_cons_zero, List.getElem?_cons_succ, Option.map_some, List.map_nil, List.nil_append, List.cons_append, and_true, true_and, and_self, Bool.true_and, Bool.false_eq_true, beq_true, implies_true, imp_self, Bool.if_false_right, Bool.decide_eq_true, reduceCtorEq, Nat.reduceAdd, Nat.reduceEqDiff, ↓reduceIte, Nat.zero_add, List.append_nil]
  refine hQ _ _ _ _ _ ?_
  refine RG.callg _ _ [] rfl (fun hg => ⟨_, conf_Right_con conf hb, tr_cons (tr_opt (by simpa using hg) tr_sl) tr_nil, trivial, .inl trivial⟩) ?_
  refine RG.go fun Q hQ => ?_
  simp only [RX, eff, ev_t, ev_k, lk_cons, lkE_cons, setS_cons, setS_nil, AOp.isCall, setD, setEs, presOf, AOp.needs, SV.one?, SV.pre, gval, binV, idsOf, AOp.rds, AOp.ops, SV.ids, C.ids0, rowsOf, List.getElem?_cons_zero, List.getElem?_cons_succ, Option.map_some, List.map_nil, List.nil_append, List.cons_append, and_true, true_and, and_self, Bool.true_and, Bool.false_eq_true, beq_true, implies_true, imp_self, Bool.if_false_right, Bool.decide_eq_true, reduceCtorEq, Nat.reduceAdd, Nat.reduceEqDiff, ↓reduceIte, Option.bind_some, Nat.zero_add, List.append_nil]
  refine hQ _ _ _ _ _ (RG.nil ?_)
  simp only [x_ret, x_tn]
  exact Fin.b (.inr rfl) rfl trivial (by rw [Bool.eq_iff_iff]; simp [baseRight]; intros; omega)

theorem mementoref6_BaseRight_con (i t : Int) (conf : List Int) (data : List Nat) (hb : conf.length ≤ 1000000) : Con Try.prog 22 [.agg (basC i t conf data)] [] (B (baseRight i t conf data)) [] := by
  refine C_mementoref6_BaseRight (Nat.le_of_ble_eq_true rfl) (Nat.le_of_ble_eq_true rfl) ?_
  simp only [A_mementoref6_BaseRight, argL, objL, List.length_nil, x_seq]
  refine aw_reg 16 (RG.go fun Q hQ => ?_)
  simp only [RX, eff, ev_t, ev_k, lk_cons, lkE_nil, setS_cons, setS_nil, setE_nil, AOp.isCall, setD, setEs, presOf, AOp.needs, SV.pre, SV.cells, idsOf, AOp.rds, AOp.ops, SV.ids, List.map_cons, List.map_nil, List.nil_append, true_and, and_self, Bool.false_eq_true, reduceCtorEq, Nat.reduceAdd, Nat.reduceEqDiff, ↓reduceIte, List.append_nil]
  refine hQ _ _ _ _ _ (RG.nil ?_)
  simp only [x_seq, x_tn]
  refine aw_reg 160 (RG.go fun Q hQ => ?_)
  simp only [RX, eff, ev_t, lk_cons, lkE_cons, setS_cons, setS_nil, AOp.isCall, setD, setEs, presOf, AOp.needs, SV.one?, SV.pre, idsOf, AOp.rds, AOp.ops, SV.ids, C.ids0, List.getElem?_cons_zero, Option.map_some, List.map_nil, List.nil_append, List.cons_append, true_and, and_self, Bool.false_eq_true, reduceCtorEq, Nat.reduceAdd, Nat.reduceEqDiff, ↓reduceIte, List.append_nil, Nat.add_zero]
  refine hQ _ _ _ _ _ ?_
  refine RG.call [] (mementoref6_time_con i) (tr_cons tr_v tr_nil) (trivial) (.inl trivial) ?_
  refine RG.go fun Q hQ => ?_
  simp only [RX, eff, ev_t, lk_cons, lkE_cons, setS_cons, setS_nil, AOp.isCall, setD, setEs, presOf, AOp.needs, SV.one?, SV.pre, gval, idsOf, AOp.rds, AOp.ops, SV.ids, C.ids0, List.getElem?_cons_zero, List.getElem?_cons_succ, Option.map_some, List.map_nil, List.nil_append, List.cons_append, and_true, true_and, and_self, Bool.true_and, Bool.false_eq_true, beq_true, implies_true, imp_self, reduceCtorEq, Nat.reduceAdd, Nat.reduceEqDiff, ↓reduceIte, Nat.zero_add, List.append_nil]
  refine hQ _ _ _ _ _ ?_
  refine RG.callg _ _ [] rfl (fun hg => ⟨_, mementoref6_time_con t, tr_cons (tr_opt (by simpa using hg) tr_v) tr_nil, trivial, .inl trivial⟩) ?_
  refine RG.go fun Q hQ => ?_
  simp only [RX, eff, ev_t, ev_k, lk_cons, lkE_cons, setS_cons, setS_nil, AOp.isCall, setD, setEs, presOf, AOp.needs, SV.one?, SV.pre, gval, idsOf, AOp.rds, AOp.ops, SV.ids, C.ids0, List.getElem?_cons_zero, List.getElem?_cons_succ, Option.map_some, List.map_nil, List.nil_append, List.cons_append, and_true, true_and, and_self, Bool.true_and, Bool.false_eq_true, beq_true, implies_true, imp_self, Bool.if_false_right, Bool.decide_eq_true, reduceCtorEq, Nat.reduceAdd, Nat.reduceEqDiff, ↓reduceIte, Nat.zero_add, List.append_nil]
  refine hQ _ _ _ _ _ ?_
  refine RG.callg _ _ [] rfl (fun hg => ⟨_, mementoref6_Right_con conf hb, tr_cons (tr_opt (by simpa using hg) tr_sl) tr_nil, trivial, .inl trivial⟩) ?_
  refine RG.go fun Q hQ => ?_
  simp only [RX, eff, ev_t, ev_k, lk_cons, lkE_cons, setS_cons, setS_nil, AOp.isCall, setD, setEs, presOf, AOp.needs, SV.one?, SV.pre, gval, binV, idsOf, AOp.rds, AOp.ops, SV.ids, C.ids0, rowsOf, List.getElem?_cons_zero, List.getElem?_cons_succ, Option.map_some, List.map_nil, List.nil_append, List.cons_append, and_true, true_and, and_self, Bool.true_and, Bool.false_eq_true, beq_true, implies_true, imp_self, Bool.if_false_right, Bool.decide_eq_true, reduceCtorEq, Nat.reduceAdd, Nat.reduceEqDiff, ↓reduceIte, Option.bind_some, Nat.zero_add, List.append_nil]
  refine hQ _ _ _ _ _ (RG.nil ?_)
  simp only [x_ret, x_tn]
  exact Fin.b (.inr rfl) rfl trivial (by rw [Bool.eq_iff_iff]; simp [baseRight]; intros; omega)

/-- Are two bases one? -/
def sameB (i t : Int) (c : List Int) (d : List Nat) (i' t' : Int) (c' : List Int) (d' : List Nat) : Bool := i == i' && t == t' && decide (c = c') && decide (d = d')

theorem entry_SameBase_con (i t : Int) (c : List Int) (d : List Nat) (i' t' : Int) (c' : List Int) (d' : List Nat) (hc : c.length ≤ 1000000) (hd : ∀ x ∈ d, x < 256) (hd' : ∀ x ∈ d', x < 256) :
    Con Try.prog 23 [.agg (basC i t c d), .agg (basC i' t' c' d')] [] (B (sameB i t c d i' t' c' d')) [] := by
  refine C_entry_SameBase (Nat.le_of_ble_eq_true rfl) (Nat.le_of_ble_eq_true rfl) ?_
  simp only [A_entry_SameBase, argL, objL, List.length_nil, Nat.zero_add, x_seq]
  refine aw_reg 16 (RG.go fun Q hQ => ?_)
  simp only [RX, eff, ev_t, ev_k, lk_cons, lkE_cons, lkE_nil, setS_cons, setS_nil, setE_cons, setE_nil, AOp.isCall, setD, setEs, presOf, AOp.needs, SV.pre, SV.cells, idsOf, AOp.rds, AOp.ops, SV.ids, List.map_cons, List.map_nil, List.nil_append, true_and, and_self, Bool.false_eq_true, reduceCtorEq, Nat.reduceAdd, Nat.reduceEqDiff, ↓reduceIte, List.append_nil]
  refine hQ _ _ _ _ _ (RG.nil ?_)
  simp only [x_seq, x_tn]
  refine aw_reg 160 (RG.go fun Q hQ => ?_)
  simp only [RX, eff, ev_t, ev_k, lk_cons, lkE_cons, setS_cons, setS_nil, AOp.isCall, setD, setEs, presOf, AOp.needs, SV.one?, SV.pre, gval, binV, idsOf, AOp.rds, AOp.ops, SV.ids, C.ids0, List.getElem?_cons_zero, List.getElem?_cons_succ, Option.map_some, List.map_nil, List.nil_append, List.cons_append, and_true, true_and, and_self, Bool.true_and, Bool.false_eq_true, beq_true, implies_true, imp_self, Bool.if_false_right, Bool.decide_eq_true, reduceCtorEq, Nat.reduceAdd, Nat.reduceEqDiff, ↓reduceIte, Nat.zero_add, List.append_nil, Nat.add_zero]
  refine hQ _ _ _ _ _ ?_
  refine RG.callg _ _ [] rfl (fun hg => ⟨_, slices_Equal_con c c' hc, tr_cons (tr_opt (by simpa using hg) tr_sl) (tr_cons (tr_opt (by simpa using hg) tr_sl) tr_nil), trivial, .inl trivial⟩) ?_
  refine RG.go fun Q hQ => ?_
  simp only [RX, eff, ev_t, ev_k, lk_cons, lkE_cons, setS_cons, setS_nil, AOp.isCall, setD, setEs, presOf, AOp.needs, SV.one?, SV.pre, gval, idsOf, AOp.rds, AOp.ops, SV.ids, C.ids0, List.getElem?_cons_zero, List.getElem?_cons_succ, Option.map_some, List.map_nil, List.nil_append, List.cons_append, and_true, true_and, and_self, Bool.true_and, Bool.false_eq_true, beq_true, implies_true, imp_self, Bool.if_false_right, Bool.decide_eq_true, reduceCtorEq, Nat.reduceAdd, Nat.reduceEqDiff, ↓reduceIte, Nat.zero_add, List.append_nil]
  refine hQ _ _ _ _ _ ?_
  refine RG.callg _ _ [] rfl (fun hg => ⟨_, bytes_Equal_con d d' hd hd', tr_cons (tr_opt (by simpa using hg) tr_sl) (tr_cons (tr_opt (by simpa using hg) tr_sl) tr_nil), trivial, .inl trivial⟩) ?_
  refine RG.go fun Q hQ => ?_
  simp only [RX, eff, ev_t, ev_k, lk_cons, setS_cons, setS_nil, AOp.isCall, setD, setEs, presOf, AOp.needs, SV.one?, SV.pre, idsOf, AOp.rds, AOp.ops, SV.ids, C.ids0, List.map_nil, List.nil_append, and_true, true_and, and_self, Bool.true_and, Bool.false_eq_true, beq_true, implies_true, imp_self, Bool.if_false_right, Bool.decide_eq_true, reduceCtorEq, Nat.reduceAdd, Nat.reduceEqDiff, ↓reduceIte, List.append_nil]
  refine hQ _ _ _ _ _ (RG.nil ?_)
  simp only [x_ret, x_tn]
  exact Fin.b (.inr rfl) rfl trivial (by simp [sameB])

theorem mementoref6_SameBase_con (i t : Int) (c : List Int) (d : List Nat) (i' t' : Int) (c' : List Int) (d' : List Nat) (hc : c.length ≤ 1000000) (hd : ∀ x ∈ d, x < 256) (hd' : ∀ x ∈ d', x < 256) :
    Con Try.prog 24 [.agg (basC i t c d), .agg (basC i' t' c' d')] [] (B (sameB i t c d i' t' c' d')) [] := by
  have hs := str_eq d d' hd hd'
  refine C_mementoref6_SameBase (Nat.le_of_ble_eq_true rfl) (Nat.le_of_ble_eq_true rfl) ?_
  simp only [A_mementoref6_SameBase, argL, objL, List.length_nil, Nat.zero_add, x_seq]
  refine aw_reg 16 (RG.go fun Q hQ => ?_)
  simp only [RX, eff, ev_t, ev_k, lk_cons, lkE_cons, lkE_nil, setS_cons, setS_nil, setE_cons, setE_nil, AOp.isCall, setD, setEs, presOf, AOp.needs, SV.pre, SV.cells, idsOf, AOp.rds, AOp.ops, SV.ids, List.map_cons, List.map_nil, List.nil_append, true_and, and_self, Bool.false_eq_true, reduceCtorEq, Nat.reduceAdd, Nat.reduceEqDiff, ↓reduceIte, List.append_nil]
  refine hQ _ _ _ _ _ (RG.nil ?_)
  simp only [x_seq, x_tn]
  refine aw_reg 160 (RG.go fun Q hQ => ?_)
  simp only [RX, eff, ev_t, ev_k, lk_cons, lkE_cons, setS_cons, setS_nil, AOp.isCall, setD, setEs, presOf, AOp.needs, SV.one?, SV.pre, gval, binV, idsOf, AOp.rds, AOp.ops, SV.ids, C.ids0, List.getElem?_cons_zero, List.getElem?_cons_succ, Option.map_some, List.map_nil, List.nil_append, List.cons_append, and_true, true_and, and_self, Bool.true_and, Bool.false_eq_true, beq_true, implies_true, imp_self, Bool.if_false_right, Bool.decide_eq_true, reduceCtorEq, Nat.reduceAdd, Nat.reduceEqDiff, ↓reduceIte, Nat.zero_add, List.append_nil, Nat.add_zero]
  refine hQ _ _ _ _ _ ?_
  refine RG.callg _ _ [] rfl (fun hg => ⟨_, mementoref6_SameInts_con c c' hc, tr_cons (tr_opt (by simpa using hg) tr_sl) (tr_cons (tr_opt (by simpa using hg) tr_sl) tr_nil), trivial, .inl trivial⟩) ?_
  refine RG.go fun Q hQ => ?_
  simp only [RX, eff, ev_t, ev_k, lk_cons, lkE_cons, setS_cons, setS_nil, AOp.isCall, setD, setEs, presOf, AOp.needs, SV.one?, SV.pre, gval, binV, idsOf, AOp.rds, AOp.ops, SV.ids, C.ids0, rowsOf, List.getElem?_cons_zero, List.getElem?_cons_succ, Option.map_some, List.map_nil, List.nil_append, List.cons_append, and_true, true_and, and_self, Bool.true_and, Bool.false_eq_true, beq_true, implies_true, imp_self, Bool.if_false_right, Bool.decide_eq_true, reduceCtorEq, Nat.reduceAdd, Nat.reduceEqDiff, ↓reduceIte, Option.bind_some, Nat.zero_add, List.append_nil]
  simp only [hs]
  refine ⟨fun h => ⟨isByteRow_brow _, h⟩, fun h => ⟨isByteRow_brow _, h⟩, hQ _ _ _ _ _ (RG.nil ?_)⟩
  simp only [x_ret, x_tn]
  exact Fin.b (.inr rfl) rfl trivial (by simp [sameB])


/-- A base's bytes. -/
def putB (i t : Int) (conf : List Int) (data : List Nat) : List Nat :=
  if baseRight i t conf data then putS [i.toNat, t.toNat, conf.length] ++ putS (conf.map Int.toNat) ++ (num7 data.length ++ data) else []

theorem ofS_may (l : List Int) : ∀ x ∈ ofS l, mayN x = true := by
  intro x hx
  unfold ofS at hx
  rw [dd_mem, (isort_perm _).mem_iff, List.mem_filter] at hx
  exact hx.2

theorem rightS_facts {l : List Int} (h : rightS l = true) : 0 < l.length ∧ l.length ≤ 7 ∧ ∀ x ∈ l, 0 ≤ x ∧ x < 7 := by
  unfold rightS at h
  simp only [Bool.and_eq_true, decide_eq_true_eq] at h
  refine ⟨h.1, ?_, fun x hx => ?_⟩
  · rw [h.2, ← ofN_ofS]; exact ofN_len l 7
  · rw [h.2] at hx
    have := ofS_may l x hx
    simpa [mayN] using this

theorem baseRight_facts {i t : Int} {conf : List Int} {data : List Nat} (h : baseRight i t conf data = true) : 0 ≤ i ∧ i ≤ 1099511627776 ∧ 0 ≤ t ∧ t ≤ 1099511627776 ∧ rightS conf = true ∧ data.length ≤ 32767 := by
  unfold baseRight timeS at h
  simp only [Bool.and_eq_true, decide_eq_true_eq] at h
  exact ⟨h.1.1.1.1, h.1.1.1.2, h.1.1.2.1, h.1.1.2.2, h.1.2, h.2⟩

theorem entry_PutBase_con (i t : Int) (conf : List Int) (data : List Nat) (hb : conf.length ≤ 12) : Con Try.prog 19 [.agg (basC i t conf data)] [] (.c (.sl ((putB i t conf data).map brow))) [] := by
  refine C_entry_PutBase (Nat.le_of_ble_eq_true rfl) (Nat.le_of_ble_eq_true rfl) ?_
  simp only [A_entry_PutBase, argL, objL, List.length_nil, x_seq]
  refine aw_reg 16 (RG.go fun Q hQ => ?_)
  simp only [RX, eff, ev_t, ev_k, lk_cons, lkE_nil, setS_cons, setS_nil, setE_nil, AOp.isCall, setD, setEs, presOf, AOp.needs, SV.pre, SV.cells, idsOf, AOp.rds, AOp.ops, SV.ids, List.map_cons, List.map_nil, List.nil_append, true_and, and_self, Bool.false_eq_true, reduceCtorEq, Nat.reduceAdd, Nat.reduceEqDiff, ↓reduceIte, List.append_nil]
  refine hQ _ _ _ _ _ (RG.nil ?_)
  simp only [x_seq, x_tn]
  refine aw_reg 160 (RG.go fun Q hQ => ?_)
  simp only [RX, eff, ev_t, lk_cons, lkE_cons, setS_cons, setS_nil, AOp.isCall, setD, setEs, presOf, AOp.needs, SV.one?, SV.pre, idsOf, AOp.rds, AOp.ops, SV.ids, C.ids0, List.take_succ_cons, List.take_zero, List.drop_zero, List.length_cons, List.length_nil, List.map_nil, List.nil_append, List.cons_append, true_and, and_self, Bool.false_eq_true, reduceCtorEq, Nat.reduceAdd, Nat.reduceEqDiff, ↓reduceIte, Nat.zero_add, Nat.le_refl, List.append_nil]
  refine hQ _ _ _ _ _ ?_
  refine RG.call [] (entry_BaseRight_con i t conf data hb) (by simp only [TrL, TrSV, TrC, TrC0, lk_cons, ev_t, List.map_cons, List.map_nil, Nat.reduceEqDiff, ↓reduceIte, reduceCtorEq, and_self]) (trivial) (.inl trivial) ?_
  refine RG.go fun Q hQ => ?_
  simp only [RX, eff, ev_t, lk_cons, setS_cons, setS_nil, AOp.isCall, setD, setEs, presOf, AOp.needs, SV.one?, SV.pre, unV, idsOf, AOp.rds, AOp.ops, SV.ids, C.ids0, Option.map_some, List.map_nil, List.nil_append, true_and, and_self, Bool.false_eq_true, reduceCtorEq, Nat.reduceAdd, Nat.reduceEqDiff, ↓reduceIte, List.append_nil]
  refine hQ _ _ _ _ _ (RG.nil ?_)
  simp only [x_tn]
  refine aw_cond _ rfl trivial (fun ht => ?_) (fun hf => ?_)
  · have he : baseRight i t conf data = false := by simpa using ht
    simp only [x_seq]
    refine aw_reg 600 (RG.go fun Q hQ => ?_)
    simp only [RX, eff, ev_k, setS_cons, AOp.isCall, setD, setEs, presOf, AOp.needs, idsOf, AOp.rds, List.map_nil, List.nil_append, true_and, Bool.false_eq_true, reduceCtorEq, Nat.reduceAdd, Nat.reduceEqDiff, ↓reduceIte]
    refine hQ _ _ _ _ _ (RG.nil ?_)
    simp only [x_ret, x_tn, x_tr]
    have hp : putB i t conf data = [] := by simp [putB, he]
    rw [hp]
    exact Fin.data [] (.inr rfl) rfl trivial ⟨rfl, rfl⟩
  have he : baseRight i t conf data = true := by simpa using hf
  obtain ⟨h1, h2, h3, h4, h5, h6⟩ := baseRight_facts he
  obtain ⟨h7, h8, h9⟩ := rightS_facts h5
  have w1 := u64_nat (n := i) (by omega) (by omega)
  have w2 := u64_nat (n := t) (by omega) (by omega)
  have w3 : IntKind.u64.wrap ((conf.map nrow).length : Int) = (conf.length : Int) := by rw [w_u64, List.length_map]; omega
  have hp : putB i t conf data = putS [i.toNat, t.toNat, conf.length] ++ putS (conf.map Int.toNat) ++ (num7 data.length ++ data) := by simp [putB, he]
  have g1 := putS_len [i.toNat, t.toNat, conf.length] (by simp; omega)
  have g2 := num7_len data.length (by omega)
  simp only [List.length_cons, List.length_nil] at g1
  have g3 : ∀ k, (putS ((conf.map Int.toNat).take k)).length ≤ 70 := fun k => by
    have := putS_len ((conf.map Int.toNat).take k) (fun m hm => by
      obtain ⟨x, hx, rfl⟩ := List.mem_map.1 (List.mem_of_mem_take hm)
      have := h9 x hx; omega)
    simp at this; omega
  simp only [x_seq, x_skip, x_tn]
  refine aw_reg 800 (RG.go fun Q hQ => ?_)
  simp only [RX, eff, ev_t, lk_cons, lkE_cons, lkE_nil, setS_cons, setS_nil, setE_cons, setE_nil, AOp.isCall, setD, setEs, presOf, AOp.needs, SV.one?, SV.pre, SV.cells, idsOf, AOp.rds, AOp.ops, SV.ids, C.ids0, rowsOf, bSRows, List.length_cons, List.length_nil, List.getElem?_cons_zero, List.getElem?_cons_succ, Option.map_some, List.map_cons, List.map_nil, List.nil_append, List.cons_append, true_and, and_self, Bool.false_eq_true, reduceCtorEq, Nat.reduceAdd, Nat.reduceEqDiff, ↓reduceIte, Option.bind_some, Nat.zero_add, List.append_nil, Nat.add_zero, w1, w2, w3]
  refine hQ _ _ _ _ _ ?_
  refine RG.callo [] [960] (pack_Put_con [i.toNat, t.toNat, conf.length] (by simp) (by simp; omega)) (.mk (tr_cons (tr_view (by simp) rfl (by simp [isDRows, urow, C.isD])) tr_nil) (trivial) (by simp) (by simp) (views1 rfl trivial) (by simp [lkE_cons, lkE_nil]) (by simp only [List.mem_singleton, forall_eq, Ent.pure]; exact drows_brow _) (by simp) (by simp)) ?_
  refine RG.go fun Q hQ => ?_
  simp only [RX, eff, ev_t, lk_cons, lkE_cons, lkE_nil, setS_cons, setS_nil, setE_cons, setE_nil, AOp.isCall, setD, setEs, presOf, AOp.needs, idsOf, AOp.rds, List.drop_zero, List.length_cons, List.length_nil, List.map_cons, List.map_nil, List.nil_append, List.cons_append, true_and, Bool.false_eq_true, reduceCtorEq, Nat.reduceAdd, Nat.reduceEqDiff, ↓reduceIte, Nat.zero_add, renSV, renSV1, renC, renC0, rn, renEnt, backUps, List.zip_nil_left, List.zipIdx_cons, List.zipIdx_nil, List.filterMap_cons, List.filterMap_nil, List.getElem?_nil, Nat.sub_self, Nat.sub_zero, Nat.add_zero]
  refine hQ _ _ _ _ _ (RG.nil ?_)
  simp only [x_seq, x_tn]
  refine aw_reg 1200 (RG.go fun Q hQ => ?_)
  simp only [RX, eff, ev_t, ev_k, lk_cons, lkE_cons, setS_cons, setS_nil, AOp.isCall, setD, setEs, presOf, AOp.needs, SV.one?, SV.pre, idsOf, AOp.rds, AOp.ops, SV.ids, C.ids0, rowsOf, List.getElem?_cons_zero, List.getElem?_cons_succ, Option.map_some, List.map_nil, List.nil_append, List.cons_append, true_and, and_self, Bool.false_eq_true, reduceCtorEq, Nat.reduceAdd, Nat.reduceEqDiff, ↓reduceIte, Option.bind_some, Nat.zero_add, List.append_nil]
  refine hQ _ _ _ _ _ (RG.nil ?_)
  simp only [x_block, x_tn]
  refine aw_loop (X := { k : Nat // k ≤ conf.length }) (fun k => mkSt [(1, .c (.bp 16 0)), (3, .c (.osl 1000)), (22, .c (.sl (conf.map nrow))), (23, I conf.length), (24, I k.1)] [(16, .box (basC i t conf data)), (1000, .arr 5 1 ((putS [i.toNat, t.toNat, conf.length] ++ putS ((conf.map Int.toNat).take k.1)).map brow) false)]) (fun k => conf.length - k.1) ⟨0, by omega⟩ ?_ ?_
  · refine Le.lit [] [(1000, 976)] _ _ ?_ ?_ ?_ ?_
    · skip
      simp only [Int.cast_ofNat_Int, allL, lk_cons, lkE_cons, lkE_nil, WkSV, WkSV1, WkC, WkC0, rlook, frzEs, Nat.reduceEqDiff, ↓reduceIte, reduceCtorEq, true_and, and_true, ne_eq, not_false_eq_true]
      simp
    · skip
      simp only [allL, lkE_cons, lkE_nil, WkC, WkC0, WkEnt, TrL, rlook, frzEs, isDRows, Option.some.injEq, Nat.reduceEqDiff, ↓reduceIte, reduceCtorEq, true_and, and_true, exists_eq_left', ne_eq, true_or]
      refine ⟨by simp [putS], drows_brow _⟩
    · simp [rlook]
    · simp
  rintro ⟨k, hk⟩
  simp only [x_seq]
  refine aw_reg 1400 (RG.go fun Q hQ => ?_)
  simp only [RX, eff, ev_t, lk_cons, setS_cons, setS_nil, AOp.isCall, setD, setEs, presOf, AOp.needs, SV.one?, SV.pre, binV, idsOf, AOp.rds, AOp.ops, SV.ids, C.ids0, Option.map_some, List.map_nil, List.nil_append, true_and, and_self, Bool.false_eq_true, Nat.reduceAdd, Nat.reduceEqDiff, ↓reduceIte, List.append_nil]
  refine hQ _ _ _ _ _ (RG.nil ?_)
  simp only [x_seq, x_tn]
  refine aw_cond _ rfl trivial (fun ht => ?_) (fun hf => ?_)
  rotate_left
  · have hk' : k = conf.length := by simp at hf; omega
    have g4 := g3 k
    have htk : (conf.map Int.toNat).take k = conf.map Int.toNat := List.take_of_length_le (by simp; omega)
    simp only [x_seq, x_exit, x_tn, x_tx, x_bx, x_lx, ↓reduceIte]
    refine aw_reg 1600 (RG.go fun Q hQ => ?_)
    simp only [RX, eff, ev_t, lk_cons, lkE_cons, setS_cons, setS_nil, AOp.isCall, setD, setEs, presOf, AOp.needs, SV.one?, SV.pre, idsOf, AOp.rds, AOp.ops, SV.ids, C.ids0, List.getElem?_cons_zero, List.getElem?_cons_succ, Option.map_some, List.map_nil, List.nil_append, List.cons_append, true_and, and_self, Bool.false_eq_true, Nat.reduceAdd, Nat.reduceEqDiff, ↓reduceIte, Nat.zero_add, List.append_nil]
    refine hQ _ _ _ _ _ ?_
    refine RG.callo [] [] ((pack_Lump_con data (by omega)).rows (drows_brow _)) (.mk (tr_cons tr_sl tr_nil) (trivial) (by simp) (by simp) (trivial) (by simp [lkE_cons, lkE_nil]) (by simp) (by simp) (by simp)) ?_
    refine RG.go fun Q hQ => ?_
    simp only [RX, eff, ev_t, lk_cons, lkE_cons, lkE_nil, setS_cons, setS_nil, setE_cons, setE_nil, AOp.isCall, setD, setEs, presOf, AOp.needs, SV.one?, SV.pre, idsOf, AOp.rds, AOp.ops, SV.ids, C.ids0, rowsOf, srcOf, List.drop_zero, List.length_nil, Option.map_some, List.map_cons, List.map_nil, List.nil_append, List.cons_append, true_and, and_self, Bool.false_eq_true, Nat.reduceAdd, Nat.reduceEqDiff, ↓reduceIte, renSV, renSV1, renC, renC0, renEnt, backUps, List.zip_nil_right, List.zipIdx_nil, List.filterMap_nil, List.append_nil, List.range_zero, Nat.sub_self]
    refine ⟨⟨brow_len _, by simp only [List.length_map, List.length_append]; omega⟩, hQ _ _ _ _ _ (RG.nil ?_)⟩
    simp only [x_ret, x_tn]
    rw [← List.map_append, htk, ← hp]
    exact Fin.data [1664] (.inr rfl) rfl trivial ⟨⟨_, _, rfl⟩, drows_brow _⟩
  have hk' : k < conf.length := by simp at ht; omega
  have hw1 : IntKind.i64.wrap ((k : Int) + 1) = ((k + 1 : Nat) : Int) := by rw [w64 _ (by omega) (by omega)]; rfl
  have hr : (List.map nrow conf)[(k : Int).toNat]?.getD [] = [.v (.int .i64 conf[k])] := by simp [hk', nrow]
  obtain ⟨h10, h11⟩ := h9 conf[k] (List.getElem_mem hk')
  have hwk := u64_nat (n := conf[k]) h10 (by omega)
  have hps : putS ((conf.map Int.toNat).take (k + 1)) = putS ((conf.map Int.toNat).take k) ++ putS [conf[k].toNat] := by
    rw [putS_take _ _ (by simpa using hk')]; simp [putS]
  have g4 := g3 (k + 1)
  rw [hps, List.length_append] at g4
  simp only [x_seq, x_block, x_skip, x_tn]
  refine aw_reg 1600 (RG.go fun Q hQ => ?_)
  simp only [RX, eff, ev_t, lk_cons, setS_cons, setS_nil, AOp.isCall, setD, setEs, presOf, AOp.needs, SV.one?, SV.pre, idsOf, AOp.rds, AOp.ops, SV.ids, C.ids0, Option.getD_some, List.length_cons, List.length_nil, List.getElem?_cons_zero, List.map_nil, List.nil_append, and_true, true_and, and_self, Bool.false_eq_true, Nat.reduceAdd, Nat.reduceEqDiff, Nat.reduceLT, ↓reduceIte, Nat.zero_add, List.append_nil, C_default, hr]
  refine ⟨by simp; omega, hQ _ _ _ _ _ (RG.nil ?_)⟩
  simp only [x_tn]
  refine aw_reg 1800 (RG.go fun Q hQ => ?_)
  simp only [RX, eff, ev_t, lk_cons, lkE_cons, lkE_nil, setS_cons, setS_nil, setE_cons, setE_nil, AOp.isCall, setD, setEs, presOf, AOp.needs, SV.one?, SV.pre, SV.cells, idsOf, AOp.rds, AOp.ops, SV.ids, C.ids0, bSRows, List.length_cons, List.length_nil, List.map_cons, List.map_nil, List.nil_append, true_and, and_self, Bool.false_eq_true, Nat.reduceAdd, Nat.reduceEqDiff, ↓reduceIte, Nat.zero_add, List.append_nil, hwk]
  refine hQ _ _ _ _ _ ?_
  refine RG.callo [] [1848] ((pack_Put_con [conf[k].toNat] (by simp) (by simp; omega)).rows (drows_brow _)) (.mk (tr_cons (tr_view (by simp) rfl (by simp [isDRows, urow, C.isD])) tr_nil) (trivial) (by simp) (by simp) (views1 rfl trivial) (by simp [lkE_cons, lkE_nil]) (by simp) (by simp) (by simp)) ?_
  refine RG.go fun Q hQ => ?_
  simp only [RX, eff, ev_t, lk_cons, lkE_cons, lkE_nil, setS_cons, setS_nil, setE_cons, setE_nil, AOp.isCall, setD, setEs, presOf, AOp.needs, SV.one?, SV.pre, idsOf, AOp.rds, AOp.ops, SV.ids, C.ids0, rowsOf, srcOf, List.drop_zero, List.length_nil, Option.map_some, List.map_cons, List.map_nil, List.nil_append, List.cons_append, true_and, and_self, Bool.false_eq_true, Nat.reduceAdd, Nat.reduceEqDiff, ↓reduceIte, renSV, renSV1, renC, renC0, renEnt, backUps, List.zip_nil_right, List.zipIdx_nil, List.filterMap_cons, List.filterMap_nil, List.append_nil, List.range_zero, Nat.sub_self]
  refine ⟨⟨brow_len _, by simp only [List.length_map, List.length_append]; omega⟩, hQ _ _ _ _ _ (RG.nil ?_)⟩
  simp only [x_tn, x_bn]
  refine aw_reg 2200 (RG.go fun Q hQ => ?_)
  simp only [RX, eff, ev_t, ev_k, lk_cons, setS_cons, setS_nil, AOp.isCall, setD, setEs, presOf, AOp.needs, SV.one?, SV.pre, binV, idsOf, AOp.rds, AOp.ops, SV.ids, C.ids0, Option.map_some, List.map_nil, List.nil_append, true_and, and_self, Bool.false_eq_true, Nat.reduceAdd, Nat.reduceEqDiff, ↓reduceIte, List.append_nil, hw1]
  refine hQ _ _ _ _ _ (RG.nil ?_)
  simp only [x_ln]
  refine ⟨⟨k + 1, hk'⟩, ?_, by simp; omega⟩
  refine Le.lit [] [(1000, 1880)] _ _ ?_ ?_ ?_ ?_
  · skip
    simp only [allL, lk_cons, lkE_cons, lkE_nil, WkSV, WkSV1, WkC, WkC0, rlook, frzEs, Nat.reduceEqDiff, ↓reduceIte, reduceCtorEq, and_true, ne_eq, not_false_eq_true]
  · skip
    simp only [allL, lkE_cons, lkE_nil, WkC, WkC0, WkEnt, TrL, rlook, frzEs, isDRows, Option.some.injEq, Nat.reduceEqDiff, ↓reduceIte, reduceCtorEq, true_and, and_true, exists_eq_left', ne_eq, true_or]
    refine ⟨by rw [hps]; simp, drows_brow _⟩
  · simp [rlook]
  · simp

theorem mementoref6_PutBase_con (i t : Int) (conf : List Int) (data : List Nat) (hb : conf.length ≤ 1000000) : Con Try.prog 20 [.agg (basC i t conf data)] [] (.c (.sl ((putB i t conf data).map brow))) [] := by
  refine C_mementoref6_PutBase (Nat.le_of_ble_eq_true rfl) (Nat.le_of_ble_eq_true rfl) ?_
  simp only [A_mementoref6_PutBase, argL, objL, List.length_nil, x_seq]
  refine aw_reg 16 (RG.go fun Q hQ => ?_)
  simp only [RX, eff, ev_t, ev_k, lk_cons, lkE_nil, setS_cons, setS_nil, setE_nil, AOp.isCall, setD, setEs, presOf, AOp.needs, SV.pre, SV.cells, idsOf, AOp.rds, AOp.ops, SV.ids, List.map_cons, List.map_nil, List.nil_append, true_and, and_self, Bool.false_eq_true, reduceCtorEq, Nat.reduceAdd, Nat.reduceEqDiff, ↓reduceIte, List.append_nil]
  refine hQ _ _ _ _ _ (RG.nil ?_)
  simp only [x_seq, x_tn]
  refine aw_reg 160 (RG.go fun Q hQ => ?_)
  simp only [RX, eff, ev_t, lk_cons, lkE_cons, setS_cons, setS_nil, AOp.isCall, setD, setEs, presOf, AOp.needs, SV.one?, SV.pre, idsOf, AOp.rds, AOp.ops, SV.ids, C.ids0, List.take_succ_cons, List.take_zero, List.drop_zero, List.length_cons, List.length_nil, List.map_nil, List.nil_append, List.cons_append, true_and, and_self, Bool.false_eq_true, reduceCtorEq, Nat.reduceAdd, Nat.reduceEqDiff, ↓reduceIte, Nat.zero_add, Nat.le_refl, List.append_nil]
  refine hQ _ _ _ _ _ ?_
  refine RG.call [] (mementoref6_BaseRight_con i t conf data hb) (by simp only [TrL, TrSV, TrC, TrC0, lk_cons, ev_t, List.map_cons, List.map_nil, Nat.reduceEqDiff, ↓reduceIte, reduceCtorEq, and_self]) (trivial) (.inl trivial) ?_
  refine RG.go fun Q hQ => ?_
  simp only [RX, eff, ev_t, lk_cons, setS_cons, setS_nil, AOp.isCall, setD, setEs, presOf, AOp.needs, SV.one?, SV.pre, unV, idsOf, AOp.rds, AOp.ops, SV.ids, C.ids0, Option.map_some, List.map_nil, List.nil_append, true_and, and_self, Bool.false_eq_true, reduceCtorEq, Nat.reduceAdd, Nat.reduceEqDiff, ↓reduceIte, List.append_nil]
  refine hQ _ _ _ _ _ (RG.nil ?_)
  simp only [x_tn]
  refine aw_cond _ rfl trivial (fun ht => ?_) (fun hf => ?_)
  · have he : baseRight i t conf data = false := by simpa using ht
    simp only [x_seq]
    refine aw_reg 600 (RG.go fun Q hQ => ?_)
    simp only [RX, eff, ev_k, setS_cons, AOp.isCall, setD, setEs, presOf, AOp.needs, idsOf, AOp.rds, List.map_nil, List.nil_append, true_and, Bool.false_eq_true, reduceCtorEq, Nat.reduceAdd, Nat.reduceEqDiff, ↓reduceIte]
    refine hQ _ _ _ _ _ (RG.nil ?_)
    simp only [x_ret, x_tn, x_tr]
    have hp : putB i t conf data = [] := by simp [putB, he]
    rw [hp]
    exact Fin.data [] (.inr rfl) rfl trivial ⟨rfl, rfl⟩
  have he : baseRight i t conf data = true := by simpa using hf
  obtain ⟨h1, h2, h3, h4, h5, h6⟩ := baseRight_facts he
  obtain ⟨h7, h8, h9⟩ := rightS_facts h5
  have w1 := u64_nat (n := i) (by omega) (by omega)
  have w2 := u64_nat (n := t) (by omega) (by omega)
  have w3 : IntKind.u64.wrap ((conf.map nrow).length : Int) = (conf.length : Int) := by rw [w_u64, List.length_map]; omega
  have hp : putB i t conf data = putS [i.toNat, t.toNat, conf.length] ++ putS (conf.map Int.toNat) ++ (num7 data.length ++ data) := by simp [putB, he]
  have g1 := putS_len [i.toNat, t.toNat, conf.length] (by simp; omega)
  have g2 := num7_len data.length (by omega)
  simp only [List.length_cons, List.length_nil] at g1
  have g3 : ∀ k, (putS ((conf.map Int.toNat).take k)).length ≤ 70 := fun k => by
    have := putS_len ((conf.map Int.toNat).take k) (fun m hm => by
      obtain ⟨x, hx, rfl⟩ := List.mem_map.1 (List.mem_of_mem_take hm)
      have := h9 x hx; omega)
    simp at this; omega
  simp only [x_seq, x_skip, x_tn]
  refine aw_reg 800 (RG.go fun Q hQ => ?_)
  simp only [RX, eff, ev_t, lk_cons, lkE_cons, lkE_nil, setS_cons, setS_nil, setE_cons, setE_nil, AOp.isCall, setD, setEs, presOf, AOp.needs, SV.one?, SV.pre, SV.cells, idsOf, AOp.rds, AOp.ops, SV.ids, C.ids0, rowsOf, bSRows, List.length_cons, List.length_nil, List.getElem?_cons_zero, List.getElem?_cons_succ, Option.map_some, List.map_cons, List.map_nil, List.nil_append, List.cons_append, true_and, and_self, Bool.false_eq_true, reduceCtorEq, Nat.reduceAdd, Nat.reduceEqDiff, ↓reduceIte, Option.bind_some, Nat.zero_add, List.append_nil, Nat.add_zero, w1, w2, w3]
  refine hQ _ _ _ _ _ ?_
  refine RG.callo [] [960] (mementoref1_Put_con [i.toNat, t.toNat, conf.length] (by simp) (by simp; omega)) (.mk (tr_cons (tr_view (by simp) rfl (by simp [isDRows, urow, C.isD])) tr_nil) (trivial) (by simp) (by simp) (views1 rfl trivial) (by simp [lkE_cons, lkE_nil]) (by simp only [List.mem_singleton, forall_eq, Ent.pure]; exact drows_brow _) (by simp) (by simp)) ?_
  refine RG.go fun Q hQ => ?_
  simp only [RX, eff, ev_t, lk_cons, lkE_cons, lkE_nil, setS_cons, setS_nil, setE_cons, setE_nil, AOp.isCall, setD, setEs, presOf, AOp.needs, idsOf, AOp.rds, List.drop_zero, List.length_cons, List.length_nil, List.map_cons, List.map_nil, List.nil_append, List.cons_append, true_and, Bool.false_eq_true, reduceCtorEq, Nat.reduceAdd, Nat.reduceEqDiff, ↓reduceIte, Nat.zero_add, renSV, renSV1, renC, renC0, rn, renEnt, backUps, List.zip_nil_left, List.zipIdx_cons, List.zipIdx_nil, List.filterMap_cons, List.filterMap_nil, List.getElem?_nil, Nat.sub_self, Nat.sub_zero, Nat.add_zero]
  refine hQ _ _ _ _ _ (RG.nil ?_)
  simp only [x_seq, x_tn]
  refine aw_reg 1200 (RG.go fun Q hQ => ?_)
  simp only [RX, eff, ev_k, setS_cons, setS_nil, AOp.isCall, setD, setEs, presOf, AOp.needs, idsOf, AOp.rds, List.map_nil, List.nil_append, true_and, Bool.false_eq_true, reduceCtorEq, Nat.reduceAdd, Nat.reduceEqDiff, ↓reduceIte]
  refine hQ _ _ _ _ _ (RG.nil ?_)
  simp only [x_block, x_tn]
  refine aw_loop (X := { k : Nat // k ≤ conf.length }) (fun k => mkSt [(1, .c (.bp 16 0)), (3, .c (.osl 1000)), (4, I k.1)] [(16, .box (basC i t conf data)), (1000, .arr 5 1 ((putS [i.toNat, t.toNat, conf.length] ++ putS ((conf.map Int.toNat).take k.1)).map brow) false)]) (fun k => conf.length - k.1) ⟨0, by omega⟩ ?_ ?_
  · refine Le.lit [] [(1000, 976)] _ _ ?_ ?_ ?_ ?_
    · skip
      simp only [Int.cast_ofNat_Int, allL, lk_cons, lkE_cons, lkE_nil, WkSV, WkSV1, WkC, WkC0, rlook, frzEs, Nat.reduceEqDiff, ↓reduceIte, reduceCtorEq, and_true, ne_eq, not_false_eq_true]
    · skip
      simp only [allL, lkE_cons, lkE_nil, WkC, WkC0, WkEnt, TrL, rlook, frzEs, isDRows, Option.some.injEq, Nat.reduceEqDiff, ↓reduceIte, reduceCtorEq, true_and, and_true, exists_eq_left', ne_eq, true_or]
      refine ⟨by simp [putS], drows_brow _⟩
    · simp [rlook]
    · simp
  rintro ⟨k, hk⟩
  simp only [x_seq]
  refine aw_reg 1400 (RG.go fun Q hQ => ?_)
  simp only [RX, eff, ev_t, lk_cons, lkE_cons, setS_cons, setS_nil, AOp.isCall, setD, setEs, presOf, AOp.needs, SV.one?, SV.pre, binV, idsOf, AOp.rds, AOp.ops, SV.ids, C.ids0, rowsOf, List.getElem?_cons_zero, List.getElem?_cons_succ, Option.map_some, List.map_nil, List.nil_append, List.cons_append, true_and, and_self, Bool.false_eq_true, Nat.reduceAdd, Nat.reduceEqDiff, ↓reduceIte, Option.bind_some, Nat.zero_add, List.append_nil]
  refine hQ _ _ _ _ _ (RG.nil ?_)
  simp only [x_tn]
  refine aw_cond _ rfl trivial (fun ht => ?_) (fun hf => ?_)
  rotate_left
  · have hk' : k = conf.length := by simp at hf; omega
    have g4 := g3 k
    have htk : (conf.map Int.toNat).take k = conf.map Int.toNat := List.take_of_length_le (by simp; omega)
    simp only [x_seq, x_exit, x_tn, x_tx, x_bx, x_lx, ↓reduceIte]
    refine aw_reg 1600 (RG.go fun Q hQ => ?_)
    simp only [RX, eff, ev_t, lk_cons, lkE_cons, setS_cons, setS_nil, AOp.isCall, setD, setEs, presOf, AOp.needs, SV.one?, SV.pre, idsOf, AOp.rds, AOp.ops, SV.ids, C.ids0, List.getElem?_cons_zero, List.getElem?_cons_succ, Option.map_some, List.map_nil, List.nil_append, List.cons_append, true_and, and_self, Bool.false_eq_true, Nat.reduceAdd, Nat.reduceEqDiff, ↓reduceIte, Nat.zero_add, List.append_nil]
    refine hQ _ _ _ _ _ ?_
    refine RG.callo [] [] ((mementoref1_Lump_con data (by omega)).rows (drows_brow _)) (.mk (tr_cons tr_sl tr_nil) (trivial) (by simp) (by simp) (trivial) (by simp [lkE_cons, lkE_nil]) (by simp) (by simp) (by simp)) ?_
    refine RG.go fun Q hQ => ?_
    simp only [RX, eff, ev_t, lk_cons, lkE_cons, lkE_nil, setS_cons, setS_nil, setE_cons, setE_nil, AOp.isCall, setD, setEs, presOf, AOp.needs, SV.one?, SV.pre, idsOf, AOp.rds, AOp.ops, SV.ids, C.ids0, rowsOf, srcOf, List.drop_zero, List.length_nil, Option.map_some, List.map_cons, List.map_nil, List.nil_append, List.cons_append, true_and, and_self, Bool.false_eq_true, Nat.reduceAdd, Nat.reduceEqDiff, ↓reduceIte, renSV, renSV1, renC, renC0, renEnt, backUps, List.zip_nil_right, List.zipIdx_nil, List.filterMap_nil, List.append_nil, List.range_zero, Nat.sub_self]
    refine ⟨⟨brow_len _, by simp only [List.length_map, List.length_append]; omega⟩, hQ _ _ _ _ _ (RG.nil ?_)⟩
    simp only [x_ret, x_tn]
    rw [← List.map_append, htk, ← hp]
    exact Fin.data [1664] (.inr rfl) rfl trivial ⟨⟨_, _, rfl⟩, drows_brow _⟩
  have hk' : k < conf.length := by simp at ht; omega
  have hw1 : IntKind.i64.wrap ((k : Int) + 1) = ((k + 1 : Nat) : Int) := by rw [w64 _ (by omega) (by omega)]; rfl
  have hr : (List.map nrow conf)[(k : Int).toNat]?.getD [] = [.v (.int .i64 conf[k])] := by simp [hk', nrow]
  obtain ⟨h10, h11⟩ := h9 conf[k] (List.getElem_mem hk')
  have hwk := u64_nat (n := conf[k]) h10 (by omega)
  have hps : putS ((conf.map Int.toNat).take (k + 1)) = putS ((conf.map Int.toNat).take k) ++ putS [conf[k].toNat] := by
    rw [putS_take _ _ (by simpa using hk')]; simp [putS]
  have g4 := g3 (k + 1)
  rw [hps, List.length_append] at g4
  simp only [x_seq, x_block, x_skip, x_tn]
  refine aw_reg 1600 (RG.go fun Q hQ => ?_)
  simp only [RX, eff, ev_t, lk_cons, lkE_cons, lkE_nil, setS_cons, setS_nil, setE_cons, setE_nil, AOp.isCall, setD, setEs, presOf, AOp.needs, SV.one?, SV.pre, SV.cells, idsOf, AOp.rds, AOp.ops, SV.ids, C.ids0, Option.getD_some, bSRows, List.length_cons, List.length_nil, List.getElem?_cons_zero, List.getElem?_cons_succ, Option.map_some, List.map_cons, List.map_nil, List.nil_append, List.cons_append, and_true, true_and, and_self, Bool.false_eq_true, Nat.reduceAdd, Nat.reduceEqDiff, Nat.reduceLT, ↓reduceIte, Nat.zero_add, List.append_nil, C_default, hr, hwk]
  refine ⟨by simp; omega, ?_⟩
  refine hQ _ _ _ _ _ ?_
  refine RG.callo [] [1712] ((mementoref1_Put_con [conf[k].toNat] (by simp) (by simp; omega)).rows (drows_brow _)) (.mk (tr_cons (tr_view (by simp) rfl (by simp [isDRows, urow, C.isD])) tr_nil) (trivial) (by simp) (by simp) (views1 rfl trivial) (by simp [lkE_cons, lkE_nil]) (by simp) (by simp) (by simp)) ?_
  refine RG.go fun Q hQ => ?_
  simp only [RX, eff, ev_t, lk_cons, lkE_cons, lkE_nil, setS_cons, setS_nil, setE_cons, setE_nil, AOp.isCall, setD, setEs, presOf, AOp.needs, SV.one?, SV.pre, idsOf, AOp.rds, AOp.ops, SV.ids, C.ids0, rowsOf, srcOf, List.drop_zero, List.length_nil, Option.map_some, List.map_cons, List.map_nil, List.nil_append, List.cons_append, true_and, and_self, Bool.false_eq_true, Nat.reduceAdd, Nat.reduceEqDiff, ↓reduceIte, renSV, renSV1, renC, renC0, renEnt, backUps, List.zip_nil_right, List.zipIdx_nil, List.filterMap_cons, List.filterMap_nil, List.append_nil, List.range_zero, Nat.sub_self]
  refine ⟨⟨brow_len _, by simp only [List.length_map, List.length_append]; omega⟩, hQ _ _ _ _ _ (RG.nil ?_)⟩
  simp only [x_tn, x_bn]
  refine aw_reg 2200 (RG.go fun Q hQ => ?_)
  simp only [RX, eff, ev_t, ev_k, lk_cons, setS_cons, setS_nil, AOp.isCall, setD, setEs, presOf, AOp.needs, SV.one?, SV.pre, binV, idsOf, AOp.rds, AOp.ops, SV.ids, C.ids0, Option.map_some, List.map_nil, List.nil_append, true_and, and_self, Bool.false_eq_true, Nat.reduceAdd, Nat.reduceEqDiff, ↓reduceIte, List.append_nil, hw1]
  refine hQ _ _ _ _ _ (RG.nil ?_)
  simp only [x_ln]
  refine ⟨⟨k + 1, hk'⟩, ?_, by simp; omega⟩
  refine Le.lit [] [(1000, 1744)] _ _ ?_ ?_ ?_ ?_
  · skip
    simp only [allL, lk_cons, lkE_cons, lkE_nil, WkSV, WkSV1, WkC, WkC0, rlook, frzEs, Nat.reduceEqDiff, ↓reduceIte, reduceCtorEq, and_true, ne_eq, not_false_eq_true]
  · skip
    simp only [allL, lkE_cons, lkE_nil, WkC, WkC0, WkEnt, TrL, rlook, frzEs, isDRows, Option.some.injEq, Nat.reduceEqDiff, ↓reduceIte, reduceCtorEq, true_and, and_true, exists_eq_left', ne_eq, true_or]
    refine ⟨by rw [hps]; simp, drows_brow _⟩
  · simp [rlook]
  · simp


end Go.Abs
namespace Go.Abs
open Go Go.Proofs
set_option maxRecDepth 100000
set_option linter.unusedSimpArgs false

/-- So many numbers off a reader. -/
def numsR (most : Nat) (l : List Nat) (e : Nat) : Nat → List Nat × List Nat × Nat
  | 0 => ([], l, e)
  | k + 1 => ((numsR most l e k).1 ++ [(numR most (numsR most l e k).2.1 (numsR most l e k).2.2).1], (numR most (numsR most l e k).2.1 (numsR most l e k).2.2).2.1, (numR most (numsR most l e k).2.1 (numsR most l e k).2.2).2.2)

theorem numsR_facts {most : Nat} {l : List Nat} {e : Nat} (hl : ∀ c ∈ l, c < 256) : ∀ k, (numsR most l e k).1.length = k ∧ (numsR most l e k).2.1.length ≤ l.length ∧ (∀ c ∈ (numsR most l e k).2.1, c < 256) ∧ ∀ n ∈ (numsR most l e k).1, n ≤ most
  | 0 => ⟨rfl, Nat.le_refl _, hl, by simp [numsR]⟩
  | k + 1 => by
    obtain ⟨h1, h2, h3, h4⟩ := numsR_facts (most := most) (e := e) hl k
    refine ⟨by simp [numsR, h1], Nat.le_trans numR_len h2, numR_mem h3, fun n hn => ?_⟩
    simp only [numsR, List.mem_append, List.mem_singleton] at hn
    rcases hn with hn | rfl
    · exact h4 n hn
    · exact numR_le

structure ReadB where
  i : Nat
  t : Nat
  c : List Int
  d : List Nat
  ok : Bool
  l : List Nat
  e : Nat

/-- The base that bytes begin with. -/
def readB (most : Nat) (l : List Nat) (e : Nat) : ReadB :=
  let a := numR 1099511627776 l e
  let b := numR 1099511627776 a.2.1 a.2.2
  let c := numR 7 b.2.1 b.2.2
  let n := numsR most c.2.1 c.2.2 c.1
  let d := lumpR 32767 n.2.1 n.2.2
  if d.2.2 = 0 ∧ baseRight a.1 b.1 (n.1.map fun (k : Nat) => (k : Int)) d.1 = true then ⟨a.1, b.1, n.1.map fun (k : Nat) => (k : Int), d.1, true, d.2.1, d.2.2⟩ else ⟨0, 0, [], [], false, d.2.1, d.2.2⟩

theorem entry_ReadBase_nil_con : Con Try.prog 25 [.c (.v (.pointer none))] [] (.tup [.agg (basC 0 0 [] []), B false]) [] := by
  refine C_entry_ReadBase (Nat.le_of_ble_eq_true rfl) (Nat.le_of_ble_eq_true rfl) ?_
  simp only [A_entry_ReadBase, argL, objL, List.length_nil, x_seq]
  refine aw_reg 16 (RG.go fun Q hQ => ?_)
  simp only [RX, eff, ev_k, lkE_nil, setS_cons, setS_nil, setE_nil, AOp.isCall, setD, setEs, presOf, AOp.needs, idsOf, AOp.rds, AOp.ops, List.map_cons, List.map_nil, List.nil_append, true_and, Bool.false_eq_true, reduceCtorEq, Nat.reduceAdd, Nat.reduceEqDiff, ↓reduceIte]
  refine hQ _ _ _ _ _ (RG.nil ?_)
  simp only [x_seq, x_tn]
  refine aw_reg 160 (RG.go fun Q hQ => ?_)
  simp only [RX, eff, ev_t, lk_cons, setS_cons, setS_nil, AOp.isCall, setD, setEs, presOf, AOp.needs, SV.one?, SV.pre, idsOf, AOp.rds, AOp.ops, SV.ids, C.ids0, List.map_nil, List.nil_append, true_and, and_self, Bool.false_eq_true, Bool.not_false, reduceCtorEq, Nat.reduceAdd, Nat.reduceEqDiff, ↓reduceIte, List.append_nil]
  refine hQ _ _ _ _ _ (RG.nil ?_)
  simp only [x_tn]
  refine aw_cond _ rfl trivial (fun ht => ?_) (fun hf => by cases hf)
  simp only [x_seq]
  refine aw_reg 320 (RG.go fun Q hQ => ?_)
  simp only [RX, eff, ev_t, ev_k, lk_cons, lkE_cons, setS_cons, setS_nil, setE_cons, AOp.isCall, setD, setEs, presOf, AOp.needs, SV.one?, SV.pre, SV.cells, idsOf, AOp.rds, AOp.ops, SV.ids, C.ids0, bldFold, splice, List.take_zero, List.drop_succ_cons, List.drop_zero, List.length_cons, List.length_nil, Option.map_some, List.map_cons, List.map_nil, List.nil_append, List.cons_append, true_and, and_self, Bool.false_eq_true, reduceCtorEq, Nat.reduceAdd, Nat.reduceEqDiff, ↓reduceIte, Nat.zero_add, Nat.le_refl, List.append_nil]
  refine hQ _ _ _ _ _ (RG.nil ?_)
  simp only [x_ret, x_tn, x_tr]
  exact Fin.data [] (.inr rfl) rfl ⟨trivial, trivial⟩ ⟨⟨rfl, rfl, ⟨rfl, rfl⟩, ⟨rfl, rfl⟩, trivial⟩, rfl, trivial⟩

theorem entry_ReadBase_con (l : List Nat) (e : Nat) (hl : ∀ c ∈ l, c < 256) (hb : l.length ≤ 140737488355328) : Con Try.prog 25 [.c (.bp 0 0)] [Rd l e] (.tup [.agg (basC (readB 9223372036854775807 l e).i (readB 9223372036854775807 l e).t (readB 9223372036854775807 l e).c (readB 9223372036854775807 l e).d), B (readB 9223372036854775807 l e).ok]) [Rd (readB 9223372036854775807 l e).l (readB 9223372036854775807 l e).e] := by
  generalize hr : readB 9223372036854775807 l e = r
  unfold readB at hr
  have m1 := numR_mem (most := 1099511627776) (e := e) hl
  have n1 := numR_len (most := 1099511627776) (l := l) (e := e)
  have w1 := w_nat (n := (numR 1099511627776 l e).1) (by have := numR_le (most := 1099511627776) (l := l) (e := e); omega)
  have c1 := pack_Reader_Num_con l e 1099511627776 hl hb
  generalize numR 1099511627776 l e = a at hr m1 n1 w1 c1
  obtain ⟨a, l1, e1⟩ := a
  simp only at hr m1 n1 w1 c1
  have m2 := numR_mem (most := 1099511627776) (e := e1) m1
  have n2 := numR_len (most := 1099511627776) (l := l1) (e := e1)
  have w2 := w_nat (n := (numR 1099511627776 l1 e1).1) (by have := numR_le (most := 1099511627776) (l := l1) (e := e1); omega)
  have c2 := pack_Reader_Num_con l1 e1 1099511627776 m1 (by omega)
  generalize numR 1099511627776 l1 e1 = b at hr m2 n2 w2 c2
  obtain ⟨b, l2, e2⟩ := b
  simp only at hr m2 n2 w2 c2
  have m3 := numR_mem (most := 7) (e := e2) m2
  have n3 := numR_len (most := 7) (l := l2) (e := e2)
  have k3 := numR_le (most := 7) (l := l2) (e := e2)
  have c3 := pack_Reader_Num_con l2 e2 7 m2 (by omega)
  generalize numR 7 l2 e2 = c at hr m3 n3 k3 c3
  obtain ⟨c, l3, e3⟩ := c
  simp only at hr m3 n3 k3 c3
  have hns := numsR_facts (most := 9223372036854775807) (e := e3) m3
  refine C_entry_ReadBase (Nat.le_of_ble_eq_true rfl) (Nat.le_of_ble_eq_true rfl) ?_
  simp only [A_entry_ReadBase, argL, objL, List.length_nil, List.length_cons, Nat.zero_add, x_seq]
  refine aw_reg 16 (RG.go fun Q hQ => ?_)
  simp only [RX, eff, ev_k, lkE_cons, lkE_nil, setS_cons, setS_nil, setE_cons, setE_nil, AOp.isCall, setD, setEs, presOf, AOp.needs, idsOf, AOp.rds, AOp.ops, List.map_cons, List.map_nil, List.nil_append, true_and, Bool.false_eq_true, reduceCtorEq, Nat.reduceAdd, Nat.reduceEqDiff, ↓reduceIte]
  refine hQ _ _ _ _ _ (RG.nil ?_)
  simp only [x_seq, x_tn]
  refine aw_reg 160 (RG.go fun Q hQ => ?_)
  simp only [RX, eff, ev_t, lk_cons, setS_cons, setS_nil, AOp.isCall, setD, setEs, presOf, AOp.needs, SV.one?, SV.pre, idsOf, AOp.rds, AOp.ops, SV.ids, C.ids0, List.map_nil, List.nil_append, List.cons_append, true_and, and_self, Bool.false_eq_true, reduceCtorEq, Nat.reduceAdd, Nat.reduceEqDiff, ↓reduceIte, List.append_nil]
  refine hQ _ _ _ _ _ (RG.nil ?_)
  simp only [x_tn]
  refine aw_cond _ rfl trivial (fun ht => by cases ht) (fun hf => ?_)
  simp only [x_seq, x_skip, x_tn]
  refine aw_reg 320 (RG.go fun Q hQ => ?_)
  simp only [RX, eff, ev_t, lk_cons, setS_cons, setS_nil, AOp.isCall, setD, setEs, presOf, AOp.needs, idsOf, AOp.rds, List.map_nil, List.nil_append, true_and, Bool.false_eq_true, reduceCtorEq, Nat.reduceAdd, Nat.reduceEqDiff, ↓reduceIte]
  refine hQ _ _ _ _ _ ?_
  refine RG.callo [0] [] (c1) (.mk (tr_cons (tr_bp rfl) (tr_cons tr_v tr_nil)) (by simp only [TrL, TrC, TrC0, TrEnt, lkE_cons, ↓reduceIte, and_self, exists_eq_left', Option.some.injEq, isDRows]) (by simp) (by simp) (trivial) (by simp [lkE_cons, lkE_nil]) (by simp [Ent.pure]) (by simp) (by simp)) ?_
  refine RG.go fun Q hQ => ?_
  simp only [RX, eff, ev_t, lk_cons, lkE_cons, lkE_nil, setS_cons, setS_nil, setE_cons, AOp.isCall, setD, setEs, presOf, AOp.needs, SV.one?, SV.pre, idsOf, AOp.rds, AOp.ops, SV.ids, C.ids0, List.drop_succ_cons, List.drop_zero, List.length_cons, List.length_nil, List.map_cons, List.map_nil, List.nil_append, true_and, and_self, Bool.false_eq_true, reduceCtorEq, Nat.reduceAdd, Nat.reduceEqDiff, ↓reduceIte, Nat.zero_add, renSV, renSV1, renC, renC0, renEnt, backUps, List.zip_nil_right, List.zip_cons_cons, List.zipIdx_nil, List.filterMap_nil, List.append_nil, List.range_zero, Nat.sub_self]
  refine hQ _ _ _ _ _ ?_
  refine RG.callo [0] [] (c2) (.mk (tr_cons (tr_bp rfl) (tr_cons tr_v tr_nil)) (by simp only [TrL, TrC, TrC0, TrEnt, lkE_cons, ↓reduceIte, and_self, exists_eq_left', Option.some.injEq, isDRows]) (by simp) (by simp) (trivial) (by simp [lkE_cons, lkE_nil]) (by simp [Ent.pure]) (by simp) (by simp)) ?_
  refine RG.go fun Q hQ => ?_
  simp only [RX, eff, ev_t, lk_cons, lkE_cons, lkE_nil, setS_cons, setS_nil, setE_cons, setE_nil, AOp.isCall, setD, setEs, presOf, AOp.needs, SV.one?, SV.pre, SV.cells, idsOf, AOp.rds, AOp.ops, SV.ids, C.ids0, bldFold, splice, List.take_succ_cons, List.take_zero, List.drop_succ_cons, List.drop_zero, List.length_cons, List.length_nil, Option.map_some, List.map_cons, List.map_nil, List.nil_append, List.cons_append, true_and, and_self, Bool.false_eq_true, reduceCtorEq, Nat.reduceAdd, Nat.reduceEqDiff, Nat.reduceLeDiff, ↓reduceIte, Nat.zero_add, Nat.le_refl, renSV, renSV1, renC, renC0, renEnt, backUps, List.zip_nil_right, List.zip_cons_cons, List.zipIdx_nil, List.filterMap_nil, List.append_nil, List.range_zero, Nat.sub_self]
  simp only [w1, w2]
  refine hQ _ _ _ _ _ (RG.nil ?_)
  simp only [x_seq, x_tn]
  refine aw_reg 600 (RG.go fun Q hQ => ?_)
  simp only [RX, eff, ev_t, lk_cons, setS_cons, setS_nil, AOp.isCall, setD, setEs, presOf, AOp.needs, idsOf, AOp.rds, List.map_nil, List.nil_append, true_and, Bool.false_eq_true, reduceCtorEq, Nat.reduceAdd, Nat.reduceEqDiff, ↓reduceIte]
  refine hQ _ _ _ _ _ ?_
  refine RG.callo [0] [] (c3) (.mk (tr_cons (tr_bp rfl) (tr_cons tr_v tr_nil)) (by simp only [TrL, TrC, TrC0, TrEnt, lkE_cons, ↓reduceIte, and_self, exists_eq_left', Option.some.injEq, isDRows]) (by simp) (by simp) (trivial) (by simp [lkE_cons, lkE_nil]) (by simp [Ent.pure]) (by simp) (by simp)) ?_
  refine RG.go fun Q hQ => ?_
  simp only [RX, eff, ev_k, lkE_cons, lkE_nil, setS_cons, setS_nil, setE_cons, AOp.isCall, setD, setEs, presOf, AOp.needs, idsOf, AOp.rds, List.drop_succ_cons, List.drop_zero, List.length_cons, List.length_nil, List.map_cons, List.map_nil, List.nil_append, true_and, Bool.false_eq_true, reduceCtorEq, Nat.reduceAdd, Nat.reduceEqDiff, ↓reduceIte, Nat.zero_add, renSV, renSV1, renC, renC0, renEnt, backUps, List.zip_nil_right, List.zip_cons_cons, List.zipIdx_nil, List.filterMap_nil, List.append_nil, List.range_zero, Nat.sub_self]
  refine hQ _ _ _ _ _ (RG.nil ?_)
  simp only [x_block, x_tn]
  refine aw_loop (X := { k : Nat // k ≤ c }) (fun k => mkSt [(0, .c (.bp 0 0)), (2, .c (.bp 16 0)), (3, B false), (4, .c (.bp 432 0)), (16, .c (.v (.int .u64 c))), (17, .c (.v (.int .u64 k.1)))]
    [(0, Rd (numsR 9223372036854775807 l3 e3 k.1).2.1 (numsR 9223372036854775807 l3 e3 k.1).2.2), (16, .box [.v (.int .i64 0), .v (.int .i64 0), .v (.slice none 0 0), .v (.slice none 0 0)]), (432, .box [.v (.int .i64 a), .v (.int .i64 b), .osl 1000, .v (.slice none 0 0)]),
      (1000, .arr 3 1 (((numsR 9223372036854775807 l3 e3 k.1).1.map fun (n : Nat) => (n : Int)).map nrow) false)]) (fun k => c - k.1) ⟨0, by omega⟩ ?_ ?_
  · refine (Le.ownB 432 2 1000 _ 3 1 rfl rfl rfl (by decide)).trans (Le.lit [] [] _ _ ?_ ?_ ?_ ?_)
    · skip
      simp only [Int.cast_ofNat_Int, allL, lk_cons, lkE_cons, lkE_nil, WkSV, WkSV1, WkC, WkC0, rlook, frzEs, setE_cons, setE_nil, Nat.reduceEqDiff, ↓reduceIte, reduceCtorEq, and_true, ne_eq, not_false_eq_true]
    · simp only [List.set_cons_succ, List.set_cons_zero]
      simp only [allL, lkE_cons, lkE_nil, WkC, WkC0, WkEnt, TrL, rlook, frzEs, setE_cons, setE_nil, isDRows, Option.some.injEq, Nat.reduceEqDiff, ↓reduceIte, reduceCtorEq, true_and, and_true, exists_eq_left', ne_eq, not_false_eq_true, true_or]
      simp [numsR]
    · simp [rlook]
    · simp [rlook]
  rintro ⟨k, hk⟩
  obtain ⟨f1, f2, f3, f4⟩ := hns k
  have hk1 : numsR 9223372036854775807 l3 e3 (k + 1) = ((numsR 9223372036854775807 l3 e3 k).1 ++ [(numR 9223372036854775807 (numsR 9223372036854775807 l3 e3 k).2.1 (numsR 9223372036854775807 l3 e3 k).2.2).1], (numR 9223372036854775807 (numsR 9223372036854775807 l3 e3 k).2.1 (numsR 9223372036854775807 l3 e3 k).2.2).2.1, (numR 9223372036854775807 (numsR 9223372036854775807 l3 e3 k).2.1 (numsR 9223372036854775807 l3 e3 k).2.2).2.2) := rfl
  simp only [x_seq]
  refine aw_reg 700 (RG.go fun Q hQ => ?_)
  simp only [RX, eff, ev_t, lk_cons, setS_cons, setS_nil, AOp.isCall, setD, setEs, presOf, AOp.needs, SV.one?, SV.pre, binV, idsOf, AOp.rds, AOp.ops, SV.ids, C.ids0, Option.map_some, List.map_nil, List.nil_append, true_and, and_self, Bool.false_eq_true, reduceCtorEq, Nat.reduceAdd, Nat.reduceEqDiff, ↓reduceIte, List.append_nil]
  refine hQ _ _ _ _ _ (RG.nil ?_)
  simp only [x_seq, x_tn]
  refine aw_cond _ rfl trivial (fun ht => ?_) (fun hf => ?_)
  · have hk' : k < c := by simp at ht; omega
    have cn := pack_Reader_Num_con (numsR 9223372036854775807 l3 e3 k).2.1 (numsR 9223372036854775807 l3 e3 k).2.2 9223372036854775807 f3 (by omega)
    have wn := w_nat (n := (numR 9223372036854775807 (numsR 9223372036854775807 l3 e3 k).2.1 (numsR 9223372036854775807 l3 e3 k).2.2).1) (by have := numR_le (most := 9223372036854775807) (l := (numsR 9223372036854775807 l3 e3 k).2.1) (e := (numsR 9223372036854775807 l3 e3 k).2.2); omega)
    have hw1 : IntKind.u64.wrap ((k : Int) + 1) = ((k + 1 : Nat) : Int) := by rw [w_u64]; omega
    generalize numsR 9223372036854775807 l3 e3 k = q at *
    obtain ⟨qs, lq, eq⟩ := q
    simp only at f1 f2 f3 f4 hk1 cn wn
    generalize numR 9223372036854775807 lq eq = z at *
    obtain ⟨z, lz, ez⟩ := z
    simp only at hk1 cn wn
    simp only [x_seq, x_block, x_skip, x_tn]
    refine aw_draw 800 (RG.go fun Q hQ => ?_)
    simp only [RX, eff, ev_t, lk_cons, lkE_cons, setS_cons, setS_nil, AOp.isCall, setD, setEs, presOf, AOp.needs, SV.one?, SV.pre, idsOf, AOp.rds, AOp.ops, SV.ids, C.ids0, List.getElem?_cons_zero, List.getElem?_cons_succ, Option.map_some, List.map_nil, List.nil_append, List.cons_append, true_and, and_self, Bool.false_eq_true, reduceCtorEq, Nat.reduceAdd, Nat.reduceEqDiff, ↓reduceIte, Nat.zero_add, List.append_nil]
    refine hQ _ _ _ _ _ ?_
    refine RG.callo [0] [] (cn) (.mk (tr_cons (tr_bp rfl) (tr_cons tr_v tr_nil)) (by simp only [TrL, TrC, TrC0, TrEnt, lkE_cons, ↓reduceIte, and_self, exists_eq_left', Option.some.injEq, isDRows]) (by simp) (by simp) (trivial) (by simp [lkE_cons, lkE_nil]) (by simp [Ent.pure]) (by simp) (by simp)) ?_
    refine RG.go fun Q hQ => ?_
    simp only [RX, eff, ev_t, lk_cons, lkE_cons, lkE_nil, setS_cons, setS_nil, setE_cons, setE_nil, AOp.isCall, setD, setEs, presOf, AOp.needs, SV.one?, SV.pre, SV.cells, idsOf, AOp.rds, AOp.ops, SV.ids, C.ids0, rowsOf, srcOf, bSRows, splice, List.take_succ_cons, List.take_zero, List.drop_succ_cons, List.drop_zero, List.length_cons, List.length_nil, Option.map_some, List.map_cons, List.map_nil, List.nil_append, List.cons_append, true_and, and_self, Bool.false_eq_true, reduceCtorEq, Nat.reduceAdd, Nat.reduceEqDiff, Nat.reduceLeDiff, ↓reduceIte, Nat.zero_add, renSV, renSV1, renC, renC0, renEnt, backUps, List.zip_nil_right, List.zip_cons_cons, List.zipIdx_nil, List.filterMap_nil, List.append_nil, List.range_zero, Nat.sub_self]
    simp only [wn]
    refine ⟨⟨by simp, by simp; omega⟩, hQ _ _ _ _ _ (RG.nil ⟨by decide, ?_⟩)⟩
    simp only [x_tn, x_bn]
    refine aw_reg 1200 (RG.go fun Q hQ => ?_)
    simp only [RX, eff, ev_t, ev_k, lk_cons, setS_cons, setS_nil, AOp.isCall, setD, setEs, presOf, AOp.needs, SV.one?, SV.pre, binV, idsOf, AOp.rds, AOp.ops, SV.ids, C.ids0, Option.map_some, List.map_nil, List.nil_append, true_and, and_self, Bool.false_eq_true, reduceCtorEq, Nat.reduceAdd, Nat.reduceEqDiff, ↓reduceIte, List.append_nil, hw1]
    refine hQ _ _ _ _ _ (RG.nil ?_)
    simp only [x_ln]
    refine ⟨⟨k + 1, hk'⟩, ?_, by simp; omega⟩
    refine Le.lit [] [(1000, 896)] _ _ ?_ ?_ ?_ ?_
    · skip
      simp only [allL, lk_cons, lkE_cons, lkE_nil, WkSV, WkSV1, WkC, WkC0, rlook, frzEs, Nat.reduceEqDiff, ↓reduceIte, reduceCtorEq, and_true, ne_eq, not_false_eq_true]
    · skip
      simp only [allL, lkE_cons, lkE_nil, WkC, WkC0, WkEnt, TrL, rlook, frzEs, isDRows, Option.some.injEq, Nat.reduceEqDiff, ↓reduceIte, reduceCtorEq, true_and, and_true, exists_eq_left', ne_eq, not_false_eq_true, true_or]
      rw [hk1]
      refine ⟨⟨rfl, rfl⟩, by simp [nrow], drows_nrow _⟩
    · simp [rlook]
    · simp [rlook]
  have hkc : k = c := by simp at hf; omega
  subst hkc
  have c4 := pack_Reader_Lump_con (numsR 9223372036854775807 l3 e3 k).2.1 (numsR 9223372036854775807 l3 e3 k).2.2 32767 f3 (by omega) (by omega)
  generalize numsR 9223372036854775807 l3 e3 k = q at *
  obtain ⟨qs, lq, eq⟩ := q
  simp only at f1 f2 f3 f4 hr c4
  generalize lumpR 32767 lq eq = d at *
  obtain ⟨d, l4, e4⟩ := d
  simp only at hr c4
  have hd := drows_nrow (qs.map fun (n : Nat) => (n : Int))
  have hlc : (qs.map fun (n : Nat) => (n : Int)).length ≤ 12 := by simp; omega
  generalize (qs.map fun (n : Nat) => (n : Int)) = cs at *
  simp only [x_seq, x_exit, x_tn, x_tx, x_bx, x_lx, ↓reduceIte]
  refine aw_reg 1400 (RG.go fun Q hQ => ?_)
  simp only [RX, eff, ev_t, lk_cons, setS_cons, setS_nil, AOp.isCall, setD, setEs, presOf, AOp.needs, idsOf, AOp.rds, List.map_nil, List.nil_append, true_and, Bool.false_eq_true, reduceCtorEq, Nat.reduceAdd, Nat.reduceEqDiff, ↓reduceIte]
  refine hQ _ _ _ _ _ ?_
  refine RG.callo [0] [] (c4) (.mk (tr_cons (tr_bp rfl) (tr_cons tr_v tr_nil)) (by simp only [TrL, TrC, TrC0, TrEnt, lkE_cons, ↓reduceIte, and_self, exists_eq_left', Option.some.injEq, isDRows]) (by simp) (by simp) (trivial) (by simp [lkE_cons, lkE_nil]) (by simp [Ent.pure]) (by simp) (by simp)) ?_
  refine RG.go fun Q hQ => ?_
  simp only [RX, eff, ev_t, lk_cons, lkE_cons, lkE_nil, setS_cons, setS_nil, setE_cons, AOp.isCall, setD, setEs, presOf, AOp.needs, SV.one?, SV.pre, SV.cells, idsOf, AOp.rds, AOp.ops, SV.ids, C.ids0, splice, List.take_succ_cons, List.take_zero, List.drop_succ_cons, List.drop_zero, List.length_cons, List.length_nil, List.map_cons, List.map_nil, List.nil_append, List.cons_append, true_and, and_self, Bool.false_eq_true, reduceCtorEq, Nat.reduceAdd, Nat.reduceEqDiff, ↓reduceIte, Nat.zero_add, Nat.le_refl, renSV, renSV1, renC, renC0, renEnt, backUps, List.zip_nil_right, List.zip_cons_cons, List.zipIdx_nil, List.filterMap_nil, List.append_nil, List.range_zero, Nat.sub_self]
  refine hQ _ _ _ _ _ (RG.nil ?_)
  simp only [x_seq, x_tn]
  refine aw_reg 1600 (RG.go fun Q hQ => ?_)
  simp only [RX, eff, ev_t, lk_cons, setS_cons, setS_nil, AOp.isCall, setD, setEs, presOf, AOp.needs, SV.one?, SV.pre, idsOf, AOp.rds, AOp.ops, SV.ids, C.ids0, List.map_nil, List.nil_append, List.cons_append, true_and, and_self, Bool.false_eq_true, reduceCtorEq, Nat.reduceAdd, Nat.reduceEqDiff, ↓reduceIte, List.append_nil, Nat.add_zero]
  refine hQ _ _ _ _ _ ?_
  refine RG.callo [0] [] (pack_rest_Err_con (l4.map brow) e4) (.mk (tr_cons (tr_bp rfl) tr_nil) (by simp only [TrL, TrC, TrC0, TrEnt, lkE_cons, ↓reduceIte, and_self, exists_eq_left', Option.some.injEq, isDRows]) (by simp) (by simp) (trivial) (by simp [lkE_cons, lkE_nil]) (by simp [Ent.pure]) (by simp) (by simp)) ?_
  refine RG.go fun Q hQ => ?_
  simp only [RX, eff, ev_t, ev_k, lk_cons, lkE_cons, lkE_nil, setS_cons, setS_nil, setE_cons, AOp.isCall, setD, setEs, presOf, AOp.needs, SV.one?, SV.pre, gval, binV, idsOf, AOp.rds, AOp.ops, SV.ids, C.ids0, List.take_succ_cons, List.take_zero, List.drop_succ_cons, List.drop_zero, List.length_cons, List.length_nil, Option.map_some, List.map_cons, List.map_nil, List.nil_append, List.cons_append, true_and, and_self, Bool.true_and, Bool.false_eq_true, beq_false, implies_true, reduceCtorEq, Nat.reduceAdd, Nat.reduceEqDiff, ↓reduceIte, Nat.zero_add, Nat.le_refl, renSV, renSV1, renC, renC0, renEnt, backUps, List.zip_nil_right, List.zip_cons_cons, List.zipIdx_nil, List.filterMap_nil, List.append_nil, List.range_zero, Nat.sub_self]
  refine hQ _ _ _ _ _ ?_
  refine RG.callg _ _ [1000] rfl (fun hg => ⟨_, entry_BaseRight_con a b cs d hlc, tr_cons (tr_opt (by simpa using hg) (by simp only [TrL, TrSV, TrC, TrC0, lkE_cons, List.mem_cons, List.not_mem_nil, or_false, Nat.reduceEqDiff, ↓reduceIte, reduceCtorEq, true_and, and_true, and_self, Option.some.injEq, Ent.arr.injEq, isDRows]; exact ⟨_, _, _, ⟨rfl, rfl, rfl⟩, hd⟩)) tr_nil, views1 rfl trivial, .inl trivial⟩) ?_
  refine RG.go fun Q hQ => ?_
  simp only [RX, eff, ev_t, ev_k, lk_cons, setS_cons, setS_nil, AOp.isCall, setD, setEs, presOf, AOp.needs, SV.one?, SV.pre, gval, unV, idsOf, AOp.rds, AOp.ops, SV.ids, C.ids0, Option.map_some, List.map_nil, List.nil_append, and_true, true_and, and_self, Bool.true_and, Bool.false_eq_true, beq_false, implies_true, imp_self, Bool.if_true_left, Bool.decide_eq_true, reduceCtorEq, Nat.reduceAdd, Nat.reduceEqDiff, ↓reduceIte, List.append_nil]
  refine ⟨fun h => by rw [h]; rfl, hQ _ _ _ _ _ (RG.nil ?_)⟩
  simp only [x_tn]
  refine aw_cond _ rfl trivial (fun ht => ?_) (fun hf => ?_)
  · have hn : ¬ (e4 = 0 ∧ baseRight a b cs d = true) := by
      rintro ⟨h1, h2⟩; rw [h2] at ht; simp at ht; omega
    rw [if_neg hn] at hr
    subst hr
    simp only [x_seq]
    refine aw_reg 1800 (RG.go fun Q hQ => ?_)
    simp only [RX, eff, ev_t, ev_k, lk_cons, lkE_cons, setS_cons, setS_nil, setE_cons, AOp.isCall, setD, setEs, presOf, AOp.needs, SV.one?, SV.pre, SV.cells, idsOf, AOp.rds, AOp.ops, SV.ids, C.ids0, bldFold, splice, List.take_zero, List.drop_succ_cons, List.drop_zero, List.length_cons, List.length_nil, Option.map_some, List.map_cons, List.map_nil, List.nil_append, List.cons_append, true_and, and_self, Bool.false_eq_true, reduceCtorEq, Nat.reduceAdd, Nat.reduceEqDiff, ↓reduceIte, Nat.zero_add, Nat.le_refl, List.append_nil]
    refine hQ _ _ _ _ _ (RG.nil ?_)
    simp only [x_ret, x_tn, x_tr]
    refine Fin.objs [] [] (.inr rfl) rfl (by first | exact trivial | exact ⟨trivial, trivial⟩ | exact ⟨trivial, trivial, trivial⟩) ?_ ?_ (by simp [objL, rlook]) (by simp [objL, rlook])
    · simp only [Int.cast_ofNat_Int, mkSt_sl, lk_cons, lkE_cons, lkE_nil, WkSV, WkSV1, WkC, WkC0, TrL, rlook, frzEs, objL, Nat.reduceEqDiff, ↓reduceIte, reduceCtorEq, and_true, ne_eq]
      simp [basC, TrL, WkC, WkC0]
    · simp only [allL, lkE_cons, lkE_nil, WkC, WkC0, WkEnt, TrL, rlook, frzEs, objL, isDRows, Option.some.injEq, ↓reduceIte, and_true, exists_eq_left', ne_eq]
  have hn : e4 = 0 ∧ baseRight a b cs d = true := by simp at hf; exact ⟨by omega, hf.2⟩
  rw [if_pos hn] at hr
  subst hr
  simp only [x_seq, x_skip, x_tn]
  refine aw_reg 1800 (RG.go fun Q hQ => ?_)
  simp only [RX, eff, ev_t, ev_k, lk_cons, lkE_cons, setS_cons, setS_nil, setE_cons, AOp.isCall, setD, setEs, presOf, AOp.needs, SV.one?, SV.pre, SV.cells, idsOf, AOp.rds, AOp.ops, SV.ids, C.ids0, splice, List.take_succ_cons, List.take_zero, List.drop_succ_cons, List.drop_zero, List.length_cons, List.length_nil, List.map_cons, List.map_nil, List.nil_append, List.cons_append, true_and, and_self, Bool.false_eq_true, reduceCtorEq, Nat.reduceAdd, Nat.reduceEqDiff, ↓reduceIte, Nat.zero_add, Nat.le_refl, List.append_nil]
  refine hQ _ _ _ _ _ (RG.nil ?_)
  simp only [x_ret, x_tn]
  refine Fin.objs [1000] [] (.inr rfl) rfl (by first | exact trivial | exact ⟨trivial, trivial⟩ | exact ⟨trivial, trivial, trivial⟩) ?_ ?_ (by simp [objL, rlook]) (by simp [objL, rlook])
  · simp only [mkSt_sl, lk_cons, lkE_cons, lkE_nil, WkSV, WkSV1, WkC, WkC0, TrL, rlook, frzEs, frzE, setE_cons, objL, Nat.reduceEqDiff, ↓reduceIte, reduceCtorEq, and_true, ne_eq]
    simp [basC, TrL, WkC, WkC0]; exact ⟨⟨_, _, rfl⟩, hd⟩
  · simp only [allL, lkE_cons, lkE_nil, WkC, WkC0, WkEnt, TrL, rlook, frzEs, frzE, setE_cons, objL, isDRows, Option.some.injEq, Nat.reduceEqDiff, ↓reduceIte, reduceCtorEq, and_true, exists_eq_left', ne_eq]

theorem mementoref6_ReadBase_con (l : List Nat) (e : Nat) (hl : ∀ c ∈ l, c < 256) (hb : l.length ≤ 140737488355328) : Con Try.prog 27 [.c (.bp 0 0)] [Rd l e] (.tup [.agg (basC (readB 7 l e).i (readB 7 l e).t (readB 7 l e).c (readB 7 l e).d), B (readB 7 l e).ok]) [Rd (readB 7 l e).l (readB 7 l e).e] := by
  generalize hr : readB 7 l e = r
  unfold readB at hr
  have m1 := numR_mem (most := 1099511627776) (e := e) hl
  have n1 := numR_len (most := 1099511627776) (l := l) (e := e)
  have w1 := w_nat (n := (numR 1099511627776 l e).1) (by have := numR_le (most := 1099511627776) (l := l) (e := e); omega)
  have c1 := mementoref1_Reader_Num_con l e 1099511627776 hl hb
  generalize numR 1099511627776 l e = a at hr m1 n1 w1 c1
  obtain ⟨a, l1, e1⟩ := a
  simp only at hr m1 n1 w1 c1
  have m2 := numR_mem (most := 1099511627776) (e := e1) m1
  have n2 := numR_len (most := 1099511627776) (l := l1) (e := e1)
  have w2 := w_nat (n := (numR 1099511627776 l1 e1).1) (by have := numR_le (most := 1099511627776) (l := l1) (e := e1); omega)
  have c2 := mementoref1_Reader_Num_con l1 e1 1099511627776 m1 (by omega)
  generalize numR 1099511627776 l1 e1 = b at hr m2 n2 w2 c2
  obtain ⟨b, l2, e2⟩ := b
  simp only at hr m2 n2 w2 c2
  have m3 := numR_mem (most := 7) (e := e2) m2
  have n3 := numR_len (most := 7) (l := l2) (e := e2)
  have k3 := numR_le (most := 7) (l := l2) (e := e2)
  have c3 := mementoref1_Reader_Num_con l2 e2 7 m2 (by omega)
  generalize numR 7 l2 e2 = c at hr m3 n3 k3 c3
  obtain ⟨c, l3, e3⟩ := c
  simp only at hr m3 n3 k3 c3
  have hns := numsR_facts (most := 7) (e := e3) m3
  have w3 := w_nat (n := c) (by omega)
  refine C_mementoref6_ReadBase (Nat.le_of_ble_eq_true rfl) (Nat.le_of_ble_eq_true rfl) ?_
  simp only [A_mementoref6_ReadBase, argL, objL, List.length_nil, List.length_cons, Nat.zero_add, x_seq]
  refine aw_reg 16 (RG.go fun Q hQ => ?_)
  simp only [RX, eff, ev_k, lkE_cons, lkE_nil, setS_cons, setS_nil, setE_cons, setE_nil, AOp.isCall, setD, setEs, presOf, AOp.needs, idsOf, AOp.rds, AOp.ops, List.map_cons, List.map_nil, List.nil_append, true_and, Bool.false_eq_true, reduceCtorEq, Nat.reduceAdd, Nat.reduceEqDiff, ↓reduceIte]
  refine hQ _ _ _ _ _ (RG.nil ?_)
  simp only [x_seq, x_tn]
  refine aw_reg 160 (RG.go fun Q hQ => ?_)
  simp only [RX, eff, lkE_cons, lkE_nil, setS_cons, setS_nil, setE_cons, setE_nil, AOp.isCall, setD, setEs, presOf, AOp.needs, idsOf, AOp.rds, AOp.ops, List.map_cons, List.map_nil, List.nil_append, true_and, Bool.false_eq_true, reduceCtorEq, Nat.reduceAdd, Nat.reduceEqDiff, ↓reduceIte]
  refine hQ _ _ _ _ _ (RG.nil ?_)
  simp only [x_seq, x_tn]
  refine aw_reg 320 (RG.go fun Q hQ => ?_)
  simp only [RX, eff, ev_t, lk_cons, setS_cons, setS_nil, AOp.isCall, setD, setEs, presOf, AOp.needs, idsOf, AOp.rds, List.map_nil, List.nil_append, true_and, Bool.false_eq_true, reduceCtorEq, Nat.reduceAdd, Nat.reduceEqDiff, ↓reduceIte]
  refine hQ _ _ _ _ _ ?_
  refine RG.callo [0] [] (c1) (.mk (tr_cons (tr_bp rfl) (tr_cons tr_v tr_nil)) (by simp only [TrL, TrC, TrC0, TrEnt, lkE_cons, ↓reduceIte, and_self, exists_eq_left', Option.some.injEq, isDRows]) (by simp) (by simp) (trivial) (by simp [lkE_cons, lkE_nil]) (by simp [Ent.pure]) (by simp) (by simp)) ?_
  refine RG.go fun Q hQ => ?_
  simp only [RX, eff, ev_t, lk_cons, lkE_cons, lkE_nil, setS_cons, setS_nil, setE_cons, AOp.isCall, setD, setEs, presOf, AOp.needs, SV.one?, SV.pre, SV.cells, idsOf, AOp.rds, AOp.ops, SV.ids, C.ids0, splice, List.take_zero, List.drop_succ_cons, List.drop_zero, List.length_cons, List.length_nil, List.map_cons, List.map_nil, List.nil_append, List.cons_append, true_and, and_self, Bool.false_eq_true, reduceCtorEq, Nat.reduceAdd, Nat.reduceEqDiff, Nat.reduceLeDiff, ↓reduceIte, Nat.zero_add, renSV, renSV1, renC, renC0, renEnt, backUps, List.zip_nil_right, List.zip_cons_cons, List.zipIdx_nil, List.filterMap_nil, List.append_nil, List.range_zero, Nat.sub_self, Nat.add_zero]
  simp only [w1]
  refine hQ _ _ _ _ _ (RG.nil ?_)
  simp only [x_seq, x_tn]
  refine aw_reg 480 (RG.go fun Q hQ => ?_)
  simp only [RX, eff, ev_t, lk_cons, setS_cons, setS_nil, AOp.isCall, setD, setEs, presOf, AOp.needs, idsOf, AOp.rds, List.map_nil, List.nil_append, true_and, Bool.false_eq_true, reduceCtorEq, Nat.reduceAdd, Nat.reduceEqDiff, ↓reduceIte]
  refine hQ _ _ _ _ _ ?_
  refine RG.callo [0] [] (c2) (.mk (tr_cons (tr_bp rfl) (tr_cons tr_v tr_nil)) (by simp only [TrL, TrC, TrC0, TrEnt, lkE_cons, ↓reduceIte, and_self, exists_eq_left', Option.some.injEq, isDRows]) (by simp) (by simp) (trivial) (by simp [lkE_cons, lkE_nil]) (by simp [Ent.pure]) (by simp) (by simp)) ?_
  refine RG.go fun Q hQ => ?_
  simp only [RX, eff, ev_t, lk_cons, lkE_cons, lkE_nil, setS_cons, setS_nil, setE_cons, AOp.isCall, setD, setEs, presOf, AOp.needs, SV.one?, SV.pre, SV.cells, idsOf, AOp.rds, AOp.ops, SV.ids, C.ids0, splice, List.take_succ_cons, List.take_zero, List.drop_succ_cons, List.drop_zero, List.length_cons, List.length_nil, List.map_cons, List.map_nil, List.nil_append, List.cons_append, true_and, and_self, Bool.false_eq_true, reduceCtorEq, Nat.reduceAdd, Nat.reduceEqDiff, Nat.reduceLeDiff, ↓reduceIte, Nat.zero_add, renSV, renSV1, renC, renC0, renEnt, backUps, List.zip_nil_right, List.zip_cons_cons, List.zipIdx_nil, List.filterMap_nil, List.append_nil, List.range_zero, Nat.sub_self]
  simp only [w2]
  refine hQ _ _ _ _ _ (RG.nil ?_)
  simp only [x_seq, x_tn]
  refine aw_reg 600 (RG.go fun Q hQ => ?_)
  simp only [RX, eff, ev_t, lk_cons, setS_cons, setS_nil, AOp.isCall, setD, setEs, presOf, AOp.needs, idsOf, AOp.rds, List.map_nil, List.nil_append, true_and, Bool.false_eq_true, reduceCtorEq, Nat.reduceAdd, Nat.reduceEqDiff, ↓reduceIte]
  refine hQ _ _ _ _ _ ?_
  refine RG.callo [0] [] (c3) (.mk (tr_cons (tr_bp rfl) (tr_cons tr_v tr_nil)) (by simp only [TrL, TrC, TrC0, TrEnt, lkE_cons, ↓reduceIte, and_self, exists_eq_left', Option.some.injEq, isDRows]) (by simp) (by simp) (trivial) (by simp [lkE_cons, lkE_nil]) (by simp [Ent.pure]) (by simp) (by simp)) ?_
  refine RG.go fun Q hQ => ?_
  simp only [RX, eff, ev_t, lk_cons, lkE_cons, lkE_nil, setS_cons, setS_nil, setE_cons, AOp.isCall, setD, setEs, presOf, AOp.needs, SV.one?, SV.pre, idsOf, AOp.rds, AOp.ops, SV.ids, C.ids0, List.drop_succ_cons, List.drop_zero, List.length_cons, List.length_nil, List.map_cons, List.map_nil, List.nil_append, true_and, and_self, Bool.false_eq_true, reduceCtorEq, Nat.reduceAdd, Nat.reduceEqDiff, ↓reduceIte, Nat.zero_add, renSV, renSV1, renC, renC0, renEnt, backUps, List.zip_nil_right, List.zip_cons_cons, List.zipIdx_nil, List.filterMap_nil, List.append_nil, List.range_zero, Nat.sub_self]
  simp only [w3]
  refine hQ _ _ _ _ _ (RG.nil ?_)
  simp only [x_seq, x_tn]
  refine aw_reg 660 (RG.go fun Q hQ => ?_)
  simp only [RX, eff, ev_k, setS_cons, setS_nil, AOp.isCall, setD, setEs, presOf, AOp.needs, idsOf, AOp.rds, List.map_nil, List.nil_append, true_and, Bool.false_eq_true, reduceCtorEq, Nat.reduceAdd, Nat.reduceEqDiff, ↓reduceIte]
  refine hQ _ _ _ _ _ (RG.nil ?_)
  simp only [x_block, x_tn]
  refine aw_loop (X := { k : Nat // k ≤ c }) (fun k => mkSt [(0, .c (.bp 0 0)), (2, .c (.bp 16 0)), (3, B false), (4, .c (.bp 160 0)), (5, I c), (6, I k.1)]
    [(0, Rd (numsR 7 l3 e3 k.1).2.1 (numsR 7 l3 e3 k.1).2.2), (16, .box [.v (.int .i64 0), .v (.int .i64 0), .v (.slice none 0 0), .v (.slice none 0 0)]), (160, .box [.v (.int .i64 a), .v (.int .i64 b), .osl 1000, .v (.slice none 0 0)]),
      (1000, .arr 3 1 (((numsR 7 l3 e3 k.1).1.map fun (n : Nat) => (n : Int)).map nrow) false)]) (fun k => c - k.1) ⟨0, by omega⟩ ?_ ?_
  · refine (Le.ownB 160 2 1000 _ 3 1 rfl rfl rfl (by decide)).trans (Le.lit [] [] _ _ ?_ ?_ ?_ ?_)
    · skip
      simp only [Int.cast_ofNat_Int, allL, lk_cons, lkE_cons, lkE_nil, WkSV, WkSV1, WkC, WkC0, rlook, frzEs, setE_cons, setE_nil, Nat.reduceEqDiff, ↓reduceIte, reduceCtorEq, and_true, ne_eq, not_false_eq_true]
    · simp only [List.set_cons_succ, List.set_cons_zero]
      simp only [allL, lkE_cons, lkE_nil, WkC, WkC0, WkEnt, TrL, rlook, frzEs, setE_cons, setE_nil, isDRows, Option.some.injEq, Nat.reduceEqDiff, ↓reduceIte, reduceCtorEq, true_and, and_true, exists_eq_left', ne_eq, not_false_eq_true, true_or]
      simp [numsR]
    · simp [rlook]
    · simp [rlook]
  rintro ⟨k, hk⟩
  obtain ⟨f1, f2, f3, f4⟩ := hns k
  have hk1 : numsR 7 l3 e3 (k + 1) = ((numsR 7 l3 e3 k).1 ++ [(numR 7 (numsR 7 l3 e3 k).2.1 (numsR 7 l3 e3 k).2.2).1], (numR 7 (numsR 7 l3 e3 k).2.1 (numsR 7 l3 e3 k).2.2).2.1, (numR 7 (numsR 7 l3 e3 k).2.1 (numsR 7 l3 e3 k).2.2).2.2) := rfl
  simp only [x_seq]
  refine aw_reg 700 (RG.go fun Q hQ => ?_)
  simp only [RX, eff, ev_t, lk_cons, setS_cons, setS_nil, AOp.isCall, setD, setEs, presOf, AOp.needs, SV.one?, SV.pre, binV, idsOf, AOp.rds, AOp.ops, SV.ids, C.ids0, Option.map_some, List.map_nil, List.nil_append, true_and, and_self, Bool.false_eq_true, reduceCtorEq, Nat.reduceAdd, Nat.reduceEqDiff, ↓reduceIte, List.append_nil]
  refine hQ _ _ _ _ _ (RG.nil ?_)
  simp only [x_tn]
  refine aw_cond _ rfl trivial (fun ht => ?_) (fun hf => ?_)
  · have hk' : k < c := by simp at ht; omega
    have cn := mementoref1_Reader_Num_con (numsR 7 l3 e3 k).2.1 (numsR 7 l3 e3 k).2.2 7 f3 (by omega)
    have wn := w_nat (n := (numR 7 (numsR 7 l3 e3 k).2.1 (numsR 7 l3 e3 k).2.2).1) (by have := numR_le (most := 7) (l := (numsR 7 l3 e3 k).2.1) (e := (numsR 7 l3 e3 k).2.2); omega)
    have hw1 : IntKind.i64.wrap ((k : Int) + 1) = ((k + 1 : Nat) : Int) := by rw [w64 _ (by omega) (by omega)]; rfl
    generalize numsR 7 l3 e3 k = q at *
    obtain ⟨qs, lq, eq⟩ := q
    simp only at f1 f2 f3 f4 hk1 cn wn
    generalize numR 7 lq eq = z at *
    obtain ⟨z, lz, ez⟩ := z
    simp only at hk1 cn wn
    simp only [x_seq, x_block, x_skip, x_tn]
    refine aw_draw 800 (RG.go fun Q hQ => ?_)
    simp only [RX, eff, ev_t, lk_cons, lkE_cons, setS_cons, setS_nil, AOp.isCall, setD, setEs, presOf, AOp.needs, SV.one?, SV.pre, idsOf, AOp.rds, AOp.ops, SV.ids, C.ids0, List.getElem?_cons_zero, List.getElem?_cons_succ, Option.map_some, List.map_nil, List.nil_append, List.cons_append, true_and, and_self, Bool.false_eq_true, reduceCtorEq, Nat.reduceAdd, Nat.reduceEqDiff, ↓reduceIte, Nat.zero_add, List.append_nil]
    refine hQ _ _ _ _ _ ?_
    refine RG.callo [0] [] (cn) (.mk (tr_cons (tr_bp rfl) (tr_cons tr_v tr_nil)) (by simp only [TrL, TrC, TrC0, TrEnt, lkE_cons, ↓reduceIte, and_self, exists_eq_left', Option.some.injEq, isDRows]) (by simp) (by simp) (trivial) (by simp [lkE_cons, lkE_nil]) (by simp [Ent.pure]) (by simp) (by simp)) ?_
    refine RG.go fun Q hQ => ?_
    simp only [RX, eff, ev_t, lk_cons, lkE_cons, lkE_nil, setS_cons, setS_nil, setE_cons, setE_nil, AOp.isCall, setD, setEs, presOf, AOp.needs, SV.one?, SV.pre, SV.cells, idsOf, AOp.rds, AOp.ops, SV.ids, C.ids0, rowsOf, srcOf, bSRows, splice, List.take_succ_cons, List.take_zero, List.drop_succ_cons, List.drop_zero, List.length_cons, List.length_nil, Option.map_some, List.map_cons, List.map_nil, List.nil_append, List.cons_append, true_and, and_self, Bool.false_eq_true, reduceCtorEq, Nat.reduceAdd, Nat.reduceEqDiff, Nat.reduceLeDiff, ↓reduceIte, Nat.zero_add, renSV, renSV1, renC, renC0, renEnt, backUps, List.zip_nil_right, List.zip_cons_cons, List.zipIdx_nil, List.filterMap_nil, List.append_nil, List.range_zero, Nat.sub_self]
    simp only [wn]
    refine ⟨⟨by simp, by simp; omega⟩, hQ _ _ _ _ _ (RG.nil ⟨by decide, ?_⟩)⟩
    simp only [x_tn, x_bn]
    refine aw_reg 1200 (RG.go fun Q hQ => ?_)
    simp only [RX, eff, ev_t, ev_k, lk_cons, setS_cons, setS_nil, AOp.isCall, setD, setEs, presOf, AOp.needs, SV.one?, SV.pre, binV, idsOf, AOp.rds, AOp.ops, SV.ids, C.ids0, Option.map_some, List.map_nil, List.nil_append, true_and, and_self, Bool.false_eq_true, reduceCtorEq, Nat.reduceAdd, Nat.reduceEqDiff, ↓reduceIte, List.append_nil, hw1]
    refine hQ _ _ _ _ _ (RG.nil ?_)
    simp only [x_ln]
    refine ⟨⟨k + 1, hk'⟩, ?_, by simp; omega⟩
    refine Le.lit [] [(1000, 896)] _ _ ?_ ?_ ?_ ?_
    · skip
      simp only [allL, lk_cons, lkE_cons, lkE_nil, WkSV, WkSV1, WkC, WkC0, rlook, frzEs, Nat.reduceEqDiff, ↓reduceIte, reduceCtorEq, and_true, ne_eq, not_false_eq_true]
    · skip
      simp only [allL, lkE_cons, lkE_nil, WkC, WkC0, WkEnt, TrL, rlook, frzEs, isDRows, Option.some.injEq, Nat.reduceEqDiff, ↓reduceIte, reduceCtorEq, true_and, and_true, exists_eq_left', ne_eq, not_false_eq_true, true_or]
      rw [hk1]
      refine ⟨⟨rfl, rfl⟩, by simp [nrow], drows_nrow _⟩
    · simp [rlook]
    · simp [rlook]
  have hkc : k = c := by simp at hf; omega
  subst hkc
  have c4 := mementoref1_Reader_Lump_con (numsR 7 l3 e3 k).2.1 (numsR 7 l3 e3 k).2.2 32767 f3 (by omega) (by omega)
  generalize numsR 7 l3 e3 k = q at *
  obtain ⟨qs, lq, eq⟩ := q
  simp only at f1 f2 f3 f4 hr c4
  generalize lumpR 32767 lq eq = d at *
  obtain ⟨d, l4, e4⟩ := d
  simp only at hr c4
  have hd := drows_nrow (qs.map fun (n : Nat) => (n : Int))
  have hlc : (qs.map fun (n : Nat) => (n : Int)).length ≤ 12 := by simp; omega
  generalize (qs.map fun (n : Nat) => (n : Int)) = cs at *
  simp only [x_seq, x_exit, x_tn, x_tx, x_bx, x_lx, ↓reduceIte]
  refine aw_reg 1400 (RG.go fun Q hQ => ?_)
  simp only [RX, eff, ev_t, lk_cons, setS_cons, setS_nil, AOp.isCall, setD, setEs, presOf, AOp.needs, idsOf, AOp.rds, List.map_nil, List.nil_append, true_and, Bool.false_eq_true, reduceCtorEq, Nat.reduceAdd, Nat.reduceEqDiff, ↓reduceIte]
  refine hQ _ _ _ _ _ ?_
  refine RG.callo [0] [] (c4) (.mk (tr_cons (tr_bp rfl) (tr_cons tr_v tr_nil)) (by simp only [TrL, TrC, TrC0, TrEnt, lkE_cons, ↓reduceIte, and_self, exists_eq_left', Option.some.injEq, isDRows]) (by simp) (by simp) (trivial) (by simp [lkE_cons, lkE_nil]) (by simp [Ent.pure]) (by simp) (by simp)) ?_
  refine RG.go fun Q hQ => ?_
  simp only [RX, eff, ev_t, lk_cons, lkE_cons, lkE_nil, setS_cons, setS_nil, setE_cons, AOp.isCall, setD, setEs, presOf, AOp.needs, SV.one?, SV.pre, SV.cells, idsOf, AOp.rds, AOp.ops, SV.ids, C.ids0, splice, List.take_succ_cons, List.take_zero, List.drop_succ_cons, List.drop_zero, List.length_cons, List.length_nil, List.map_cons, List.map_nil, List.nil_append, List.cons_append, true_and, and_self, Bool.false_eq_true, reduceCtorEq, Nat.reduceAdd, Nat.reduceEqDiff, ↓reduceIte, Nat.zero_add, Nat.le_refl, renSV, renSV1, renC, renC0, renEnt, backUps, List.zip_nil_right, List.zip_cons_cons, List.zipIdx_nil, List.filterMap_nil, List.append_nil, List.range_zero, Nat.sub_self]
  refine hQ _ _ _ _ _ (RG.nil ?_)
  simp only [x_seq, x_tn]
  refine aw_reg 1600 (RG.go fun Q hQ => ?_)
  simp only [RX, eff, ev_t, ev_k, lk_cons, lkE_cons, setS_cons, setS_nil, AOp.isCall, setD, setEs, presOf, AOp.needs, SV.one?, SV.pre, gval, binV, idsOf, AOp.rds, AOp.ops, SV.ids, C.ids0, List.take_succ_cons, List.take_zero, List.drop_zero, List.length_cons, List.length_nil, List.getElem?_cons_zero, List.getElem?_cons_succ, Option.map_some, List.map_nil, List.nil_append, List.cons_append, true_and, and_self, Bool.true_and, Bool.false_eq_true, beq_false, implies_true, reduceCtorEq, Nat.reduceAdd, Nat.reduceEqDiff, ↓reduceIte, Nat.zero_add, Nat.le_refl, List.append_nil]
  refine hQ _ _ _ _ _ ?_
  refine RG.callg _ _ [1000] rfl (fun hg => ⟨_, mementoref6_BaseRight_con a b cs d (by omega), tr_cons (tr_opt (by simpa using hg) (by simp only [TrL, TrSV, TrC, TrC0, lkE_cons, List.mem_cons, List.not_mem_nil, or_false, Nat.reduceEqDiff, ↓reduceIte, reduceCtorEq, true_and, and_true, and_self, Option.some.injEq, Ent.arr.injEq, isDRows]; exact ⟨_, _, _, ⟨rfl, rfl, rfl⟩, hd⟩)) tr_nil, views1 rfl trivial, .inl trivial⟩) ?_
  refine RG.go fun Q hQ => ?_
  simp only [RX, eff, ev_t, ev_k, lk_cons, setS_cons, setS_nil, AOp.isCall, setD, setEs, presOf, AOp.needs, SV.one?, SV.pre, gval, unV, idsOf, AOp.rds, AOp.ops, SV.ids, C.ids0, Option.map_some, List.map_nil, List.nil_append, and_true, true_and, and_self, Bool.true_and, Bool.false_eq_true, beq_false, implies_true, imp_self, Bool.if_true_left, Bool.decide_eq_true, reduceCtorEq, Nat.reduceAdd, Nat.reduceEqDiff, ↓reduceIte, List.append_nil]
  refine ⟨fun h => by rw [h]; rfl, hQ _ _ _ _ _ (RG.nil ?_)⟩
  simp only [x_tn]
  refine aw_cond _ rfl trivial (fun ht => ?_) (fun hf => ?_)
  · have hn : ¬ (e4 = 0 ∧ baseRight a b cs d = true) := by
      rintro ⟨h1, h2⟩; rw [h2] at ht; simp at ht; omega
    rw [if_neg hn] at hr
    subst hr
    simp only [x_seq]
    refine aw_reg 1800 (RG.go fun Q hQ => ?_)
    simp only [RX, eff, ev_t, ev_k, lk_cons, lkE_cons, setS_cons, setS_nil, setE_cons, AOp.isCall, setD, setEs, presOf, AOp.needs, SV.one?, SV.pre, SV.cells, idsOf, AOp.rds, AOp.ops, SV.ids, C.ids0, bldFold, splice, List.take_zero, List.drop_succ_cons, List.drop_zero, List.length_cons, List.length_nil, Option.map_some, List.map_cons, List.map_nil, List.nil_append, List.cons_append, true_and, and_self, Bool.false_eq_true, reduceCtorEq, Nat.reduceAdd, Nat.reduceEqDiff, ↓reduceIte, Nat.zero_add, Nat.le_refl, List.append_nil]
    refine hQ _ _ _ _ _ (RG.nil ?_)
    simp only [x_ret, x_tn, x_tr]
    refine Fin.objs [] [] (.inr rfl) rfl (by first | exact trivial | exact ⟨trivial, trivial⟩ | exact ⟨trivial, trivial, trivial⟩) ?_ ?_ (by simp [objL, rlook]) (by simp [objL, rlook])
    · simp only [Int.cast_ofNat_Int, mkSt_sl, lk_cons, lkE_cons, lkE_nil, WkSV, WkSV1, WkC, WkC0, TrL, rlook, frzEs, objL, Nat.reduceEqDiff, ↓reduceIte, reduceCtorEq, and_true, ne_eq]
      simp [basC, TrL, WkC, WkC0]
    · simp only [allL, lkE_cons, lkE_nil, WkC, WkC0, WkEnt, TrL, rlook, frzEs, objL, isDRows, Option.some.injEq, ↓reduceIte, and_true, exists_eq_left', ne_eq]
  have hn : e4 = 0 ∧ baseRight a b cs d = true := by simp at hf; exact ⟨by omega, hf.2⟩
  rw [if_pos hn] at hr
  subst hr
  simp only [x_seq, x_skip, x_tn]
  refine aw_reg 1800 (RG.go fun Q hQ => ?_)
  simp only [RX, eff, ev_t, ev_k, lk_cons, lkE_cons, setS_cons, setS_nil, setE_cons, AOp.isCall, setD, setEs, presOf, AOp.needs, SV.one?, SV.pre, SV.cells, idsOf, AOp.rds, AOp.ops, SV.ids, C.ids0, splice, List.take_succ_cons, List.take_zero, List.drop_succ_cons, List.drop_zero, List.length_cons, List.length_nil, List.map_cons, List.map_nil, List.nil_append, List.cons_append, true_and, and_self, Bool.false_eq_true, reduceCtorEq, Nat.reduceAdd, Nat.reduceEqDiff, ↓reduceIte, Nat.zero_add, Nat.le_refl, List.append_nil]
  refine hQ _ _ _ _ _ (RG.nil ?_)
  simp only [x_ret, x_tn]
  refine Fin.objs [1000] [] (.inr rfl) rfl (by first | exact trivial | exact ⟨trivial, trivial⟩ | exact ⟨trivial, trivial, trivial⟩) ?_ ?_ (by simp [objL, rlook]) (by simp [objL, rlook])
  · simp only [mkSt_sl, lk_cons, lkE_cons, lkE_nil, WkSV, WkSV1, WkC, WkC0, TrL, rlook, frzEs, frzE, setE_cons, objL, Nat.reduceEqDiff, ↓reduceIte, reduceCtorEq, and_true, ne_eq]
    simp [basC, TrL, WkC, WkC0]; exact ⟨⟨_, _, rfl⟩, hd⟩
  · simp only [allL, lkE_cons, lkE_nil, WkC, WkC0, WkEnt, TrL, rlook, frzEs, frzE, setE_cons, objL, isDRows, Option.some.injEq, Nat.reduceEqDiff, ↓reduceIte, reduceCtorEq, and_true, exists_eq_left', ne_eq]


end Go.Abs
namespace Go.Abs
open Go Go.Proofs
set_option maxRecDepth 100000
set_option linter.unusedSimpArgs false

theorem rdN_num7 (r : List Nat) : ∀ (n i acc : Nat), n * 128 ^ i < 18446744073709551616 → (i = 0 ∨ 0 < n) → rdN i acc (num7 n ++ r) = (acc + n * 128 ^ i, i + (num7 n).length, 0) := by
  intro n
  induction n using Nat.strongRecOn with
  | ind n ih =>
    intro i acc hb hi
    have h9 : i = 9 → n < 2 := by
      intro h
      subst h
      rcases Nat.lt_or_ge n 2 with h | h
      · exact h
      · have := Nat.mul_le_mul_right (128 ^ 9) h
        omega
    by_cases hn : n < 128
    · have e : num7 n = [n] := by rw [num7, if_pos hn]
      rw [e, List.singleton_append, rdN, if_neg (by omega), if_neg (by omega), if_neg (by omega), Nat.mod_eq_of_lt hn]
      rfl
    · have e : num7 n = (n % 128 + 128) :: num7 (n / 128) := by rw [num7, if_neg hn]
      rw [e, List.cons_append, rdN, if_neg (by omega), if_pos (by omega)]
      have hmul : n * 128 ^ i = n % 128 * 128 ^ i + n / 128 * 128 ^ (i + 1) := by
        have h1 : n / 128 * 128 ^ (i + 1) = 128 * (n / 128) * 128 ^ i := by rw [Nat.pow_succ, Nat.mul_comm (128 ^ i) 128, ← Nat.mul_assoc, Nat.mul_comm (n / 128) 128]
        rw [h1, ← Nat.add_mul]
        congr 1
        omega
      rw [ih (n / 128) (by omega) (i + 1) _ (by omega) (.inr (by omega))]
      simp only [Nat.add_mod_right, Nat.mod_mod, List.length_cons, Prod.mk.injEq, and_true]
      constructor
      · omega
      · omega

theorem numR_num7 {most n : Nat} (r : List Nat) (h : n ≤ most) (hb : n < 18446744073709551616) : numR most (num7 n ++ r) 0 = (n, r, 0) := by
  have hr := rdN_num7 r n 0 0 (by simpa using hb) (.inl rfl)
  unfold numR
  rw [hr]
  simp [Nat.not_lt.2 h]

theorem lumpR_lump {most : Nat} (d r : List Nat) (h : d.length ≤ most) (hb : d.length < 18446744073709551616) : lumpR most (num7 d.length ++ d ++ r) 0 = (d, r, 0) := by
  unfold lumpR
  rw [List.append_assoc, numR_num7 _ h hb]
  simp

theorem putS_cons (n : Nat) (l : List Nat) : putS (n :: l) = num7 n ++ putS l := rfl

theorem readE_putE {i t k : Int} {d more : List Nat} (h : entryRight i t k d = true) : readE (putE i t k d ++ more) 0 = ⟨i.toNat, t.toNat, k.toNat, d, true, more, 0⟩ := by
  obtain ⟨h1, h2, h3, h4, h5, h6, h7⟩ := entryRight_facts h
  have e : putE i t k d ++ more = num7 i.toNat ++ (num7 t.toNat ++ (num7 k.toNat ++ (num7 d.length ++ d ++ more))) := by
    rw [putE, if_pos h]; simp [putS]
  unfold readE
  rw [e]
  simp only [numR_num7 (most := 1099511627776) (n := i.toNat) _ (by omega) (by omega), numR_num7 (most := 1099511627776) (n := t.toNat) _ (by omega) (by omega), numR_num7 (most := 2) (n := k.toNat) _ (by omega) (by omega),
    lumpR_lump (most := 32767) d more (by omega) (by omega)]
  rw [Int.toNat_of_nonneg (by omega), Int.toNat_of_nonneg h3, Int.toNat_of_nonneg h5]
  simp [h]

theorem numsR_put {most : Nat} (r : List Nat) : ∀ (ns : List Nat), (∀ n ∈ ns, n ≤ most ∧ n < 18446744073709551616) → ∀ k, k ≤ ns.length → numsR most (putS ns ++ r) 0 k = (ns.take k, putS (ns.drop k) ++ r, 0) := by
  intro ns hns k
  induction k with
  | zero => intro _; simp [numsR]
  | succ k ih =>
    intro hk
    have h := ih (by omega)
    have hk' : k < ns.length := by omega
    obtain ⟨h1, h2⟩ := hns ns[k] (List.getElem_mem hk')
    have e : putS (ns.drop k) ++ r = num7 ns[k] ++ (putS (ns.drop (k + 1)) ++ r) := by
      rw [List.drop_eq_getElem_cons hk', putS_cons, List.append_assoc]
    simp only [numsR, h]
    rw [e, numR_num7 _ h1 h2, take_one ns k hk']

theorem readB_putB {most : Nat} {i t : Int} {c : List Int} {d more : List Nat} (hm : 7 ≤ most) (h : baseRight i t c d = true) : readB most (putB i t c d ++ more) 0 = ⟨i.toNat, t.toNat, c, d, true, more, 0⟩ := by
  obtain ⟨h1, h2, h3, h4, h5, h6⟩ := baseRight_facts h
  obtain ⟨h7, h8, h9⟩ := rightS_facts h5
  have e : putB i t c d ++ more = num7 i.toNat ++ (num7 t.toNat ++ (num7 c.length ++ (putS (c.map Int.toNat) ++ (num7 d.length ++ d ++ more)))) := by
    rw [putB, if_pos h]; simp [putS]
  have hns := numsR_put (most := most) (num7 d.length ++ d ++ more) (c.map Int.toNat) (fun n hn => by
    obtain ⟨x, hx, rfl⟩ := List.mem_map.1 hn
    have := h9 x hx; omega) c.length (by simp)
  have e1 : (c.map Int.toNat).take c.length = c.map Int.toNat := List.take_of_length_le (by simp)
  have e2 : (c.map Int.toNat).drop c.length = [] := List.drop_eq_nil_of_le (by simp)
  rw [e1, e2] at hns
  have e3 : (c.map Int.toNat).map (fun (k : Nat) => (k : Int)) = c := by
    rw [List.map_map]
    refine (List.map_congr_left fun x hx => ?_).trans (List.map_id c)
    have := (h9 x hx).1
    simp; omega
  unfold readB
  rw [e]
  simp only [numR_num7 (most := 1099511627776) (n := i.toNat) _ (by omega) (by omega), numR_num7 (most := 1099511627776) (n := t.toNat) _ (by omega) (by omega), numR_num7 (most := 7) (n := c.length) _ (by omega) (by omega)]
  rw [hns]
  simp only [putS, List.flatMap_nil, List.nil_append]
  simp only [lumpR_lump (most := 32767) d more (by omega) (by omega), e3]
  rw [Int.toNat_of_nonneg h1, Int.toNat_of_nonneg h3]
  simp [h]

theorem num7_mem (n : Nat) : ∀ c ∈ num7 n, c < 256 := by
  induction n using Nat.strongRecOn with
  | ind n ih =>
    intro c hc
    rw [num7] at hc
    split at hc
    · simp at hc; omega
    · rcases List.mem_cons.1 hc with h | h
      · omega
      · exact ih (n / 128) (by omega) c h

theorem putS_mem (l : List Nat) : ∀ c ∈ putS l, c < 256 := by
  intro c hc
  obtain ⟨n, _, h⟩ := List.mem_flatMap.1 hc
  exact num7_mem n c h

theorem putE_mem {i t k : Int} {d : List Nat} (hd : ∀ c ∈ d, c < 256) : ∀ c ∈ putE i t k d, c < 256 := by
  intro c hc
  unfold putE at hc
  split at hc
  · rcases List.mem_append.1 hc with h | h
    · exact putS_mem _ c h
    · rcases List.mem_append.1 h with h | h
      · exact num7_mem _ c h
      · exact hd c h
  · simp at hc

theorem putE_len {i t k : Int} {d : List Nat} : (putE i t k d).length ≤ 40000 := by
  unfold putE
  split
  · rename_i h
    obtain ⟨h1, h2, h3, h4, h5, h6, h7⟩ := entryRight_facts h
    have g1 := putS_len [i.toNat, t.toNat, k.toNat] (by simp; omega)
    have g2 := num7_len d.length (by omega)
    simp only [List.length_cons, List.length_nil] at g1
    simp only [List.length_append]; omega
  · simp

theorem putB_mem {i t : Int} {c : List Int} {d : List Nat} (hd : ∀ c ∈ d, c < 256) : ∀ x ∈ putB i t c d, x < 256 := by
  intro x hc
  unfold putB at hc
  split at hc
  · rcases List.mem_append.1 hc with h | h
    · rcases List.mem_append.1 h with h | h
      · exact putS_mem _ x h
      · exact putS_mem _ x h
    · rcases List.mem_append.1 h with h | h
      · exact num7_mem _ x h
      · exact hd x h
  · simp at hc

theorem putB_len {i t : Int} {c : List Int} {d : List Nat} : (putB i t c d).length ≤ 40000 := by
  unfold putB
  split
  · rename_i h
    obtain ⟨h1, h2, h3, h4, h5, h6⟩ := baseRight_facts h
    obtain ⟨h7, h8, h9⟩ := rightS_facts h5
    have g1 := putS_len [i.toNat, t.toNat, c.length] (by simp; omega)
    have g2 := num7_len d.length (by omega)
    have g3 := putS_len (c.map Int.toNat) (fun n hn => by
      obtain ⟨x, hx, rfl⟩ := List.mem_map.1 hn
      have := h9 x hx; omega)
    simp only [List.length_cons, List.length_nil] at g1
    simp only [List.length_map] at g3
    simp only [List.length_append]; omega
  · simp

end Go.Abs
namespace Go.Abs
open Go Go.Proofs
set_option maxRecDepth 100000
set_option linter.unusedSimpArgs false

theorem tr_agg {σ : Nat → Option Ent} {ids views : List Nat} {cs cs' : List C} (h : TrL (TrC σ ids views) cs cs') : TrSV σ ids views (.agg cs) (.agg cs') := h

theorem pureT {cs : List C} {b : Bool} (h : ∀ c ∈ cs, c.isD = true) : (SV.tup [.agg cs, B b]).pureD := by
  intro s hs
  simp only [List.mem_cons, List.not_mem_nil, or_false] at hs
  rcases hs with h1 | h1 <;> rw [h1]
  · exact h
  · rfl

theorem known_con : Con Try.prog 6 [] [] (B true) [] := by
  have hre : entryRight 3 2 1 [120] = true := by decide
  have hrb : baseRight 3 2 [0, 2] [121] = true := by decide
  have hrd : readE (putE 3 2 1 [120]) 0 = ⟨3, 2, 1, [120], true, [], 0⟩ := by
    have := readE_putE (more := []) hre
    rw [List.append_nil] at this
    rw [this]; rfl
  have hrdb : readB 9223372036854775807 (putB 3 2 [0, 2] [121]) 0 = ⟨3, 2, [0, 2], [121], true, [], 0⟩ := by
    have := readB_putB (most := 9223372036854775807) (more := []) (by omega) hrb
    rw [List.append_nil] at this
    rw [this]; rfl
  have c16 := entry_Read_con (putE 3 2 1 [120]) 0 (putE_mem (by simp)) (by have := putE_len (i := 3) (t := 2) (k := 1) (d := [120]); omega)
  have c25 := entry_ReadBase_con (putB 3 2 [0, 2] [121]) 0 (putB_mem (by simp)) (by have := putB_len (i := 3) (t := 2) (c := [0, 2]) (d := [121]); omega)
  rw [hrd] at c16
  rw [hrdb] at c25
  simp only at c16 c25
  have hpe := putE_len (i := 3) (t := 2) (k := 1) (d := [120])
  have hpb := putB_len (i := 3) (t := 2) (c := [0, 2]) (d := [121])
  refine C_mementolaw8_known (Nat.le_of_ble_eq_true rfl) (Nat.le_of_ble_eq_true rfl) ?_
  simp only [A_mementolaw8_known, argL, objL, List.length_nil, x_seq]
  refine aw_reg 16 (RG.go fun Q hQ => ?_)
  simp only [RX, eff, ev_k, setS_nil, AOp.isCall, setD, setEs, presOf, AOp.needs, idsOf, AOp.rds, List.map_nil, List.nil_append, true_and, Bool.false_eq_true, Nat.reduceAdd, ↓reduceIte]
  refine hQ _ _ _ _ _ (RG.nil ?_)
  simp only [x_seq, x_tn]
  refine aw_reg 160 (RG.go fun Q hQ => ?_)
  simp only [RX, eff, ev_t, ev_k, lk_cons, lkE_cons, lkE_nil, setS_cons, setS_nil, setE_cons, setE_nil, AOp.isCall, setD, setEs, presOf, AOp.needs, SV.one?, SV.pre, SV.cells, idsOf, AOp.rds, AOp.ops, SV.ids, C.ids0, bldFold, bSRows, splice, List.take_succ_cons, List.take_zero, List.drop_succ_cons, List.drop_zero, List.length_cons, List.length_nil, Option.map_some, List.map_cons, List.map_nil, List.nil_append, List.cons_append, true_and, and_self, Bool.false_eq_true, reduceCtorEq, Nat.reduceAdd, Nat.reduceEqDiff, Nat.reduceLeDiff, ↓reduceIte, Nat.zero_add, Nat.le_refl, List.append_nil]
  refine ⟨⟨by simp, drows_brow [120]⟩, hQ _ _ _ _ _ (RG.nil ?_)⟩
  simp only [x_seq, x_tn]
  refine aw_reg 400 (RG.go fun Q hQ => ?_)
  simp only [RX, eff, ev_t, lk_cons, lkE_cons, setS_cons, setS_nil, AOp.isCall, setD, setEs, presOf, AOp.needs, SV.one?, SV.pre, idsOf, AOp.rds, AOp.ops, SV.ids, C.ids0, List.take_succ_cons, List.take_zero, List.drop_zero, List.length_cons, List.length_nil, List.map_nil, List.nil_append, List.cons_append, true_and, and_self, Bool.false_eq_true, reduceCtorEq, Nat.reduceAdd, Nat.reduceEqDiff, ↓reduceIte, Nat.zero_add, Nat.le_refl, List.append_nil]
  refine hQ _ _ _ _ _ ?_
  refine RG.call [] (entry_Put_con 3 2 1 [120]) (tr_cons (tr_agg ⟨rfl, rfl, rfl, rfl, trivial⟩) tr_nil) (trivial) (.inr ⟨rfl, trivial⟩) ?_
  refine RG.go fun Q hQ => ?_
  simp only [RX, setS_cons, setS_nil, AOp.isCall, setD, reduceCtorEq, Nat.reduceAdd, Nat.reduceEqDiff, ↓reduceIte]
  refine hQ _ _ _ _ _ ?_
  refine RG.callo [] [] (pack_New_con ((putE 3 2 1 [120]).map brow) (drows_brow _) (brow_len _) (by simp; omega)) (.mk (tr_cons tr_sl tr_nil) (trivial) (by simp) (by simp) (trivial) (by simp [lkE_cons, lkE_nil]) (by simp [Ent.pure]) (by simp) (by simp)) ?_
  refine RG.go fun Q hQ => ?_
  simp only [RX, lkE_cons, lkE_nil, setS_cons, setS_nil, setE_cons, setE_nil, AOp.isCall, setD, setEs, List.drop_zero, List.length_cons, List.length_nil, List.map_cons, List.map_nil, List.nil_append, reduceCtorEq, Nat.reduceAdd, Nat.reduceEqDiff, ↓reduceIte, Nat.zero_add, renSV, renSV1, renC, renC0, rn, renEnt, backUps, List.zip_nil_left, List.zipIdx_cons, List.zipIdx_nil, List.filterMap_nil, List.append_nil, List.getElem?_nil, Nat.sub_self, Nat.sub_zero, Nat.add_zero]
  refine hQ _ _ _ _ _ ?_
  refine RG.callo [432] [] (c16) (.mk (tr_cons (tr_bp rfl) tr_nil) (by simp only [Int.cast_ofNat_Int, TrL, TrC, TrC0, TrEnt, lkE_cons, Nat.reduceEqDiff, ↓reduceIte, and_self, exists_eq_left', Option.some.injEq, isDRows]) (by simp) (by simp) (trivial) (by simp [lkE_cons, lkE_nil]) (by simp [Ent.pure]) (by simp) (by simp)) ?_
  refine RG.go fun Q hQ => ?_
  simp only [RX, eff, ev_t, lk_cons, lkE_cons, lkE_nil, setS_cons, setS_nil, setE_cons, setE_nil, AOp.isCall, setD, setEs, presOf, AOp.needs, SV.one?, SV.pre, SV.core, SV.cells, idsOf, AOp.rds, AOp.ops, SV.ids, C.ids0, splice, List.take_zero, List.drop_succ_cons, List.drop_zero, List.length_cons, List.length_nil, List.getElem?_cons_zero, List.getElem?_cons_succ, Option.map_some, List.map_cons, List.map_nil, List.nil_append, List.cons_append, true_and, and_self, Bool.false_eq_true, reduceCtorEq, Nat.reduceAdd, Nat.reduceEqDiff, ↓reduceIte, Nat.zero_add, Nat.le_refl, renSV, renSV1, renC, renC0, renEnt, backUps, List.zip_nil_right, List.zip_cons_cons, List.zipIdx_nil, List.filterMap_nil, List.append_nil, List.range_zero, Nat.sub_self, Int.cast_ofNat_Int]
  refine hQ _ _ _ _ _ (RG.nil ?_)
  simp only [x_seq, x_tn]
  refine aw_reg 640 (RG.go fun Q hQ => ?_)
  simp only [RX, eff, ev_t, ev_k, lk_cons, lkE_cons, lkE_nil, setS_cons, setS_nil, setE_cons, setE_nil, AOp.isCall, setD, setEs, presOf, AOp.needs, SV.one?, SV.pre, SV.cells, idsOf, AOp.rds, AOp.ops, SV.ids, C.ids0, bldFold, bSRows, splice, List.take_succ_cons, List.take_zero, List.drop_succ_cons, List.drop_zero, List.length_cons, List.length_nil, Option.map_some, List.map_cons, List.map_nil, List.nil_append, List.cons_append, true_and, and_self, Bool.false_eq_true, reduceCtorEq, Nat.reduceAdd, Nat.reduceEqDiff, Nat.reduceLeDiff, ↓reduceIte, Nat.zero_add, Nat.le_refl, List.append_nil]
  refine ⟨⟨by simp, drows_brow [121]⟩, hQ _ _ _ _ _ (RG.nil ?_)⟩
  simp only [x_seq, x_tn]
  refine aw_reg 800 (RG.go fun Q hQ => ?_)
  simp only [RX, eff, ev_t, lk_cons, lkE_cons, setS_cons, setS_nil, AOp.isCall, setD, setEs, presOf, AOp.needs, SV.one?, SV.pre, idsOf, AOp.rds, AOp.ops, SV.ids, C.ids0, List.take_succ_cons, List.take_zero, List.drop_zero, List.length_cons, List.length_nil, List.map_nil, List.nil_append, List.cons_append, true_and, and_self, Bool.false_eq_true, reduceCtorEq, Nat.reduceAdd, Nat.reduceEqDiff, ↓reduceIte, Nat.zero_add, Nat.le_refl, List.append_nil]
  refine hQ _ _ _ _ _ ?_
  refine RG.callo [] [640] (entry_PutBase_con 3 2 [0, 2] [121] (by decide)) (.mk (tr_cons (tr_agg ⟨rfl, rfl, ⟨by simp, _, _, _, rfl, drows_nrow [0, 2]⟩, rfl, trivial⟩) tr_nil) (trivial) (by simp) (by simp) (views1 rfl trivial) (by simp [lkE_cons, lkE_nil]) (by simp) (by simp) (by simp)) ?_
  refine RG.go fun Q hQ => ?_
  simp only [RX, lkE_cons, lkE_nil, setS_cons, setS_nil, setE_cons, AOp.isCall, setD, setEs, List.drop_zero, List.length_nil, List.map_cons, List.map_nil, List.nil_append, reduceCtorEq, Nat.reduceAdd, Nat.reduceEqDiff, ↓reduceIte, renSV, renSV1, renC, renC0, renEnt, backUps, List.zip_nil_right, List.zipIdx_nil, List.filterMap_cons, List.filterMap_nil, List.append_nil, List.range_zero, Nat.sub_self]
  refine hQ _ _ _ _ _ ?_
  refine RG.callo [] [] (pack_New_con ((putB 3 2 [0, 2] [121]).map brow) (drows_brow _) (brow_len _) (by simp; omega)) (.mk (tr_cons tr_sl tr_nil) (trivial) (by simp) (by simp) (trivial) (by simp [lkE_cons, lkE_nil]) (by simp [Ent.pure]) (by simp) (by simp)) ?_
  refine RG.go fun Q hQ => ?_
  simp only [RX, lkE_cons, lkE_nil, setS_cons, setS_nil, setE_cons, setE_nil, AOp.isCall, setD, setEs, List.drop_zero, List.length_cons, List.length_nil, List.map_cons, List.map_nil, List.nil_append, reduceCtorEq, Nat.reduceAdd, Nat.reduceEqDiff, ↓reduceIte, Nat.zero_add, renSV, renSV1, renC, renC0, rn, renEnt, backUps, List.zip_nil_left, List.zipIdx_cons, List.zipIdx_nil, List.filterMap_nil, List.append_nil, List.getElem?_nil, Nat.sub_self, Nat.sub_zero, Nat.add_zero]
  refine hQ _ _ _ _ _ ?_
  refine RG.callo [832] [] (c25) (.mk (tr_cons (tr_bp rfl) tr_nil) (by simp only [Int.cast_ofNat_Int, TrL, TrC, TrC0, TrEnt, lkE_cons, Nat.reduceEqDiff, ↓reduceIte, and_self, exists_eq_left', Option.some.injEq, isDRows]) (by simp) (by simp) (trivial) (by simp [lkE_cons, lkE_nil]) (by simp [Ent.pure]) (by simp) (by simp)) ?_
  refine RG.go fun Q hQ => ?_
  simp only [RX, eff, ev_t, lk_cons, lkE_cons, lkE_nil, setS_cons, setS_nil, setE_cons, setE_nil, AOp.isCall, setD, setEs, presOf, AOp.needs, SV.one?, SV.pre, SV.core, SV.cells, idsOf, AOp.rds, AOp.ops, SV.ids, C.ids0, splice, List.take_zero, List.drop_succ_cons, List.drop_zero, List.length_cons, List.length_nil, List.getElem?_cons_zero, List.getElem?_cons_succ, Option.map_some, List.map_cons, List.map_nil, List.nil_append, List.cons_append, true_and, and_self, Bool.false_eq_true, reduceCtorEq, Nat.reduceAdd, Nat.reduceEqDiff, ↓reduceIte, Nat.zero_add, Nat.le_refl, renSV, renSV1, renC, renC0, renEnt, backUps, List.zip_nil_right, List.zip_cons_cons, List.zipIdx_nil, List.filterMap_nil, List.append_nil, List.range_zero, Nat.sub_self, Int.cast_ofNat_Int]
  refine hQ _ _ _ _ _ (RG.nil ?_)
  simp only [x_seq, x_tn]
  refine aw_reg 1000 (RG.go fun Q hQ => ?_)
  simp only [RX, AOp.isCall, ↓reduceIte]
  refine hQ _ _ _ _ _ ?_
  refine RG.call [] (entry_Read_nil_con) (tr_cons tr_v tr_nil) (trivial) (.inr ⟨pureT (by simp [entC, C.isD]), trivial⟩) ?_
  refine RG.go fun Q hQ => ?_
  simp only [RX, eff, ev_t, lk_cons, lkE_cons, lkE_nil, setS_cons, setS_nil, setE_cons, setE_nil, AOp.isCall, setD, setEs, presOf, AOp.needs, SV.one?, SV.pre, SV.core, SV.cells, idsOf, AOp.rds, AOp.ops, SV.ids, C.ids0, splice, List.take_zero, List.drop_succ_cons, List.drop_zero, List.length_cons, List.length_nil, List.getElem?_cons_zero, List.getElem?_cons_succ, Option.map_some, List.map_cons, List.map_nil, List.nil_append, List.cons_append, true_and, and_self, Bool.false_eq_true, reduceCtorEq, Nat.reduceAdd, Nat.reduceEqDiff, ↓reduceIte, Nat.zero_add, Nat.le_refl, List.append_nil]
  refine hQ _ _ _ _ _ (RG.nil ?_)
  simp only [x_seq, x_tn]
  have q1 : sameE 3 2 1 [120] 3 2 1 [120] = true := by decide
  have q2 : sameB 3 2 [0, 2] [121] 3 2 [0, 2] [121] = true := by decide
  have q3 : putE 0 0 0 [] = [] := by decide
  have q4 : baseRight 0 0 [] [] = false := by decide
  refine aw_reg 1200 (RG.go fun Q hQ => ?_)
  simp only [RX, eff, ev_t, lk_cons, lkE_cons, setS_cons, setS_nil, AOp.isCall, setD, setEs, presOf, AOp.needs, SV.one?, SV.pre, gval, idsOf, AOp.rds, AOp.ops, SV.ids, C.ids0, List.take_succ_cons, List.take_zero, List.drop_zero, List.length_cons, List.length_nil, List.map_nil, List.nil_append, List.cons_append, true_and, and_self, Bool.and_true, Bool.false_eq_true, implies_true, reduceCtorEq, Nat.reduceAdd, Nat.reduceEqDiff, ↓reduceIte, Nat.zero_add, Nat.le_refl, BEq.rfl, List.append_nil]
  refine hQ _ _ _ _ _ ?_
  refine RG.callg _ _ [] rfl (fun hg => ⟨_, entry_Same_con 3 2 1 [120] 3 2 1 [120] (by simp) (by simp), tr_cons (tr_opt (by simpa using hg) (tr_agg ⟨rfl, rfl, rfl, rfl, trivial⟩)) (tr_cons (tr_opt (by simpa using hg) (tr_agg ⟨rfl, rfl, rfl, rfl, trivial⟩)) tr_nil), trivial, .inl trivial⟩) ?_
  refine RG.go fun Q hQ => ?_
  simp only [RX, eff, ev_t, ev_k, lk_cons, lkE_cons, setS_cons, setS_nil, AOp.isCall, setD, setEs, presOf, AOp.needs, SV.one?, SV.pre, gval, idsOf, AOp.rds, AOp.ops, SV.ids, C.ids0, List.take_succ_cons, List.take_zero, List.drop_zero, List.length_cons, List.length_nil, List.map_nil, List.nil_append, List.cons_append, and_true, true_and, and_self, Bool.true_and, Bool.and_true, Bool.false_eq_true, beq_true, implies_true, imp_self, Bool.if_false_right, Bool.decide_eq_true, reduceCtorEq, Nat.reduceAdd, Nat.reduceEqDiff, ↓reduceIte, Nat.zero_add, Nat.le_refl, BEq.rfl, List.append_nil]
  simp only [q1]
  refine hQ _ _ _ _ _ ?_
  refine RG.callg _ _ [640] rfl (fun hg => ⟨_, entry_SameBase_con 3 2 [0, 2] [121] 3 2 [0, 2] [121] (by simp) (by simp) (by simp), tr_cons (tr_opt (by simpa using hg) (tr_agg ⟨rfl, rfl, rfl, rfl, trivial⟩)) (tr_cons (tr_opt (by simpa using hg) (tr_agg ⟨rfl, rfl, ⟨by simp, _, _, _, rfl, drows_nrow [0, 2]⟩, rfl, trivial⟩)) tr_nil), views1 rfl trivial, .inl trivial⟩) ?_
  refine RG.go fun Q hQ => ?_
  simp only [RX, eff, ev_t, ev_k, lk_cons, setS_cons, setS_nil, AOp.isCall, setD, setEs, presOf, AOp.needs, SV.one?, SV.pre, gval, unV, idsOf, AOp.rds, AOp.ops, SV.ids, C.ids0, bldFold, Option.map_some, List.map_nil, List.nil_append, and_true, true_and, and_self, Bool.true_and, Bool.and_true, Bool.false_eq_true, beq_true, Bool.not_false, implies_true, imp_self, Bool.if_false_right, Bool.decide_eq_true, reduceCtorEq, Nat.reduceAdd, Nat.reduceEqDiff, ↓reduceIte, BEq.rfl, List.append_nil]
  simp only [q2]
  refine hQ _ _ _ _ _ ?_
  refine RG.callg _ _ [] rfl (fun hg => ⟨_, entry_Put_con 0 0 0 [], tr_cons (tr_opt (by simpa using hg) (tr_agg ⟨rfl, rfl, rfl, ⟨rfl, rfl⟩, trivial⟩)) tr_nil, trivial, .inr ⟨rfl, trivial⟩⟩) ?_
  refine RG.go fun Q hQ => ?_
  simp only [RX, eff, ev_t, ev_k, lk_cons, lkE_cons, setS_cons, setS_nil, AOp.isCall, setD, setEs, presOf, AOp.needs, SV.one?, SV.pre, gval, binV, idsOf, AOp.rds, AOp.ops, SV.ids, C.ids0, rowsOf, List.take_succ_cons, List.take_zero, List.drop_zero, List.length_cons, List.length_nil, Option.map_some, List.map_nil, List.nil_append, List.cons_append, true_and, and_self, Bool.true_and, Bool.and_true, Bool.false_eq_true, beq_true, implies_true, reduceCtorEq, Nat.reduceAdd, Nat.reduceEqDiff, ↓reduceIte, Option.bind_some, Nat.zero_add, Nat.le_refl, BEq.rfl, List.append_nil]
  simp only [q3, List.map_nil, List.length_nil, Int.cast_ofNat_Int, Int.reduceBEq]
  refine hQ _ _ _ _ _ ?_
  refine RG.callg _ _ [] rfl (fun hg => ⟨_, entry_Right_con 3 2 1 [120], tr_cons (tr_opt (by simpa using hg) (tr_agg ⟨rfl, rfl, rfl, rfl, trivial⟩)) tr_nil, trivial, .inl trivial⟩) ?_
  refine RG.go fun Q hQ => ?_
  simp only [RX, eff, ev_t, ev_k, lk_cons, lkE_cons, setS_cons, setS_nil, AOp.isCall, setD, setEs, presOf, AOp.needs, SV.one?, SV.pre, gval, idsOf, AOp.rds, AOp.ops, SV.ids, C.ids0, List.take_succ_cons, List.take_zero, List.drop_zero, List.length_cons, List.length_nil, List.map_nil, List.nil_append, List.cons_append, true_and, and_self, Bool.true_and, Bool.and_true, Bool.false_eq_true, beq_true, implies_true, reduceCtorEq, Nat.reduceAdd, Nat.reduceEqDiff, ↓reduceIte, Nat.zero_add, Nat.le_refl, BEq.rfl, List.append_nil]
  simp only [hre]
  refine hQ _ _ _ _ _ ?_
  refine RG.callg _ _ [640] rfl (fun hg => ⟨_, entry_BaseRight_con 3 2 [0, 2] [121] (by decide), tr_cons (tr_opt (by simpa using hg) (tr_agg ⟨rfl, rfl, ⟨by simp, _, _, _, rfl, drows_nrow [0, 2]⟩, rfl, trivial⟩)) tr_nil, views1 rfl trivial, .inl trivial⟩) ?_
  refine RG.go fun Q hQ => ?_
  simp only [RX, eff, ev_t, ev_k, lk_cons, setS_cons, setS_nil, AOp.isCall, setD, setEs, presOf, AOp.needs, SV.one?, SV.pre, gval, idsOf, AOp.rds, AOp.ops, SV.ids, C.ids0, bldFold, Option.map_some, List.map_nil, List.nil_append, true_and, and_self, Bool.true_and, Bool.and_true, Bool.false_eq_true, beq_true, implies_true, reduceCtorEq, Nat.reduceAdd, Nat.reduceEqDiff, ↓reduceIte, BEq.rfl, List.append_nil]
  simp only [hrb]
  refine hQ _ _ _ _ _ ?_
  refine RG.callg _ _ [] rfl (fun hg => ⟨_, entry_BaseRight_con 0 0 [] [] (by decide), tr_cons (tr_opt (by simpa using hg) (tr_agg ⟨rfl, rfl, ⟨rfl, rfl⟩, ⟨rfl, rfl⟩, trivial⟩)) tr_nil, trivial, .inl trivial⟩) ?_
  refine RG.go fun Q hQ => ?_
  simp only [RX, eff, ev_t, ev_k, lk_cons, setS_cons, setS_nil, AOp.isCall, setD, setEs, presOf, AOp.needs, SV.one?, SV.pre, gval, unV, idsOf, AOp.rds, AOp.ops, SV.ids, C.ids0, Option.map_some, List.map_nil, List.nil_append, true_and, and_self, Bool.and_true, Bool.false_eq_true, implies_true, reduceCtorEq, Nat.reduceAdd, Nat.reduceEqDiff, ↓reduceIte, BEq.rfl, List.append_nil]
  simp only [q4]
  refine hQ _ _ _ _ _ (RG.nil ?_)
  simp only [x_ret, x_tn]
  exact Fin.b (.inr rfl) rfl trivial (by simp)

end Go.Abs
