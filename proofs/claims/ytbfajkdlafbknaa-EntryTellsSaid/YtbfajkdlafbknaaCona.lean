/- What the functions that the law comes to do, part 1. No condition. -/
import Derived.Test.YtbfajkdlafbknaaCode
set_option linter.unusedVariables false
set_option linter.unusedSimpArgs false
set_option linter.unnecessarySimpa false
namespace Go.Abs
open Go Go.Proofs
set_option maxRecDepth 100000
set_option linter.unusedSimpArgs false

theorem pack_Put_con (l : List Nat) (hb : l.length * 10 ≤ 140737488355328) (hl : ∀ n ∈ l, n < 18446744073709551616) : Con Try.prog 30 [.c (.sl (l.map urow))] [] (.c (.osl 0)) [.arr 5 1 ((putS l).map brow) false] := by
  refine C_pack_Put (Nat.le_of_ble_eq_true rfl) (Nat.le_of_ble_eq_true rfl) ?_
  simp only [A_pack_Put, argL, objL, List.length_nil, x_seq]
  refine aw_reg 16 (RG.go fun Q hQ => ?_)
  simp only [RX, eff, ev_k, setS_cons, setS_nil, AOp.isCall, setD, setEs, presOf, AOp.needs, idsOf, AOp.rds, List.map_nil, List.nil_append, true_and, Bool.false_eq_true, reduceCtorEq, Nat.reduceAdd, ↓reduceIte]
  refine hQ _ _ _ _ _ (RG.nil ?_)
  simp only [x_seq, x_tn]
  refine aw_reg 160 (RG.go fun Q hQ => ?_)
  simp only [RX, eff, ev_k, setS_cons, setS_nil, AOp.isCall, setD, setEs, presOf, AOp.needs, idsOf, AOp.rds, List.map_nil, List.nil_append, true_and, Bool.false_eq_true, reduceCtorEq, Nat.reduceAdd, Nat.reduceEqDiff, ↓reduceIte]
  refine hQ _ _ _ _ _ (RG.nil ?_)
  simp only [x_seq, x_tn]
  refine aw_reg 320 (RG.go fun Q hQ => ?_)
  simp only [RX, eff, ev_t, ev_k, lk_cons, setS_cons, setS_nil, AOp.isCall, setD, setEs, presOf, AOp.needs, SV.one?, SV.pre, idsOf, AOp.rds, AOp.ops, SV.ids, C.ids0, rowsOf, List.map_nil, List.nil_append, true_and, and_self, Bool.false_eq_true, reduceCtorEq, Nat.reduceAdd, Nat.reduceEqDiff, ↓reduceIte, Option.bind_some, List.append_nil]
  refine hQ _ _ _ _ _ (RG.nil ?_)
  simp only [x_block, x_tn]
  refine aw_loop (X := { i : Nat // i ≤ l.length }) (fun i => mkSt [(3, .c (.osl 1000)), (6, .c (.sl (l.map urow))), (7, I l.length), (8, I i.1)] [(1000, .arr 5 1 ((putS (l.take i.1)).map brow) false)]) (fun i => l.length - i.1) ⟨0, Nat.zero_le _⟩ ?_ ?_
  · refine (Le.own 3 1000 5 1 rfl rfl (by decide)).trans (Le.lit [] [] _ _ ?_ ?_ ?_ ?_)
    · skip
      simp only [Int.cast_ofNat_Int, allL, lk_cons, lkE_cons, lkE_nil, WkSV, WkSV1, WkC, WkC0, rlook, frzEs, setE_nil, setS_cons, Nat.reduceEqDiff, ↓reduceIte, reduceCtorEq, true_and, and_true, ne_eq, not_false_eq_true]
      simp
    · skip
      simp only [allL, lkE_cons, lkE_nil, WkEnt, rlook, frzEs, setE_nil, isDRows, Option.some.injEq, ↓reduceIte, reduceCtorEq, true_and, and_true, exists_eq_left', ne_eq, true_or]
      simp [putS]
    · simp
    · simp
  rintro ⟨i, hi⟩
  simp only [x_seq]
  refine aw_reg 480 (RG.go fun Q hQ => ?_)
  simp only [RX, eff, ev_t, lk_cons, setS_cons, setS_nil, AOp.isCall, setD, setEs, presOf, AOp.needs, SV.one?, SV.pre, binV, idsOf, AOp.rds, AOp.ops, SV.ids, C.ids0, Option.map_some, List.map_nil, List.nil_append, true_and, and_self, Bool.false_eq_true, Nat.reduceAdd, Nat.reduceEqDiff, ↓reduceIte, List.append_nil]
  refine hQ _ _ _ _ _ (RG.nil ?_)
  simp only [x_seq, x_tn]
  refine aw_cond _ rfl trivial (fun ht => ?_) (fun hf => ?_)
  rotate_left
  · skip
    simp only [x_seq, x_exit, x_tn, x_tx, x_bx, x_lx, ↓reduceIte]
    refine aw_reg 640 (RG.go fun Q hQ => ?_)
    simp only [RX, eff, ev_t, lk_cons, setS_cons, setS_nil, AOp.isCall, setD, setEs, presOf, AOp.needs, idsOf, AOp.rds, List.map_nil, List.nil_append, true_and, Bool.false_eq_true, Nat.reduceAdd, Nat.reduceEqDiff, ↓reduceIte]
    refine hQ _ _ _ _ _ (RG.nil ?_)
    simp only [x_ret, x_tn]
    have hi' : i = l.length := by simp at hf; omega
    subst hi'
    refine Fin.objs [] [(0, 1000)] (.inr rfl) rfl trivial ?_ ?_ ?_ ?_
    · skip
      simp only [mkSt_sl, lk_cons, lkE_cons, lkE_nil, WkSV, WkSV1, WkC, WkC0, rlook, frzEs, objL, Nat.reduceEqDiff, ↓reduceIte, reduceCtorEq, and_true, ne_eq, not_false_eq_true]
    · skip
      simp only [allL, lkE_cons, lkE_nil, WkEnt, rlook, frzEs, objL, isDRows, Option.some.injEq, ↓reduceIte, reduceCtorEq, true_and, and_true, exists_eq_left', ne_eq, true_or]
      simp [brow, C.isD]
    · simp [objL]
    · simp
  have hi' : i < l.length := by simpa using ht
  have hr : (List.map urow l)[(i : Int).toNat]?.getD [] = [.v (.int .u64 l[i])] := by simp [hi', urow]
  simp only [x_seq, x_block, x_skip, x_tn]
  refine aw_reg 640 (RG.go fun Q hQ => ?_)
  simp only [RX, eff, ev_t, lk_cons, setS_cons, setS_nil, AOp.isCall, setD, setEs, presOf, AOp.needs, SV.one?, SV.pre, idsOf, AOp.rds, AOp.ops, SV.ids, C.ids0, Option.getD_some, List.length_cons, List.length_nil, List.getElem?_cons_zero, List.map_nil, List.nil_append, and_true, true_and, and_self, Bool.false_eq_true, Nat.reduceAdd, Nat.reduceEqDiff, Nat.reduceLT, ↓reduceIte, Nat.zero_add, List.append_nil, C_default, hr]
  refine ⟨by simp; omega, hQ _ _ _ _ _ (RG.nil ?_)⟩
  simp only [x_seq, x_block, x_tn]
  refine aw_loop (X := { p : Nat × List Nat // p.2 ++ num7 p.1 = putS (l.take i) ++ num7 l[i] ∧ p.1 < 18446744073709551616 }) (fun p => mkSt [(3, .c (.osl 1000)), (5, .c (.v (.int .u64 p.1.1))), (6, .c (.sl (l.map urow))), (7, I l.length), (8, I i)] [(1000, .arr 5 1 (p.1.2.map brow) false)]) (fun p => p.1.1) ⟨(l[i], putS (l.take i)), rfl, hl _ (List.getElem_mem hi')⟩ ?_ ?_
  · refine Le.lit [] [] _ _ ?_ ?_ ?_ ?_
    · skip
      simp only [allL, lk_cons, lkE_cons, lkE_nil, WkSV, WkSV1, WkC, WkC0, rlook, frzEs, Nat.reduceEqDiff, ↓reduceIte, reduceCtorEq, and_true, ne_eq, not_false_eq_true]
    · skip
      simp only [allL, lkE_cons, lkE_nil, WkEnt, rlook, frzEs, isDRows, Option.some.injEq, ↓reduceIte, reduceCtorEq, true_and, and_true, exists_eq_left', ne_eq, true_or]
      simp [brow, C.isD]
    · simp
    · simp
  rintro ⟨⟨n, acc⟩, hp, hn⟩
  simp only [x_seq]
  refine aw_reg 800 (RG.go fun Q hQ => ?_)
  simp only [RX, eff, ev_t, ev_k, lk_cons, setS_cons, setS_nil, AOp.isCall, setD, setEs, presOf, AOp.needs, SV.one?, SV.pre, binV, idsOf, AOp.rds, AOp.ops, SV.ids, C.ids0, Option.map_some, List.map_nil, List.nil_append, true_and, and_self, Bool.false_eq_true, ge_iff_le, Nat.reduceAdd, Nat.reduceEqDiff, ↓reduceIte, List.append_nil]
  refine hQ _ _ _ _ _ (RG.nil ?_)
  simp only [x_tn]
  refine aw_cond _ rfl trivial (fun ht => ?_) (fun hf => ?_)
  · have hn' : 128 ≤ n := by simp at ht; omega
    have hlen : acc.length + (num7 n).length ≤ l.length * 10 := by
      have h0 := putS_len (l.take (i + 1)) fun m hm => hl m (List.mem_of_mem_take hm)
      rw [putS_take l i hi', ← hp] at h0
      simp at h0
      omega
    have hpos := num7_pos n
    simp only [x_seq, x_block, x_skip, x_tn]
    refine aw_reg 1200 (RG.go fun Q hQ => ?_)
    simp only [RX, eff, ev_t, ev_k, lk_cons, lkE_cons, lkE_nil, setS_cons, setS_nil, setE_cons, setE_nil, AOp.isCall, setD, setEs, presOf, AOp.needs, SV.one?, SV.pre, SV.cells, binV, idsOf, AOp.rds, AOp.ops, SV.ids, C.ids0, rowsOf, srcOf, bSRows, List.length_cons, List.length_nil, Option.map_some, List.map_cons, List.map_nil, List.nil_append, List.cons_append, true_and, and_self, Bool.false_eq_true, Nat.reduceAdd, Nat.reduceEqDiff, ↓reduceIte, Nat.zero_add, List.append_nil]
    refine ⟨⟨by simp, by simp; omega⟩, hQ _ _ _ _ _ (RG.nil ?_)⟩
    simp only [x_tn, x_bn]
    refine aw_reg 1400 (RG.go fun Q hQ => ?_)
    simp only [RX, eff, ev_t, ev_k, lk_cons, setS_cons, setS_nil, AOp.isCall, setD, setEs, presOf, AOp.needs, SV.one?, SV.pre, binV, idsOf, AOp.rds, AOp.ops, SV.ids, C.ids0, Option.map_some, List.map_nil, List.nil_append, true_and, and_self, Bool.false_eq_true, Nat.reduceAdd, Nat.reduceEqDiff, Int.reduceToNat, ↓reduceIte, List.append_nil, Int.reduceLE]
    refine hQ _ _ _ _ _ (RG.nil ?_)
    simp only [x_ln]
    refine ⟨⟨(n / 128, acc ++ [n % 128 + 128]), ?_, by simp only; omega⟩, ?_, by simp only; omega⟩
    · have h7 : num7 n = (n % 128 + 128) :: num7 (n / 128) := by rw [num7, if_neg (by omega)]
      rw [← hp, h7]
      simp
    refine Le.lit [] [(1000, 1280)] _ _ ?_ ?_ ?_ ?_
    · skip
      simp only [allL, lk_cons, lkE_cons, lkE_nil, WkSV, WkSV1, WkC, WkC0, rlook, frzEs, Nat.reduceEqDiff, ↓reduceIte, reduceCtorEq, true_and, and_true, ne_eq, not_false_eq_true]
      rw [shr7]
    · skip
      simp only [allL, lkE_cons, lkE_nil, WkEnt, rlook, frzEs, isDRows, Option.some.injEq, Nat.reduceEqDiff, ↓reduceIte, reduceCtorEq, true_and, and_true, exists_eq_left', ne_eq, true_or]
      refine ⟨by simp [or128, brow], drows_brow _⟩
    · simp
    · simp
  have hn' : n < 128 := by simp at hf; omega
  have hlen : acc.length + (num7 n).length ≤ l.length * 10 := by
    have h0 := putS_len (l.take (i + 1)) fun m hm => hl m (List.mem_of_mem_take hm)
    rw [putS_take l i hi', ← hp] at h0
    simp at h0
    omega
  have hpos := num7_pos n
  simp only [x_exit, x_tn, x_tx, x_bx, x_lx, ↓reduceIte]
  refine aw_reg 1200 (RG.go fun Q hQ => ?_)
  simp only [RX, eff, ev_t, lk_cons, lkE_cons, lkE_nil, setS_cons, setS_nil, setE_cons, setE_nil, AOp.isCall, setD, setEs, presOf, AOp.needs, SV.one?, SV.pre, SV.cells, idsOf, AOp.rds, AOp.ops, SV.ids, C.ids0, rowsOf, srcOf, bSRows, List.length_cons, List.length_nil, Option.map_some, List.map_cons, List.map_nil, List.nil_append, List.cons_append, true_and, and_self, Bool.false_eq_true, Nat.reduceAdd, Nat.reduceEqDiff, ↓reduceIte, Nat.zero_add, List.append_nil]
  refine ⟨⟨by simp, by simp; omega⟩, hQ _ _ _ _ _ (RG.nil ?_)⟩
  simp only [x_tn, x_bn]
  refine aw_reg 1400 (RG.go fun Q hQ => ?_)
  simp only [RX, eff, ev_t, ev_k, lk_cons, setS_cons, setS_nil, AOp.isCall, setD, setEs, presOf, AOp.needs, SV.one?, SV.pre, binV, idsOf, AOp.rds, AOp.ops, SV.ids, C.ids0, Option.map_some, List.map_nil, List.nil_append, true_and, and_self, Bool.false_eq_true, Nat.reduceAdd, Nat.reduceEqDiff, ↓reduceIte, List.append_nil]
  refine hQ _ _ _ _ _ (RG.nil ?_)
  simp only [x_ln]
  refine ⟨⟨i + 1, hi'⟩, ?_, by simp; omega⟩
  refine Le.lit [] [(1000, 1264)] _ _ ?_ ?_ ?_ ?_
  · skip
    simp only [allL, lk_cons, lkE_cons, lkE_nil, WkSV, WkSV1, WkC, WkC0, rlook, frzEs, Nat.reduceEqDiff, ↓reduceIte, reduceCtorEq, true_and, and_true, ne_eq, not_false_eq_true]
    rw [w64 _ (by omega) (by omega)]; rfl
  · skip
    simp only [allL, lkE_cons, lkE_nil, WkEnt, rlook, frzEs, isDRows, Option.some.injEq, Nat.reduceEqDiff, ↓reduceIte, reduceCtorEq, true_and, and_true, exists_eq_left', ne_eq, true_or]
    refine ⟨?_, drows_brow _⟩
    rw [putS_take l i hi', ← hp, num7, if_pos hn', u8wrap n hn']
    simp [brow]
  · simp
  · simp

theorem slices_Clone_byte_byte_con (rows : List (List C)) (hd : isDRows rows) (h1 : ∀ r ∈ rows, r.length = 1) (hb : rows.length ≤ 140737488355328) : Con Try.prog 36 [.c (.sl rows)] [] (.c (.osl 0)) [.arr 5 1 rows false] := by
  by_cases hr : rows = []
  · subst hr
    refine Con.split1 ?_ fun b off cap => ?_
    · skip
      refine C_slices_Clone_byte_byte (Nat.le_of_ble_eq_true rfl) (Nat.le_of_ble_eq_true rfl) ?_
      simp only [A_slices_Clone_byte_byte, argL, objL, List.length_nil, x_seq]
      refine aw_reg 16 (RG.go fun Q hQ => ?_)
      simp only [RX, eff, ev_k, setS_cons, setS_nil, AOp.isCall, setD, setEs, presOf, AOp.needs, idsOf, AOp.rds, List.map_nil, List.nil_append, true_and, Bool.false_eq_true, reduceCtorEq, Nat.reduceAdd, ↓reduceIte]
      refine hQ _ _ _ _ _ (RG.nil ?_)
      simp only [x_seq, x_tn]
      refine aw_reg 160 (RG.go fun Q hQ => ?_)
      simp only [RX, eff, ev_t, lk_cons, setS_cons, setS_nil, AOp.isCall, setD, setEs, presOf, AOp.needs, SV.one?, SV.pre, idsOf, AOp.rds, AOp.ops, SV.ids, C.ids0, List.map_nil, List.nil_append, true_and, and_self, Bool.false_eq_true, Bool.not_false, reduceCtorEq, Nat.reduceAdd, Nat.reduceEqDiff, ↓reduceIte, List.append_nil]
      refine hQ _ _ _ _ _ (RG.nil ?_)
      simp only [x_tn]
      refine aw_cond _ rfl trivial (fun ht => ?_) (fun hf => by cases hf)
      simp only [x_seq]
      refine aw_reg 320 (RG.go fun Q hQ => ?_)
      simp only [RX, eff, ev_k, setS_cons, AOp.isCall, setD, setEs, presOf, AOp.needs, idsOf, AOp.rds, List.map_nil, List.nil_append, true_and, Bool.false_eq_true, reduceCtorEq, Nat.reduceAdd, ↓reduceIte]
      refine hQ _ _ _ _ _ (RG.nil ?_)
      simp only [x_ret, x_tn, x_tr]
      exact Fin.ownNil (.inr rfl) rfl trivial (by decide)
    · skip
      refine C_slices_Clone_byte_byte (Nat.le_of_ble_eq_true rfl) (Nat.le_of_ble_eq_true rfl) ?_
      simp only [A_slices_Clone_byte_byte, argL, objL, List.length_nil, x_seq]
      refine aw_reg 16 (RG.go fun Q hQ => ?_)
      simp only [RX, eff, ev_k, setS_cons, setS_nil, AOp.isCall, setD, setEs, presOf, AOp.needs, idsOf, AOp.rds, List.map_nil, List.nil_append, true_and, Bool.false_eq_true, reduceCtorEq, Nat.reduceAdd, ↓reduceIte]
      refine hQ _ _ _ _ _ (RG.nil ?_)
      simp only [x_seq, x_tn]
      refine aw_reg 160 (RG.go fun Q hQ => ?_)
      simp only [RX, eff, ev_t, lk_cons, setS_cons, setS_nil, AOp.isCall, setD, setEs, presOf, AOp.needs, SV.one?, SV.pre, idsOf, AOp.rds, AOp.ops, SV.ids, C.ids0, List.map_nil, List.nil_append, true_and, and_self, Bool.false_eq_true, reduceCtorEq, Nat.reduceAdd, Nat.reduceEqDiff, ↓reduceIte, List.append_nil]
      refine hQ _ _ _ _ _ (RG.nil ?_)
      simp only [x_tn]
      refine aw_cond _ rfl trivial (fun ht => by cases ht) (fun hf => ?_)
      simp only [x_seq, x_skip, x_tn]
      refine aw_reg 320 (RG.go fun Q hQ => ?_)
      simp only [RX, eff, Nat.reduceMul, ev_t, lk_cons, lkE_cons, lkE_nil, setS_cons, setS_nil, setE_cons, setE_nil, AOp.isCall, setD, setEs, presOf, AOp.needs, SV.one?, SV.pre, idsOf, AOp.rds, AOp.ops, SV.ids, C.ids0, rowsOf, srcOf, bSRows, List.length_nil, Option.map_some, List.map_cons, List.map_nil, List.nil_append, List.cons_append, and_true, true_and, and_self, Bool.false_eq_true, reduceCtorEq, Nat.reduceAdd, Nat.reduceEqDiff, Nat.reduceLeDiff, ↓reduceIte, List.append_nil, Nat.add_zero]
      refine ⟨by simp, hQ _ _ _ _ _ (RG.nil ?_)⟩
      simp only [x_ret, x_tn]
      refine Fin.objs [] [(0, 352)] (.inr rfl) rfl trivial ?_ ?_ ?_ ?_
      · skip
        simp only [mkSt_sl, lk_cons, lkE_cons, lkE_nil, WkSV, WkSV1, WkC, WkC0, rlook, frzEs, objL, ↓reduceIte, reduceCtorEq, and_true, ne_eq, not_false_eq_true]
      · skip
        simp only [allL, lkE_cons, lkE_nil, WkEnt, rlook, frzEs, objL, isDRows, Option.some.injEq, Nat.reduceEqDiff, ↓reduceIte, reduceCtorEq, true_and, and_true, exists_eq_left', ne_eq, true_or]
        simp
      · simp [objL]
      · simp
  · skip
    refine C_slices_Clone_byte_byte (Nat.le_of_ble_eq_true rfl) (Nat.le_of_ble_eq_true rfl) ?_
    simp only [A_slices_Clone_byte_byte, argL, objL, List.length_nil, x_seq]
    refine aw_reg 16 (RG.go fun Q hQ => ?_)
    simp only [RX, eff, ev_k, setS_cons, setS_nil, AOp.isCall, setD, setEs, presOf, AOp.needs, idsOf, AOp.rds, List.map_nil, List.nil_append, true_and, Bool.false_eq_true, reduceCtorEq, Nat.reduceAdd, ↓reduceIte]
    refine hQ _ _ _ _ _ (RG.nil ?_)
    simp only [x_seq, x_tn]
    refine aw_reg 160 (RG.go fun Q hQ => ?_)
    simp only [RX, eff, ev_t, lk_cons, setS_cons, setS_nil, AOp.isCall, setD, setEs, presOf, AOp.needs, SV.one?, SV.pre, idsOf, AOp.rds, AOp.ops, SV.ids, C.ids0, List.map_nil, List.nil_append, true_and, and_self, Bool.false_eq_true, reduceCtorEq, Nat.reduceAdd, Nat.reduceEqDiff, ↓reduceIte, List.append_nil]
    refine ⟨hr, hQ _ _ _ _ _ (RG.nil ?_)⟩
    simp only [x_tn]
    refine aw_cond _ rfl trivial (fun ht => by cases ht) (fun hf => ?_)
    simp only [x_seq, x_skip, x_tn]
    refine aw_reg 320 (RG.go fun Q hQ => ?_)
    simp only [RX, eff, ev_t, lk_cons, lkE_cons, lkE_nil, setS_cons, setS_nil, setE_cons, setE_nil, AOp.isCall, setD, setEs, presOf, AOp.needs, SV.one?, SV.pre, idsOf, AOp.rds, AOp.ops, SV.ids, C.ids0, rowsOf, srcOf, bSRows, List.length_nil, Option.map_some, List.map_cons, List.map_nil, List.nil_append, List.cons_append, true_and, and_self, Bool.false_eq_true, reduceCtorEq, Nat.reduceAdd, Nat.reduceEqDiff, ↓reduceIte, Nat.zero_add, List.append_nil]
    refine ⟨⟨h1, by omega⟩, hQ _ _ _ _ _ (RG.nil ?_)⟩
    simp only [x_ret, x_tn]
    refine Fin.objs [] [(0, 352)] (.inr rfl) rfl trivial ?_ ?_ ?_ ?_
    · skip
      simp only [mkSt_sl, lk_cons, lkE_cons, lkE_nil, WkSV, WkSV1, WkC, WkC0, rlook, frzEs, objL, ↓reduceIte, reduceCtorEq, and_true, ne_eq, not_false_eq_true]
    · skip
      simp only [allL, lkE_cons, lkE_nil, WkEnt, rlook, frzEs, objL, isDRows, Option.some.injEq, Nat.reduceEqDiff, ↓reduceIte, reduceCtorEq, true_and, and_true, exists_eq_left', ne_eq, true_or]
      exact hd
    · simp [objL]
    · simp


theorem pack_rest_Left_con (rows : List (List C)) (e : Int) : Con Try.prog 17 [.c (.bp 0 0)] [.box [.sl rows, .v (.int .i64 e)]] (I rows.length) [.box [.sl rows, .v (.int .i64 e)]] := by
  refine C_pack_rest_Left (Nat.le_of_ble_eq_true rfl) (Nat.le_of_ble_eq_true rfl) ?_
  simp only [A_pack_rest_Left, argL, objL, List.length_nil, List.length_cons, Nat.zero_add, x_seq]
  refine aw_reg 16 (RG.go fun Q hQ => ?_)
  simp only [RX, eff, ev_k, setS_cons, setS_nil, AOp.isCall, setD, setEs, presOf, AOp.needs, idsOf, AOp.rds, List.map_nil, List.nil_append, true_and, Bool.false_eq_true, reduceCtorEq, Nat.reduceAdd, ↓reduceIte]
  refine hQ _ _ _ _ _ (RG.nil ?_)
  simp only [x_seq, x_tn]
  refine aw_reg 160 (RG.go fun Q hQ => ?_)
  simp only [RX, eff, ev_t, lk_cons, lkE_cons, setS_cons, setS_nil, AOp.isCall, setD, setEs, presOf, AOp.needs, SV.one?, SV.pre, idsOf, AOp.rds, AOp.ops, SV.ids, C.ids0, rowsOf, List.getElem?_cons_zero, Option.map_some, List.map_nil, List.nil_append, List.cons_append, true_and, and_self, Bool.false_eq_true, reduceCtorEq, Nat.reduceAdd, Nat.reduceEqDiff, ↓reduceIte, Option.bind_some, List.append_nil, Nat.add_zero]
  refine hQ _ _ _ _ _ (RG.nil ?_)
  simp only [x_ret, x_tn]
  refine Fin.objs [] [] (.inr rfl) rfl (by first | exact trivial | exact ⟨trivial, trivial⟩ | exact ⟨trivial, trivial, trivial⟩) ?_ ?_ (by simp [objL, rlook]) (by simp [objL, rlook])
  · simp only [mkSt_sl, lk_cons, lkE_cons, lkE_nil, WkSV, WkSV1, WkC, WkC0, rlook, frzEs, objL, ↓reduceIte, reduceCtorEq, ne_eq]
  · simp only [allL, lkE_cons, lkE_nil, WkC, WkC0, WkEnt, TrL, rlook, frzEs, objL, isDRows, Option.some.injEq, ↓reduceIte, and_true, exists_eq_left', ne_eq]

theorem pack_rest_Err_con (rows : List (List C)) (e : Int) : Con Try.prog 39 [.c (.bp 0 0)] [.box [.sl rows, .v (.int .i64 e)]] (I e) [.box [.sl rows, .v (.int .i64 e)]] := by
  refine C_pack_rest_Err (Nat.le_of_ble_eq_true rfl) (Nat.le_of_ble_eq_true rfl) ?_
  simp only [A_pack_rest_Err, argL, objL, List.length_nil, List.length_cons, Nat.zero_add, x_seq]
  refine aw_reg 16 (RG.go fun Q hQ => ?_)
  simp only [RX, eff, ev_k, setS_cons, setS_nil, AOp.isCall, setD, setEs, presOf, AOp.needs, idsOf, AOp.rds, List.map_nil, List.nil_append, true_and, Bool.false_eq_true, reduceCtorEq, Nat.reduceAdd, ↓reduceIte]
  refine hQ _ _ _ _ _ (RG.nil ?_)
  simp only [x_seq, x_tn]
  refine aw_reg 160 (RG.go fun Q hQ => ?_)
  simp only [RX, eff, ev_t, lk_cons, lkE_cons, setS_cons, setS_nil, AOp.isCall, setD, setEs, presOf, AOp.needs, SV.one?, SV.pre, idsOf, AOp.rds, AOp.ops, SV.ids, C.ids0, List.getElem?_cons_zero, List.getElem?_cons_succ, Option.map_some, List.map_nil, List.nil_append, List.cons_append, true_and, and_self, Bool.false_eq_true, reduceCtorEq, Nat.reduceAdd, Nat.reduceEqDiff, ↓reduceIte, Nat.zero_add, List.append_nil]
  refine hQ _ _ _ _ _ (RG.nil ?_)
  simp only [x_ret, x_tn]
  refine Fin.objs [] [] (.inr rfl) rfl (by first | exact trivial | exact ⟨trivial, trivial⟩ | exact ⟨trivial, trivial, trivial⟩) ?_ ?_ (by simp [objL, rlook]) (by simp [objL, rlook])
  · simp only [mkSt_sl, lk_cons, lkE_cons, lkE_nil, WkSV, WkSV1, WkC, WkC0, rlook, frzEs, objL, ↓reduceIte, reduceCtorEq, ne_eq]
  · simp only [allL, lkE_cons, lkE_nil, WkC, WkC0, WkEnt, TrL, rlook, frzEs, objL, isDRows, Option.some.injEq, ↓reduceIte, and_true, exists_eq_left', ne_eq]

theorem pack_rest_fail_con (rows : List (List C)) (e x : Int) : Con Try.prog 49 [.c (.bp 0 0), I x] [.box [.sl rows, .v (.int .i64 e)]] (.tup []) [.box [.sl [], .v (.int .i64 x)]] := by
  refine C_pack_rest_fail (Nat.le_of_ble_eq_true rfl) (Nat.le_of_ble_eq_true rfl) ?_
  simp only [A_pack_rest_fail, argL, objL, List.length_nil, List.length_cons, Nat.zero_add]
  refine aw_reg 16 (RG.go fun Q hQ => ?_)
  simp only [RX, eff, ev_t, ev_k, lk_cons, lkE_cons, setS_cons, setS_nil, setE_cons, AOp.isCall, setD, setEs, presOf, AOp.needs, SV.one?, SV.pre, SV.cells, idsOf, AOp.rds, AOp.ops, SV.ids, C.ids0, splice, List.take_succ_cons, List.take_zero, List.drop_succ_cons, List.drop_zero, List.length_cons, List.length_nil, List.map_cons, List.map_nil, List.nil_append, List.cons_append, true_and, and_self, Bool.false_eq_true, reduceCtorEq, Nat.reduceAdd, Nat.reduceEqDiff, Nat.reduceLeDiff, ↓reduceIte, Nat.zero_add, Nat.le_refl, List.append_nil, Nat.add_zero]
  refine hQ _ _ _ _ _ (RG.nil ?_)
  refine Fin.objs [] [] (.inl rfl) rfl trivial ?_ ?_ (by simp [objL, rlook]) (by simp [objL, rlook])
  · skip
    simp only [WkSV, TrL]
  · skip
    simp only [allL, lkE_cons, lkE_nil, WkC, WkC0, WkEnt, TrL, rlook, frzEs, objL, isDRows, Option.some.injEq, ↓reduceIte, and_true, exists_eq_left', ne_eq]

theorem pack_Lump_con (l : List Nat) (hb : l.length ≤ 100000000000000) : Con Try.prog 31 [.c (.sl (l.map brow))] [] (.c (.osl 0)) [.arr 5 1 ((num7 l.length ++ l).map brow) false] := by
  have hw : IntKind.u64.wrap ((l.map brow).length : Int) = (l.length : Int) := by rw [w_u64, List.length_map]; omega
  have hl := num7_len l.length (by omega)
  refine C_pack_Lump (Nat.le_of_ble_eq_true rfl) (Nat.le_of_ble_eq_true rfl) ?_
  simp only [A_pack_Lump, argL, objL, List.length_nil, x_seq]
  refine aw_reg 16 (RG.go fun Q hQ => ?_)
  simp only [RX, eff, ev_k, setS_cons, setS_nil, AOp.isCall, setD, setEs, presOf, AOp.needs, idsOf, AOp.rds, List.map_nil, List.nil_append, true_and, Bool.false_eq_true, reduceCtorEq, Nat.reduceAdd, ↓reduceIte]
  refine hQ _ _ _ _ _ (RG.nil ?_)
  simp only [x_seq, x_tn]
  refine aw_reg 160 (RG.go fun Q hQ => ?_)
  simp only [RX, eff, ev_t, lk_cons, lkE_nil, setS_cons, setS_nil, setE_nil, AOp.isCall, setD, setEs, presOf, AOp.needs, SV.one?, SV.pre, SV.cells, idsOf, AOp.rds, AOp.ops, SV.ids, C.ids0, rowsOf, bSRows, List.length_cons, List.length_nil, List.map_cons, List.map_nil, List.nil_append, true_and, and_self, Bool.false_eq_true, reduceCtorEq, Nat.reduceAdd, Nat.reduceEqDiff, ↓reduceIte, Option.bind_some, Nat.zero_add, List.append_nil, hw]
  refine hQ _ _ _ _ _ ?_
  refine RG.callo [] [208] (pack_Put_con [l.length] (by simp) (by simp; omega)) (.mk (tr_cons (tr_view (by simp) rfl (by simp [isDRows, urow, C.isD])) tr_nil) (trivial) (by simp) (by simp) (views1 rfl trivial) (by simp [lkE_cons, lkE_nil]) (by simp only [List.mem_singleton, forall_eq, Ent.pure]; exact drows_brow _) (by simp) (by simp)) ?_
  refine RG.go fun Q hQ => ?_
  simp only [RX, eff, ev_t, lk_cons, lkE_cons, lkE_nil, setS_cons, setS_nil, setE_cons, setE_nil, AOp.isCall, setD, setEs, presOf, AOp.needs, SV.one?, SV.pre, idsOf, AOp.rds, AOp.ops, SV.ids, C.ids0, rowsOf, srcOf, List.drop_zero, List.length_cons, List.length_nil, Option.map_some, List.map_cons, List.map_nil, List.nil_append, List.cons_append, true_and, and_self, Bool.false_eq_true, reduceCtorEq, Nat.reduceAdd, Nat.reduceEqDiff, ↓reduceIte, Nat.zero_add, renSV, renSV1, renC, renC0, rn, renEnt, backUps, List.zip_nil_left, List.zipIdx_cons, List.zipIdx_nil, List.filterMap_cons, List.filterMap_nil, List.append_nil, List.getElem?_nil, Nat.sub_self, Nat.sub_zero, Nat.add_zero]
  have hp : putS [l.length] = num7 l.length := by simp [putS]
  refine ⟨⟨by simp [brow], by simp [hp]; omega⟩, hQ _ _ _ _ _ (RG.nil ?_)⟩
  simp only [x_ret, x_tn]
  refine Fin.objs [] [(0, 256)] (.inr rfl) rfl (by first | exact trivial | exact ⟨trivial, trivial⟩ | exact ⟨trivial, trivial, trivial⟩) ?_ ?_ (by simp [objL, rlook]) (by simp [objL, rlook])
  · simp only [mkSt_sl, lk_cons, lkE_cons, lkE_nil, WkSV, WkSV1, WkC, WkC0, rlook, frzEs, objL, ↓reduceIte, reduceCtorEq, and_true, ne_eq, not_false_eq_true]
  · simp only [allL, lkE_cons, lkE_nil, WkEnt, rlook, frzEs, objL, isDRows, Option.some.injEq, Nat.reduceEqDiff, ↓reduceIte, reduceCtorEq, true_and, and_true, exists_eq_left', ne_eq, true_or]
    exact ⟨by rw [hp, List.map_append], drows_brow _⟩

theorem pack_New_con (rows : List (List C)) (hd : isDRows rows) (h1 : ∀ r ∈ rows, r.length = 1) (hb : rows.length ≤ 140737488355328) : Con Try.prog 15 [.c (.sl rows)] [] (.c (.bp 0 0)) [.box [.sl rows, .v (.int .i64 0)]] := by
  refine C_pack_New (Nat.le_of_ble_eq_true rfl) (Nat.le_of_ble_eq_true rfl) ?_
  simp only [A_pack_New, argL, objL, List.length_nil, x_seq]
  refine aw_reg 16 (RG.go fun Q hQ => ?_)
  simp only [RX, eff, ev_k, setS_cons, setS_nil, AOp.isCall, setD, setEs, presOf, AOp.needs, idsOf, AOp.rds, List.map_nil, List.nil_append, true_and, Bool.false_eq_true, reduceCtorEq, Nat.reduceAdd, ↓reduceIte]
  refine hQ _ _ _ _ _ (RG.nil ?_)
  simp only [x_seq, x_tn]
  refine aw_reg 160 (RG.go fun Q hQ => ?_)
  simp only [RX, eff, ev_t, lk_cons, setS_cons, setS_nil, AOp.isCall, setD, setEs, presOf, AOp.needs, idsOf, AOp.rds, List.map_nil, List.nil_append, true_and, Bool.false_eq_true, reduceCtorEq, Nat.reduceAdd, Nat.reduceEqDiff, ↓reduceIte]
  refine hQ _ _ _ _ _ ?_
  refine RG.callo [] [] (slices_Clone_byte_byte_con rows hd h1 hb) (.mk (tr_cons tr_sl tr_nil) (trivial) (by simp) (by simp) (trivial) (by simp [lkE_nil]) (by simpa [Ent.pure] using hd) (by simp) (by simp)) ?_
  refine RG.go fun Q hQ => ?_
  simp only [RX, eff, ev_t, lk_cons, lkE_cons, lkE_nil, setS_cons, setS_nil, setE_cons, setE_nil, AOp.isCall, setD, setEs, presOf, AOp.needs, SV.pre, SV.cells, idsOf, AOp.rds, AOp.ops, SV.ids, C.ids0, bldFold, splice, List.take_zero, List.drop_succ_cons, List.drop_zero, List.length_cons, List.length_nil, Option.map_some, List.map_cons, List.map_nil, List.nil_append, List.cons_append, true_and, and_self, Bool.false_eq_true, reduceCtorEq, Nat.reduceAdd, Nat.reduceEqDiff, Nat.reduceLeDiff, ↓reduceIte, Nat.zero_add, Nat.le_refl, renSV, renSV1, renC, renC0, rn, renEnt, backUps, List.zip_nil_left, List.zipIdx_cons, List.zipIdx_nil, List.filterMap_nil, List.append_nil, List.getElem?_nil, Nat.sub_self, Nat.sub_zero, Nat.add_zero]
  refine hQ _ _ _ _ _ (RG.nil ?_)
  simp only [x_ret, x_tn]
  refine Fin.objs [176] [(0, 224)] (.inr rfl) rfl (by first | exact trivial | exact ⟨trivial, trivial⟩ | exact ⟨trivial, trivial, trivial⟩) ?_ ?_ (by simp [objL, rlook]) (by simp [objL, rlook])
  · simp only [mkSt_sl, lk_cons, lkE_cons, lkE_nil, WkSV, WkSV1, WkC, WkC0, rlook, frzEs, frzE, setE_cons, objL, ↓reduceIte, reduceCtorEq, and_true, ne_eq, not_false_eq_true]
  · simp only [allL, lkE_cons, lkE_nil, WkC, WkC0, WkEnt, TrL, rlook, frzEs, frzE, setE_cons, objL, isDRows, Option.some.injEq, Nat.reduceEqDiff, ↓reduceIte, and_true, exists_eq_left', ne_eq]
    exact ⟨⟨_, _, rfl⟩, hd⟩

/-- The number that bytes begin with: it, how many bytes it has, the error. -/
def rdN (i acc : Nat) : List Nat → Nat × Nat × Nat
  | [] => (0, 0, 21)
  | c :: r => if i = 9 ∧ 1 < c then (0, 0, 20) else
    if 128 ≤ c then rdN (i + 1) (acc + c % 128 * 128 ^ i) r
    else if 0 < i ∧ c = 0 then (0, 0, 20) else (acc + c % 128 * 128 ^ i, i + 1, 0)

theorem and128 (c : Nat) (h : c < 256) : bitsI .and .u8 c 128 = if 128 ≤ c then 128 else 0 := by
  have h1 : ∀ k : Fin 256, bitsI .and .u8 (k.val : Int) 128 = if 128 ≤ k.val then 128 else 0 := by decide
  exact h1 ⟨c, h⟩

theorem andNot128 (c : Nat) (h : c < 256) : bitsI .andNot .u8 c 128 = ((c % 128 : Nat) : Int) := by
  have h1 : ∀ k : Fin 256, bitsI .andNot .u8 (k.val : Int) 128 = ((k.val % 128 : Nat) : Int) := by decide
  exact h1 ⟨c, h⟩

theorem orNum (i acc c : Nat) (hi : i ≤ 9) (hacc : acc < 128 ^ i) (hc : c < 256) (h9 : i = 9 → c ≤ 1) :
    bitsI .or .u64 acc (IntKind.u64.wrap (IntKind.u64.wrap (bitsI .andNot .u8 c 128) * 2 ^ min (IntKind.i64.wrap (7 * i)).toNat IntKind.u64.bits)) = ((acc + c % 128 * 128 ^ i : Nat) : Int) := by
  have e1 : min (IntKind.i64.wrap (7 * (i : Int))).toNat IntKind.u64.bits = 7 * i := by
    rw [w64 _ (by omega) (by omega)]
    have : IntKind.u64.bits = 64 := rfl
    omega
  have e3 : (128 : Nat) ^ i = 2 ^ (7 * i) := by rw [Nat.pow_mul]
  have hb : c % 128 * 128 ^ i < 9223372036854775808 * 2 := by
    rcases Nat.lt_or_ge i 9 with h | h
    · have h1 : 128 ^ i ≤ 128 ^ 8 := Nat.pow_le_pow_right (by omega) (by omega)
      have h2 : c % 128 * 128 ^ i ≤ 127 * 128 ^ 8 := Nat.mul_le_mul (by omega) h1
      omega
    · have : i = 9 := by omega
      subst this
      have := h9 rfl
      have h2 : c % 128 * 128 ^ 9 ≤ 1 * 128 ^ 9 := Nat.mul_le_mul_right _ (by omega)
      omega
  have ha : acc < 18446744073709551616 := by
    have h1 : 128 ^ i ≤ 128 ^ 9 := Nat.pow_le_pow_right (by omega) hi
    omega
  have e4 : IntKind.u64.wrap (((c % 128 : Nat) : Int)) = ((c % 128 : Nat) : Int) := by rw [w_u64]; omega
  have e5 : (((c % 128 : Nat) : Int)) * 2 ^ (7 * i) = ((c % 128 * 128 ^ i : Nat) : Int) := by rw [e3]; push_cast; rfl
  have e6 : IntKind.u64.wrap ((c % 128 * 128 ^ i : Nat) : Int) = ((c % 128 * 128 ^ i : Nat) : Int) := by rw [w_u64]; omega
  rw [andNot128 c hc, e4, e1, e5, e6]
  show IntKind.u64.wrap ((BitVec.ofInt 64 (acc : Int) ||| BitVec.ofInt 64 ((c % 128 * 128 ^ i : Nat) : Int)).toNat : Int) = _
  have e7 : (BitVec.ofInt 64 (acc : Int) ||| BitVec.ofInt 64 ((c % 128 * 128 ^ i : Nat) : Int)).toNat = acc + c % 128 * 128 ^ i := by
    rw [BitVec.ofInt_natCast, BitVec.ofInt_natCast, BitVec.toNat_or, BitVec.toNat_ofNat, BitVec.toNat_ofNat, Nat.mod_eq_of_lt (by omega), Nat.mod_eq_of_lt (by omega), Nat.or_comm]
    have h := Nat.shiftLeft_add_eq_or_of_lt (b := acc) (i := 7 * i) (by rw [← e3]; exact hacc) (c % 128)
    rw [Nat.shiftLeft_eq, ← e3] at h
    rw [← h, Nat.add_comm]
  rw [e7, w_u64]
  have hs : acc + c % 128 * 128 ^ i < 18446744073709551616 := by
    have h1 : acc + c % 128 * 128 ^ i < (c % 128 + 1) * 128 ^ i := by rw [Nat.add_mul]; omega
    rcases Nat.lt_or_ge i 9 with h | h
    · have h1' : 128 ^ i ≤ 128 ^ 8 := Nat.pow_le_pow_right (by omega) (by omega)
      have h2 : (c % 128 + 1) * 128 ^ i ≤ 128 * 128 ^ 8 := Nat.mul_le_mul (by omega) h1'
      omega
    · have : i = 9 := by omega
      subst this
      have := h9 rfl
      have h2 : (c % 128 + 1) * 128 ^ 9 ≤ 2 * 128 ^ 9 := Nat.mul_le_mul_right _ (by omega)
      omega
  omega

theorem pack_number_con (l : List Nat) (hl : ∀ c ∈ l, c < 256) (hb : l.length ≤ 140737488355328) : Con Try.prog 48 [.c (.sl (l.map brow))] [] (.tup [.c (.v (.int .u64 (rdN 0 0 l).1)), I (rdN 0 0 l).2.1, I (rdN 0 0 l).2.2]) [] := by
  refine C_pack_number (Nat.le_of_ble_eq_true rfl) (Nat.le_of_ble_eq_true rfl) ?_
  simp only [A_pack_number, argL, objL, List.length_nil, x_seq]
  refine aw_reg 16 (RG.go fun Q hQ => ?_)
  simp only [RX, eff, ev_k, setS_cons, setS_nil, AOp.isCall, setD, setEs, presOf, AOp.needs, idsOf, AOp.rds, List.map_nil, List.nil_append, true_and, Bool.false_eq_true, reduceCtorEq, Nat.reduceAdd, Nat.reduceEqDiff, ↓reduceIte]
  refine hQ _ _ _ _ _ (RG.nil ?_)
  simp only [x_seq, x_tn]
  refine aw_reg 160 (RG.go fun Q hQ => ?_)
  simp only [RX, eff, ev_k, setS_cons, setS_nil, AOp.isCall, setD, setEs, presOf, AOp.needs, idsOf, AOp.rds, List.map_nil, List.nil_append, true_and, Bool.false_eq_true, reduceCtorEq, Nat.reduceAdd, Nat.reduceEqDiff, ↓reduceIte]
  refine hQ _ _ _ _ _ (RG.nil ?_)
  simp only [x_seq, x_tn]
  refine aw_reg 320 (RG.go fun Q hQ => ?_)
  simp only [RX, eff, ev_t, ev_k, lk_cons, setS_cons, setS_nil, AOp.isCall, setD, setEs, presOf, AOp.needs, SV.one?, SV.pre, idsOf, AOp.rds, AOp.ops, SV.ids, C.ids0, rowsOf, List.map_nil, List.nil_append, true_and, and_self, Bool.false_eq_true, reduceCtorEq, Nat.reduceAdd, Nat.reduceEqDiff, ↓reduceIte, Option.bind_some, List.append_nil]
  refine hQ _ _ _ _ _ (RG.nil ?_)
  simp only [x_block, x_tn]
  refine aw_loop (X := { p : Nat × Nat // p.1 ≤ l.length ∧ p.1 ≤ 9 ∧ p.2 < 128 ^ p.1 ∧ rdN p.1 p.2 (l.drop p.1) = rdN 0 0 l }) (fun p => mkSt [(5, .c (.v (.int .u64 p.1.2))), (8, .c (.sl (l.map brow))), (9, I l.length), (10, I p.1.1)] []) (fun p => l.length - p.1.1) ⟨(0, 0), by simp⟩ ?_ ?_
  · refine Le.lit [] [] _ _ ?_ ?_ ?_ ?_
    · skip
      simp only [Int.cast_ofNat_Int, allL, lk_cons, lkE_nil, WkSV, WkSV1, WkC, WkC0, rlook, frzEs, Nat.reduceEqDiff, ↓reduceIte, reduceCtorEq, true_and, and_true, ne_eq, not_true_eq_false]
      simp
    · skip
      simp only [allL]
    · simp
    · simp
  rintro ⟨⟨i, acc⟩, hi, hi9, hacc, hrd⟩
  simp only at hi hi9 hacc hrd
  simp only [x_seq]
  refine aw_reg 480 (RG.go fun Q hQ => ?_)
  simp only [RX, eff, ev_t, lk_cons, setS_cons, setS_nil, AOp.isCall, setD, setEs, presOf, AOp.needs, SV.one?, SV.pre, binV, idsOf, AOp.rds, AOp.ops, SV.ids, C.ids0, Option.map_some, List.map_nil, List.nil_append, true_and, and_self, Bool.false_eq_true, Nat.reduceAdd, Nat.reduceEqDiff, ↓reduceIte, List.append_nil]
  refine hQ _ _ _ _ _ (RG.nil ?_)
  simp only [x_seq, x_tn]
  refine aw_cond _ rfl trivial (fun ht => ?_) (fun hf => ?_)
  rotate_left
  · skip
    simp only [x_seq, x_exit, x_tn, x_tx, x_bx, x_lx, ↓reduceIte]
    refine aw_reg 640 (RG.go fun Q hQ => ?_)
    simp only [RX, eff, ev_k, setS_cons, setS_nil, AOp.isCall, setD, setEs, presOf, AOp.needs, idsOf, AOp.rds, List.map_nil, List.nil_append, true_and, Bool.false_eq_true, Nat.reduceAdd, Nat.reduceEqDiff, ↓reduceIte]
    refine hQ _ _ _ _ _ (RG.nil ?_)
    simp only [x_ret, x_tn]
    have hi' : i = l.length := by simp at hf; omega
    refine Fin.scalar (.inr rfl) rfl trivial ?_ ?_
    · rw [hi', List.drop_length] at hrd
      rw [← hrd]; rfl
    · intro s hs
      simp at hs
      rcases hs with rfl | rfl | rfl <;> exact ⟨_, rfl⟩
  have hi' : i < l.length := by simp at ht; omega
  have hr : (List.map brow l)[(i : Int).toNat]?.getD [] = [.v (.int .u8 l[i])] := by simp [hi', brow]
  have hc := hl _ (List.getElem_mem hi')
  rw [List.drop_eq_getElem_cons hi', rdN] at hrd
  generalize l[i] = c at hr hc hrd
  simp only [x_seq, x_block, x_skip, x_tn]
  refine aw_reg 640 (RG.go fun Q hQ => ?_)
  simp only [RX, eff, ev_t, lk_cons, setS_cons, setS_nil, AOp.isCall, setD, setEs, presOf, AOp.needs, SV.one?, SV.pre, idsOf, AOp.rds, AOp.ops, SV.ids, C.ids0, Option.getD_some, List.length_cons, List.length_nil, List.getElem?_cons_zero, List.map_nil, List.nil_append, and_true, true_and, and_self, Bool.false_eq_true, Nat.reduceAdd, Nat.reduceEqDiff, Nat.reduceLT, ↓reduceIte, Nat.zero_add, List.append_nil, C_default, hr]
  refine ⟨by simp; omega, hQ _ _ _ _ _ (RG.nil ?_)⟩
  simp only [x_seq, x_tn]
  refine aw_reg 800 (RG.go fun Q hQ => ?_)
  simp only [RX, eff, ev_t, ev_k, lk_cons, setS_cons, setS_nil, AOp.isCall, setD, setEs, presOf, AOp.needs, SV.one?, SV.pre, gval, binV, idsOf, AOp.rds, AOp.ops, SV.ids, C.ids0, Option.map_some, List.map_nil, List.nil_append, and_true, true_and, and_self, Bool.true_and, Bool.false_eq_true, beq_true, implies_true, imp_self, Bool.if_false_right, Bool.decide_eq_true, gt_iff_lt, Nat.reduceAdd, Nat.reduceEqDiff, ↓reduceIte, List.append_nil]
  refine hQ _ _ _ _ _ (RG.nil ?_)
  simp only [x_tn]
  refine aw_cond _ rfl trivial (fun ht2 => ?_) (fun hf2 => ?_)
  · skip
    simp only [x_seq]
    refine aw_reg 1000 (RG.go fun Q hQ => ?_)
    simp only [RX, eff, ev_k, setS_cons, setS_nil, AOp.isCall, setD, setEs, presOf, AOp.needs, idsOf, AOp.rds, List.map_nil, List.nil_append, true_and, Bool.false_eq_true, Nat.reduceAdd, Nat.reduceEqDiff, ↓reduceIte]
    refine hQ _ _ _ _ _ (RG.nil ?_)
    simp only [x_ret, x_tn, x_tr, x_br, x_lr]
    have hcc : i = 9 ∧ 1 < c := by simp at ht2; omega
    rw [if_pos hcc] at hrd
    refine Fin.scalar (.inr rfl) rfl trivial (by rw [← hrd]; rfl) ?_
    intro s hs
    simp at hs
    rcases hs with rfl | rfl | rfl <;> exact ⟨_, rfl⟩
  have hcc : ¬ (i = 9 ∧ 1 < c) := by simp at hf2; omega
  rw [if_neg hcc] at hrd
  have hor := orNum i acc c hi9 hacc hc (by omega)
  simp only [x_seq, x_skip, x_tn]
  refine aw_reg 1200 (RG.go fun Q hQ => ?_)
  simp only [RX, eff, ev_t, ev_k, lk_cons, setS_cons, setS_nil, AOp.isCall, setD, setEs, presOf, AOp.needs, SV.one?, SV.pre, binV, idsOf, AOp.rds, AOp.ops, SV.ids, C.ids0, Option.map_some, List.map_nil, List.nil_append, true_and, and_self, Bool.false_eq_true, Nat.reduceAdd, Nat.reduceEqDiff, ↓reduceIte, List.append_nil, hor]
  refine ⟨by rw [w64 _ (by omega) (by omega)]; omega, hQ _ _ _ _ _ (RG.nil ?_)⟩
  simp only [x_seq, x_tn]
  refine aw_reg 1400 (RG.go fun Q hQ => ?_)
  simp only [RX, eff, ev_t, ev_k, lk_cons, setS_cons, setS_nil, AOp.isCall, setD, setEs, presOf, AOp.needs, SV.one?, SV.pre, binV, idsOf, AOp.rds, AOp.ops, SV.ids, C.ids0, Option.map_some, List.map_nil, List.nil_append, true_and, and_self, Bool.false_eq_true, Nat.reduceAdd, Nat.reduceEqDiff, ↓reduceIte, List.append_nil]
  refine hQ _ _ _ _ _ (RG.nil ?_)
  simp only [x_tn]
  refine aw_cond _ rfl trivial (fun ht3 => ?_) (fun hf3 => ?_)
  · have hc3 : 128 ≤ c := by have := and128 c hc; rw [this] at ht3; simp at ht3; omega
    rw [if_pos hc3] at hrd
    simp only [x_exit, x_tn, x_tx, x_bx, ↓reduceIte]
    refine aw_reg 1600 (RG.go fun Q hQ => ?_)
    simp only [RX, eff, ev_t, ev_k, lk_cons, setS_cons, setS_nil, AOp.isCall, setD, setEs, presOf, AOp.needs, SV.one?, SV.pre, binV, idsOf, AOp.rds, AOp.ops, SV.ids, C.ids0, Option.map_some, List.map_nil, List.nil_append, true_and, and_self, Bool.false_eq_true, Nat.reduceAdd, Nat.reduceEqDiff, ↓reduceIte, List.append_nil]
    refine hQ _ _ _ _ _ (RG.nil ?_)
    simp only [x_ln]
    refine ⟨⟨(i + 1, acc + c % 128 * 128 ^ i), by simp only; omega, by simp only; omega, ?_, hrd⟩, ?_, by simp only; omega⟩
    · simp only
      have h1 : c % 128 ≤ 127 := by omega
      have h2 := Nat.mul_le_mul_right (128 ^ i) h1
      have h3 : 128 ^ (i + 1) = 128 * 128 ^ i := by rw [Nat.pow_succ, Nat.mul_comm]
      omega
    · refine Le.lit [] [] _ _ ?_ ?_ ?_ ?_
      · skip
        simp only [allL, lk_cons, lkE_nil, WkSV, WkSV1, WkC, WkC0, rlook, frzEs, Nat.reduceEqDiff, ↓reduceIte, true_and, and_true, ne_eq, not_true_eq_false]
        rw [w64 _ (by omega) (by omega)]; rfl
      · skip
        simp only [allL]
      · simp
      · simp
  have hc3 : ¬ 128 ≤ c := by have := and128 c hc; rw [this] at hf3; simp at hf3; omega
  rw [if_neg hc3] at hrd
  simp only [x_seq, x_skip, x_tn]
  refine aw_reg 1600 (RG.go fun Q hQ => ?_)
  simp only [RX, eff, ev_t, ev_k, lk_cons, setS_cons, setS_nil, AOp.isCall, setD, setEs, presOf, AOp.needs, SV.one?, SV.pre, gval, binV, idsOf, AOp.rds, AOp.ops, SV.ids, C.ids0, Option.map_some, List.map_nil, List.nil_append, and_true, true_and, and_self, Bool.true_and, Bool.false_eq_true, beq_true, implies_true, imp_self, Bool.if_false_right, Bool.decide_eq_true, gt_iff_lt, Nat.reduceAdd, Nat.reduceEqDiff, ↓reduceIte, List.append_nil]
  refine hQ _ _ _ _ _ (RG.nil ?_)
  simp only [x_tn]
  refine aw_cond _ rfl trivial (fun ht4 => ?_) (fun hf4 => ?_)
  · have hc4 : 0 < i ∧ c = 0 := by simp at ht4; omega
    rw [if_pos hc4] at hrd
    simp only [x_seq]
    refine aw_reg 1800 (RG.go fun Q hQ => ?_)
    simp only [RX, eff, ev_k, setS_cons, setS_nil, AOp.isCall, setD, setEs, presOf, AOp.needs, idsOf, AOp.rds, List.map_nil, List.nil_append, true_and, Bool.false_eq_true, Nat.reduceAdd, Nat.reduceEqDiff, ↓reduceIte]
    refine hQ _ _ _ _ _ (RG.nil ?_)
    simp only [x_ret, x_tn, x_tr, x_br, x_lr]
    refine Fin.scalar (.inr rfl) rfl trivial (by rw [← hrd]; rfl) ?_
    intro s hs
    simp at hs
    rcases hs with rfl | rfl | rfl <;> exact ⟨_, rfl⟩
  have hc4 : ¬ (0 < i ∧ c = 0) := by simp at hf4; omega
  rw [if_neg hc4] at hrd
  simp only [x_seq, x_skip, x_tn]
  have hwi : IntKind.i64.wrap ((i : Int) + 1) = ((i + 1 : Nat) : Int) := by rw [w64 _ (by omega) (by omega)]; rfl
  refine aw_reg 1800 (RG.go fun Q hQ => ?_)
  simp only [RX, eff, ev_t, ev_k, lk_cons, setS_cons, setS_nil, AOp.isCall, setD, setEs, presOf, AOp.needs, SV.one?, SV.pre, binV, idsOf, AOp.rds, AOp.ops, SV.ids, C.ids0, Option.map_some, List.map_nil, List.nil_append, true_and, and_self, Bool.false_eq_true, Nat.reduceAdd, Nat.reduceEqDiff, ↓reduceIte, List.append_nil, hwi]
  refine hQ _ _ _ _ _ (RG.nil ?_)
  simp only [x_ret, x_tn, x_tr, x_br, x_lr]
  refine Fin.scalar (.inr rfl) rfl trivial (by rw [← hrd]; rfl) ?_
  intro s hs
  simp at hs
  rcases hs with rfl | rfl | rfl <;> exact ⟨_, rfl⟩

theorem rdN_size : ∀ (l : List Nat) (i acc : Nat), (rdN i acc l).2.2 = 0 → (rdN i acc l).2.1 ≤ i + l.length
  | [], i, acc, h => by simp [rdN] at h
  | c :: r, i, acc, h => by
    rw [rdN] at h ⊢
    split at h
    · simp at h
    · rename_i h1
      rw [if_neg h1]
      split at h
      · rename_i h2
        rw [if_pos h2]
        have := rdN_size r (i + 1) _ h
        simp only [List.length_cons]; omega
      · rename_i h2
        rw [if_neg h2]
        split at h
        · simp at h
        · rename_i h3
          rw [if_neg h3]
          simp only [List.length_cons]; omega

theorem sc3 {a b c : Value} : (SV.tup [.c (.v a), .c (.v b), .c (.v c)]).scalar := by
  intro s hs
  simp at hs
  rcases hs with rfl | rfl | rfl <;> exact ⟨_, rfl⟩

/-- A reader: what is left, the error. -/
abbrev Rd (l : List Nat) (e : Nat) : Ent := .box [.sl (l.map brow), .v (.int .i64 e)]

/-- A number of at most so much, off a reader: it, what is left, the error. -/
def numR (most : Nat) (l : List Nat) (e : Nat) : Nat × List Nat × Nat :=
  if e ≠ 0 then (0, l, e) else
  if (rdN 0 0 l).2.2 ≠ 0 then (0, [], (rdN 0 0 l).2.2) else
  if most < (rdN 0 0 l).1 then (0, [], 22) else ((rdN 0 0 l).1, l.drop (rdN 0 0 l).2.1, 0)

theorem pack_Reader_Num_con (l : List Nat) (e most : Nat) (hl : ∀ c ∈ l, c < 256) (hb : l.length ≤ 140737488355328) : Con Try.prog 37 [.c (.bp 0 0), .c (.v (.int .u64 most))] [Rd l e] (.c (.v (.int .u64 (numR most l e).1))) [Rd (numR most l e).2.1 (numR most l e).2.2] := by
  generalize hN : numR most l e = r
  unfold numR at hN
  refine C_pack_Reader_Num (Nat.le_of_ble_eq_true rfl) (Nat.le_of_ble_eq_true rfl) ?_
  simp only [A_pack_Reader_Num, argL, objL, List.length_nil, List.length_cons, Nat.zero_add, x_seq]
  refine aw_reg 16 (RG.go fun Q hQ => ?_)
  simp only [RX, eff, ev_k, setS_cons, setS_nil, AOp.isCall, setD, setEs, presOf, AOp.needs, idsOf, AOp.rds, List.map_nil, List.nil_append, true_and, Bool.false_eq_true, reduceCtorEq, Nat.reduceAdd, Nat.reduceEqDiff, ↓reduceIte]
  refine hQ _ _ _ _ _ (RG.nil ?_)
  simp only [x_seq, x_tn]
  refine aw_reg 160 (RG.go fun Q hQ => ?_)
  simp only [RX, eff, ev_t, ev_k, lk_cons, lkE_cons, setS_cons, setS_nil, AOp.isCall, setD, setEs, presOf, AOp.needs, SV.one?, SV.pre, binV, idsOf, AOp.rds, AOp.ops, SV.ids, C.ids0, List.getElem?_cons_zero, List.getElem?_cons_succ, Option.map_some, List.map_nil, List.nil_append, List.cons_append, true_and, and_self, Bool.false_eq_true, reduceCtorEq, Nat.reduceAdd, Nat.reduceEqDiff, ↓reduceIte, Nat.zero_add, List.append_nil, Nat.add_zero]
  refine hQ _ _ _ _ _ (RG.nil ?_)
  simp only [x_tn]
  refine aw_cond _ rfl trivial (fun ht => ?_) (fun hf => ?_)
  · skip
    simp only [x_seq]
    refine aw_reg 320 (RG.go fun Q hQ => ?_)
    simp only [RX, eff, ev_k, setS_cons, AOp.isCall, setD, setEs, presOf, AOp.needs, idsOf, AOp.rds, List.map_nil, List.nil_append, true_and, Bool.false_eq_true, reduceCtorEq, Nat.reduceAdd, Nat.reduceEqDiff, ↓reduceIte]
    refine hQ _ _ _ _ _ (RG.nil ?_)
    simp only [x_ret, x_tn, x_tr]
    have he : e ≠ 0 := by simp at ht; omega
    rw [if_pos he] at hN
    subst hN
    refine Fin.objs [] [] (.inr rfl) rfl (by first | exact trivial | exact ⟨trivial, trivial⟩ | exact ⟨trivial, trivial, trivial⟩) ?_ ?_ (by simp [objL, rlook]) (by simp [objL, rlook])
    · simp only [Int.cast_ofNat_Int, mkSt_sl, lk_cons, lkE_cons, lkE_nil, WkSV, WkSV1, WkC, WkC0, rlook, frzEs, objL, Nat.reduceEqDiff, ↓reduceIte, reduceCtorEq, ne_eq]
    · simp only [allL, lkE_cons, lkE_nil, WkC, WkC0, WkEnt, TrL, rlook, frzEs, objL, isDRows, Option.some.injEq, ↓reduceIte, and_true, exists_eq_left', ne_eq]
  have he : e = 0 := by simp at hf; omega
  subst he
  rw [if_neg (by simp)] at hN
  simp only [x_seq, x_skip, x_tn]
  refine aw_reg 400 (RG.go fun Q hQ => ?_)
  simp only [RX, eff, ev_t, lk_cons, lkE_cons, setS_cons, setS_nil, AOp.isCall, setD, setEs, presOf, AOp.needs, SV.one?, SV.pre, idsOf, AOp.rds, AOp.ops, SV.ids, C.ids0, List.getElem?_cons_zero, Option.map_some, List.map_nil, List.nil_append, List.cons_append, true_and, and_self, Bool.false_eq_true, reduceCtorEq, Nat.reduceAdd, Nat.reduceEqDiff, ↓reduceIte, List.append_nil, Nat.add_zero, Int.cast_ofNat_Int, Int.reduceBNe]
  refine hQ _ _ _ _ _ ?_
  refine RG.call [] (pack_number_con l hl hb) (tr_cons tr_sl tr_nil) (trivial) (.inl sc3) ?_
  refine RG.go fun Q hQ => ?_
  simp only [RX, eff, ev_t, lk_cons, setS_cons, setS_nil, AOp.isCall, setD, setEs, presOf, AOp.needs, SV.pre, SV.core, idsOf, AOp.rds, AOp.ops, SV.ids, List.getElem?_cons_zero, List.getElem?_cons_succ, Option.map_some, List.map_nil, List.nil_append, true_and, and_self, Bool.false_eq_true, reduceCtorEq, Nat.reduceAdd, Nat.reduceEqDiff, ↓reduceIte, List.append_nil]
  refine hQ _ _ _ _ _ (RG.nil ?_)
  simp only [x_seq, x_block, x_tn]
  refine aw_reg 800 (RG.go fun Q hQ => ?_)
  simp only [RX, eff, ev_t, ev_k, lk_cons, setS_cons, setS_nil, AOp.isCall, setD, setEs, presOf, AOp.needs, SV.one?, SV.pre, binV, idsOf, AOp.rds, AOp.ops, SV.ids, C.ids0, Option.map_some, List.map_nil, List.nil_append, true_and, and_self, Bool.false_eq_true, reduceCtorEq, Nat.reduceAdd, Nat.reduceEqDiff, ↓reduceIte, List.append_nil]
  refine hQ _ _ _ _ _ (RG.nil ?_)
  simp only [x_tn]
  refine aw_cond _ rfl trivial (fun ht => ?_) (fun hf => ?_)
  · have h2 : (rdN 0 0 l).2.2 ≠ 0 := by simp at ht; omega
    rw [if_pos h2] at hN
    subst hN
    simp only [x_seq]
    refine aw_reg 1000 (RG.go fun Q hQ => ?_)
    simp only [RX, eff, ev_t, lk_cons, setS_cons, setS_nil, AOp.isCall, setD, setEs, presOf, AOp.needs, SV.one?, SV.pre, idsOf, AOp.rds, AOp.ops, SV.ids, C.ids0, List.map_nil, List.nil_append, List.cons_append, true_and, and_self, Bool.false_eq_true, reduceCtorEq, Nat.reduceAdd, Nat.reduceEqDiff, ↓reduceIte, List.append_nil, Nat.add_zero]
    refine hQ _ _ _ _ _ ?_
    refine RG.callo [0] [] (pack_rest_fail_con (l.map brow) 0 ((rdN 0 0 l).2.2 : Nat)) (.mk (tr_cons (tr_bp rfl) (tr_cons tr_v tr_nil)) (by simp only [Int.cast_ofNat_Int, TrL, TrC, TrC0, TrEnt, lkE_cons, ↓reduceIte, and_self, exists_eq_left', Option.some.injEq, isDRows]) (by simp) (by simp) (trivial) (by simp [lkE_cons, lkE_nil]) (by simp [Ent.pure]) (by simp) (by simp)) ?_
    refine RG.go fun Q hQ => ?_
    simp only [RX, lkE_cons, lkE_nil, setS_cons, setS_nil, setE_cons, setD, setEs, List.drop_succ_cons, List.drop_zero, List.length_cons, List.length_nil, List.map_cons, List.map_nil, reduceCtorEq, Nat.reduceAdd, Nat.reduceEqDiff, ↓reduceIte, Nat.zero_add, renSV, renC, renC0, renEnt, backUps, List.zip_nil_right, List.zip_cons_cons, List.zipIdx_nil, List.filterMap_nil, List.append_nil, List.range_zero, Nat.sub_self]
    refine hQ _ _ _ _ _ (RG.nil ?_)
    simp only [x_seq, x_tn]
    refine aw_reg 1200 (RG.go fun Q hQ => ?_)
    simp only [RX, eff, ev_k, setS_cons, AOp.isCall, setD, setEs, presOf, AOp.needs, idsOf, AOp.rds, List.map_nil, List.nil_append, true_and, Bool.false_eq_true, reduceCtorEq, Nat.reduceAdd, Nat.reduceEqDiff, ↓reduceIte]
    refine hQ _ _ _ _ _ (RG.nil ?_)
    simp only [x_ret, x_tn, x_tr, x_br]
    refine Fin.objs [] [] (.inr rfl) rfl (by first | exact trivial | exact ⟨trivial, trivial⟩ | exact ⟨trivial, trivial, trivial⟩) ?_ ?_ (by simp [objL, rlook]) (by simp [objL, rlook])
    · simp only [Int.cast_ofNat_Int, mkSt_sl, lk_cons, lkE_cons, lkE_nil, WkSV, WkSV1, WkC, WkC0, rlook, frzEs, objL, Nat.reduceEqDiff, ↓reduceIte, reduceCtorEq, ne_eq]
    · simp only [allL, lkE_cons, lkE_nil, WkC, WkC0, WkEnt, TrL, rlook, frzEs, objL, isDRows, Option.some.injEq, List.map_nil, ↓reduceIte, and_true, exists_eq_left', ne_eq]
  have h2 : (rdN 0 0 l).2.2 = 0 := by simp at hf; omega
  rw [if_neg (by omega)] at hN
  simp only [x_seq]
  refine aw_reg 1000 (RG.go fun Q hQ => ?_)
  simp only [RX, eff, ev_t, lk_cons, setS_cons, setS_nil, AOp.isCall, setD, setEs, presOf, AOp.needs, SV.one?, SV.pre, binV, idsOf, AOp.rds, AOp.ops, SV.ids, C.ids0, Option.map_some, List.map_nil, List.nil_append, true_and, and_self, Bool.false_eq_true, reduceCtorEq, gt_iff_lt, Nat.reduceAdd, Nat.reduceEqDiff, ↓reduceIte, List.append_nil]
  refine hQ _ _ _ _ _ (RG.nil ?_)
  simp only [x_tn]
  refine aw_cond _ rfl trivial (fun ht => ?_) (fun hf => ?_)
  · have h3 : most < (rdN 0 0 l).1 := by simp at ht; omega
    rw [if_pos h3] at hN
    subst hN
    simp only [x_seq]
    refine aw_reg 1200 (RG.go fun Q hQ => ?_)
    simp only [RX, eff, ev_t, lk_cons, setS_cons, setS_nil, AOp.isCall, setD, setEs, presOf, AOp.needs, SV.one?, SV.pre, idsOf, AOp.rds, AOp.ops, SV.ids, C.ids0, List.map_nil, List.nil_append, List.cons_append, true_and, and_self, Bool.false_eq_true, reduceCtorEq, Nat.reduceAdd, Nat.reduceEqDiff, ↓reduceIte, List.append_nil, Nat.add_zero]
    refine hQ _ _ _ _ _ ?_
    refine RG.callo [0] [] (pack_rest_fail_con (l.map brow) 0 22) (.mk (tr_cons (tr_bp rfl) (tr_cons tr_v tr_nil)) (by simp only [Int.cast_ofNat_Int, TrL, TrC, TrC0, TrEnt, lkE_cons, ↓reduceIte, and_self, exists_eq_left', Option.some.injEq, isDRows]) (by simp) (by simp) (trivial) (by simp [lkE_cons, lkE_nil]) (by simp [Ent.pure]) (by simp) (by simp)) ?_
    refine RG.go fun Q hQ => ?_
    simp only [RX, lkE_cons, lkE_nil, setS_cons, setS_nil, setE_cons, setD, setEs, List.drop_succ_cons, List.drop_zero, List.length_cons, List.length_nil, List.map_cons, List.map_nil, reduceCtorEq, Nat.reduceAdd, Nat.reduceEqDiff, ↓reduceIte, Nat.zero_add, renSV, renC, renC0, renEnt, backUps, List.zip_nil_right, List.zip_cons_cons, List.zipIdx_nil, List.filterMap_nil, List.append_nil, List.range_zero, Nat.sub_self]
    refine hQ _ _ _ _ _ (RG.nil ?_)
    simp only [x_seq, x_tn]
    refine aw_reg 1400 (RG.go fun Q hQ => ?_)
    simp only [RX, eff, ev_k, setS_cons, AOp.isCall, setD, setEs, presOf, AOp.needs, idsOf, AOp.rds, List.map_nil, List.nil_append, true_and, Bool.false_eq_true, reduceCtorEq, Nat.reduceAdd, Nat.reduceEqDiff, ↓reduceIte]
    refine hQ _ _ _ _ _ (RG.nil ?_)
    simp only [x_ret, x_tn, x_tr, x_br]
    refine Fin.objs [] [] (.inr rfl) rfl (by first | exact trivial | exact ⟨trivial, trivial⟩ | exact ⟨trivial, trivial, trivial⟩) ?_ ?_ (by simp [objL, rlook]) (by simp [objL, rlook])
    · simp only [Int.cast_ofNat_Int, mkSt_sl, lk_cons, lkE_cons, lkE_nil, WkSV, WkSV1, WkC, WkC0, rlook, frzEs, objL, Nat.reduceEqDiff, ↓reduceIte, reduceCtorEq, ne_eq]
    · simp only [Int.cast_ofNat_Int, allL, lkE_cons, lkE_nil, WkC, WkC0, WkEnt, TrL, rlook, frzEs, objL, isDRows, Option.some.injEq, List.map_nil, ↓reduceIte, and_true, exists_eq_left', ne_eq]
  have h3 : ¬ most < (rdN 0 0 l).1 := by simp at hf; omega
  rw [if_neg h3] at hN
  subst hN
  have hs := rdN_size l 0 0 h2
  simp only [x_seq, x_skip, x_tn, x_bn]
  refine aw_reg 1200 (RG.go fun Q hQ => ?_)
  simp only [RX, eff, Nat.reduceMod, Nat.zero_ne_one, ev_t, lk_cons, lkE_cons, setS_cons, setS_nil, setE_cons, AOp.isCall, setD, setEs, presOf, AOp.needs, SV.one?, SV.pre, SV.cells, idsOf, AOp.rds, AOp.ops, SV.ids, C.ids0, sliceTo, rowsOf, bnd, bnd', Option.getD_none, splice, List.take_zero, List.drop_succ_cons, List.drop_zero, List.length_cons, List.length_nil, List.getElem?_cons_zero, Option.map_some, List.map_cons, List.map_nil, List.nil_append, List.cons_append, true_and, and_self, Bool.false_eq_true, reduceCtorEq, Nat.reduceAdd, Nat.reduceEqDiff, Nat.reduceLeDiff, ↓reduceIte, Nat.zero_add, List.append_nil, Nat.add_zero, Option.toList_some, Option.toList_none, Int.cast_ofNat_Int]
  refine ⟨⟨by omega, by simp; omega, by simp, by simp [brow]⟩, hQ _ _ _ _ _ (RG.nil ?_)⟩
  simp only [x_seq, x_tn]
  refine aw_reg 1400 (RG.go fun Q hQ => ?_)
  simp only [RX, eff, ev_t, lk_cons, setS_cons, setS_nil, AOp.isCall, setD, setEs, presOf, AOp.needs, idsOf, AOp.rds, List.map_nil, List.nil_append, true_and, Bool.false_eq_true, reduceCtorEq, Nat.reduceAdd, Nat.reduceEqDiff, ↓reduceIte]
  refine hQ _ _ _ _ _ (RG.nil ?_)
  simp only [x_ret, x_tn]
  refine Fin.objs [] [] (.inr rfl) rfl (by first | exact trivial | exact ⟨trivial, trivial⟩ | exact ⟨trivial, trivial, trivial⟩) ?_ ?_ (by simp [objL, rlook]) (by simp [objL, rlook])
  · simp only [mkSt_sl, lk_cons, lkE_cons, lkE_nil, WkSV, WkSV1, WkC, WkC0, rlook, frzEs, objL, Nat.reduceEqDiff, ↓reduceIte, reduceCtorEq, ne_eq]
  · simp only [Int.cast_ofNat_Int, allL, lkE_cons, lkE_nil, WkC, WkC0, WkEnt, TrL, rlook, frzEs, objL, isDRows, Option.some.injEq, ↓reduceIte, and_true, exists_eq_left', ne_eq]
    rw [List.map_drop, List.length_map, Int.toNat_natCast, Int.toNat_natCast, List.take_of_length_le (by simp)]

theorem numR_mem {most : Nat} {l : List Nat} {e : Nat} (hl : ∀ c ∈ l, c < 256) : ∀ c ∈ (numR most l e).2.1, c < 256 := by
  unfold numR
  split
  · exact hl
  · split
    · simp
    · split
      · simp
      · intro c hc; exact hl c (List.mem_of_mem_drop hc)

theorem numR_len {most : Nat} {l : List Nat} {e : Nat} : (numR most l e).2.1.length ≤ l.length := by
  unfold numR
  split
  · exact Nat.le_refl _
  · split
    · simp
    · split
      · simp
      · simp

/-- Bytes with their length ahead, at most so many, off a reader: they, what is left, the error. -/
def lumpR (most : Nat) (l : List Nat) (e : Nat) : List Nat × List Nat × Nat :=
  if (numR most l e).2.2 ≠ 0 then ([], (numR most l e).2.1, (numR most l e).2.2) else
  if (numR most l e).2.1.length < (numR most l e).1 then ([], [], 21) else ((numR most l e).2.1.take (numR most l e).1, (numR most l e).2.1.drop (numR most l e).1, 0)

theorem pack_Reader_Lump_con (l : List Nat) (e most : Nat) (hl : ∀ c ∈ l, c < 256) (hb : l.length ≤ 140737488355328) (hm : most < 9223372036854775808) :
    Con Try.prog 38 [.c (.bp 0 0), I most] [Rd l e] (.c (.sl ((lumpR most l e).1.map brow))) [Rd (lumpR most l e).2.1 (lumpR most l e).2.2] := by
  have hw : IntKind.u64.wrap (most : Int) = (most : Int) := by rw [w_u64]; omega
  have hmx : (if (0 : Int) > (most : Int) then (0 : Int) else (most : Int)) = (most : Int) := by split <;> omega
  have hmem := numR_mem (most := most) (e := e) hl
  have hlen := numR_len (most := most) (l := l) (e := e)
  have hnum := pack_Reader_Num_con l e most hl hb
  generalize hN : lumpR most l e = r
  unfold lumpR at hN
  generalize numR most l e = q at hN hmem hlen hnum
  obtain ⟨n, l', e'⟩ := q
  simp only at hN hmem hlen hnum
  have hw2 : IntKind.u64.wrap ((l'.map brow).length : Int) = (l'.length : Int) := by rw [w_u64, List.length_map]; omega
  refine C_pack_Reader_Lump (Nat.le_of_ble_eq_true rfl) (Nat.le_of_ble_eq_true rfl) ?_
  simp only [A_pack_Reader_Lump, argL, objL, List.length_nil, List.length_cons, Nat.zero_add, x_seq]
  refine aw_reg 16 (RG.go fun Q hQ => ?_)
  simp only [RX, eff, ev_k, setS_cons, setS_nil, AOp.isCall, setD, setEs, presOf, AOp.needs, idsOf, AOp.rds, List.map_nil, List.nil_append, true_and, Bool.false_eq_true, reduceCtorEq, Nat.reduceAdd, Nat.reduceEqDiff, ↓reduceIte]
  refine hQ _ _ _ _ _ (RG.nil ?_)
  simp only [x_seq, x_tn]
  refine aw_reg 160 (RG.go fun Q hQ => ?_)
  simp only [RX, eff, ev_t, ev_k, lk_cons, setS_cons, setS_nil, AOp.isCall, setD, setEs, presOf, AOp.needs, SV.one?, SV.pre, idsOf, AOp.rds, AOp.ops, SV.ids, C.ids0, Option.map_some, List.map_cons, List.map_nil, List.nil_append, true_and, and_self, Bool.false_eq_true, reduceCtorEq, gt_iff_lt, Nat.reduceAdd, Nat.reduceEqDiff, ↓reduceIte, List.append_nil, foldMx, hmx, hw]
  refine hQ _ _ _ _ _ ?_
  refine RG.callo [0] [] (hnum) (.mk (tr_cons (tr_bp rfl) (tr_cons tr_v tr_nil)) (by simp only [TrL, TrC, TrC0, TrEnt, lkE_cons, ↓reduceIte, and_self, exists_eq_left', Option.some.injEq, isDRows]) (by simp) (by simp) (trivial) (by simp [lkE_cons, lkE_nil]) (by simp [Ent.pure]) (by simp) (by simp)) ?_
  refine RG.go fun Q hQ => ?_
  simp only [RX, eff, ev_t, lk_cons, lkE_cons, lkE_nil, setS_cons, setS_nil, setE_cons, AOp.isCall, setD, setEs, presOf, AOp.needs, idsOf, AOp.rds, List.drop_succ_cons, List.drop_zero, List.length_cons, List.length_nil, List.map_cons, List.map_nil, List.nil_append, true_and, Bool.false_eq_true, reduceCtorEq, Nat.reduceAdd, Nat.reduceEqDiff, ↓reduceIte, Nat.zero_add, renSV, renSV1, renC, renC0, renEnt, backUps, List.zip_nil_right, List.zip_cons_cons, List.zipIdx_nil, List.filterMap_nil, List.append_nil, List.range_zero, Nat.sub_self]
  refine hQ _ _ _ _ _ (RG.nil ?_)
  simp only [x_seq, x_block, x_tn]
  refine aw_reg 400 (RG.go fun Q hQ => ?_)
  simp only [RX, eff, ev_t, ev_k, lk_cons, lkE_cons, setS_cons, setS_nil, AOp.isCall, setD, setEs, presOf, AOp.needs, SV.one?, SV.pre, binV, idsOf, AOp.rds, AOp.ops, SV.ids, C.ids0, List.getElem?_cons_zero, List.getElem?_cons_succ, Option.map_some, List.map_nil, List.nil_append, List.cons_append, true_and, and_self, Bool.false_eq_true, reduceCtorEq, Nat.reduceAdd, Nat.reduceEqDiff, ↓reduceIte, Nat.zero_add, List.append_nil, Nat.add_zero]
  refine hQ _ _ _ _ _ (RG.nil ?_)
  simp only [x_tn]
  refine aw_cond _ rfl trivial (fun ht => ?_) (fun hf => ?_)
  · have he : e' ≠ 0 := by simp at ht; omega
    rw [if_pos he] at hN
    subst hN
    simp only [x_seq]
    refine aw_reg 600 (RG.go fun Q hQ => ?_)
    simp only [RX, eff, ev_k, setS_cons, AOp.isCall, setD, setEs, presOf, AOp.needs, idsOf, AOp.rds, List.map_nil, List.nil_append, true_and, Bool.false_eq_true, reduceCtorEq, Nat.reduceAdd, Nat.reduceEqDiff, ↓reduceIte]
    refine hQ _ _ _ _ _ (RG.nil ?_)
    simp only [x_ret, x_tn, x_tr, x_br]
    refine Fin.objs [] [] (.inr rfl) rfl (by first | exact trivial | exact ⟨trivial, trivial⟩ | exact ⟨trivial, trivial, trivial⟩) ?_ ?_ (by simp [objL, rlook]) (by simp [objL, rlook])
    · simp only [mkSt_sl, lk_cons, lkE_cons, lkE_nil, WkSV, WkSV1, WkC, WkC0, rlook, frzEs, objL, List.map_nil, Nat.reduceEqDiff, ↓reduceIte, reduceCtorEq, and_true, ne_eq]
    · simp only [allL, lkE_cons, lkE_nil, WkC, WkC0, WkEnt, TrL, rlook, frzEs, objL, isDRows, Option.some.injEq, ↓reduceIte, and_true, exists_eq_left', ne_eq]
  have he : e' = 0 := by simp at hf; omega
  subst he
  rw [if_neg (by simp)] at hN
  simp only [x_seq]
  refine aw_reg 600 (RG.go fun Q hQ => ?_)
  simp only [RX, eff, ev_t, lk_cons, lkE_cons, setS_cons, setS_nil, AOp.isCall, setD, setEs, presOf, AOp.needs, SV.one?, SV.pre, binV, idsOf, AOp.rds, AOp.ops, SV.ids, C.ids0, rowsOf, List.getElem?_cons_zero, Option.map_some, List.map_nil, List.nil_append, List.cons_append, true_and, and_self, Bool.false_eq_true, reduceCtorEq, gt_iff_lt, Nat.reduceAdd, Nat.reduceEqDiff, ↓reduceIte, Option.bind_some, List.append_nil, Nat.add_zero, Int.cast_ofNat_Int, Int.reduceBNe, hw2]
  refine hQ _ _ _ _ _ (RG.nil ?_)
  simp only [x_tn]
  refine aw_cond _ rfl trivial (fun ht => ?_) (fun hf => ?_)
  · have h2 : l'.length < n := by simp at ht; omega
    rw [if_pos h2] at hN
    subst hN
    simp only [x_seq]
    refine aw_reg 800 (RG.go fun Q hQ => ?_)
    simp only [RX, eff, ev_t, lk_cons, setS_cons, setS_nil, AOp.isCall, setD, setEs, presOf, AOp.needs, SV.one?, SV.pre, idsOf, AOp.rds, AOp.ops, SV.ids, C.ids0, List.map_nil, List.nil_append, List.cons_append, true_and, and_self, Bool.false_eq_true, reduceCtorEq, Nat.reduceAdd, Nat.reduceEqDiff, ↓reduceIte, List.append_nil, Nat.add_zero]
    refine hQ _ _ _ _ _ ?_
    refine RG.callo [0] [] (pack_rest_fail_con (l'.map brow) 0 21) (.mk (tr_cons (tr_bp rfl) (tr_cons tr_v tr_nil)) (by simp only [TrL, TrC, TrC0, TrEnt, lkE_cons, ↓reduceIte, and_self, exists_eq_left', Option.some.injEq, isDRows]) (by simp) (by simp) (trivial) (by simp [lkE_cons, lkE_nil]) (by simp [Ent.pure]) (by simp) (by simp)) ?_
    refine RG.go fun Q hQ => ?_
    simp only [RX, lkE_cons, lkE_nil, setS_cons, setS_nil, setE_cons, setD, setEs, List.drop_succ_cons, List.drop_zero, List.length_cons, List.length_nil, List.map_cons, List.map_nil, reduceCtorEq, Nat.reduceAdd, Nat.reduceEqDiff, ↓reduceIte, Nat.zero_add, renSV, renC, renC0, renEnt, backUps, List.zip_nil_right, List.zip_cons_cons, List.zipIdx_nil, List.filterMap_nil, List.append_nil, List.range_zero, Nat.sub_self]
    refine hQ _ _ _ _ _ (RG.nil ?_)
    simp only [x_seq, x_tn]
    refine aw_reg 1000 (RG.go fun Q hQ => ?_)
    simp only [RX, eff, ev_k, setS_cons, AOp.isCall, setD, setEs, presOf, AOp.needs, idsOf, AOp.rds, List.map_nil, List.nil_append, true_and, Bool.false_eq_true, reduceCtorEq, Nat.reduceAdd, Nat.reduceEqDiff, ↓reduceIte]
    refine hQ _ _ _ _ _ (RG.nil ?_)
    simp only [x_ret, x_tn, x_tr, x_br]
    refine Fin.objs [] [] (.inr rfl) rfl (by first | exact trivial | exact ⟨trivial, trivial⟩ | exact ⟨trivial, trivial, trivial⟩) ?_ ?_ (by simp [objL, rlook]) (by simp [objL, rlook])
    · simp only [mkSt_sl, lk_cons, lkE_cons, lkE_nil, WkSV, WkSV1, WkC, WkC0, rlook, frzEs, objL, List.map_nil, Nat.reduceEqDiff, ↓reduceIte, reduceCtorEq, and_true, ne_eq]
    · simp only [Int.cast_ofNat_Int, allL, lkE_cons, lkE_nil, WkC, WkC0, WkEnt, TrL, rlook, frzEs, objL, isDRows, Option.some.injEq, List.map_nil, ↓reduceIte, and_true, exists_eq_left', ne_eq]
  have h2 : ¬ l'.length < n := by simp at hf; omega
  rw [if_neg h2] at hN
  subst hN
  have ht1 : (l'.map brow).take (n : Int).toNat = (l'.take n).map brow := by simp
  have ht2 : ((l'.map brow).take ((l'.map brow).length : Int).toNat).drop (n : Int).toNat = (l'.drop n).map brow := by rw [Int.toNat_natCast, Int.toNat_natCast, List.take_of_length_le (Nat.le_refl _), List.map_drop]
  simp only [x_seq, x_skip, x_tn, x_bn]
  refine aw_reg 800 (RG.go fun Q hQ => ?_)
  simp only [RX, eff, Nat.reduceMod, Nat.zero_ne_one, ev_t, lk_cons, lkE_cons, setS_cons, setS_nil, AOp.isCall, setD, setEs, presOf, AOp.needs, SV.one?, SV.pre, idsOf, AOp.rds, AOp.ops, SV.ids, C.ids0, sliceTo, rowsOf, bnd, bnd', Option.getD_some, List.drop_zero, List.getElem?_cons_zero, Option.map_some, List.map_nil, List.nil_append, List.cons_append, true_and, and_self, Bool.false_eq_true, reduceCtorEq, Nat.reduceAdd, Nat.reduceEqDiff, Int.reduceToNat, ↓reduceIte, List.append_nil, Nat.add_zero, Option.toList_some, Option.toList_none, Int.reduceLE, ht1]
  refine ⟨⟨by omega, by simp; omega, by simp [brow]⟩, hQ _ _ _ _ _ ?_⟩
  refine RG.callo [] [] (slices_Clone_byte_byte_con ((l'.take n).map brow) (drows_brow _) (brow_len _) (by simp; omega)) (.mk (tr_cons tr_sl tr_nil) (trivial) (by simp) (by simp) (trivial) (by simp [lkE_cons, lkE_nil]) (by simp only [List.mem_singleton, forall_eq, Ent.pure]; exact drows_brow _) (by simp) (by simp)) ?_
  refine RG.go fun Q hQ => ?_
  simp only [RX, eff, ev_t, lk_cons, lkE_cons, lkE_nil, setS_cons, setS_nil, setE_cons, setE_nil, AOp.isCall, setD, setEs, presOf, AOp.needs, idsOf, AOp.rds, List.drop_zero, List.length_cons, List.length_nil, List.map_cons, List.map_nil, List.nil_append, true_and, Bool.false_eq_true, reduceCtorEq, Nat.reduceAdd, Nat.reduceEqDiff, ↓reduceIte, Nat.zero_add, renSV, renSV1, renC, renC0, rn, renEnt, backUps, List.zip_nil_left, List.zipIdx_cons, List.zipIdx_nil, List.filterMap_nil, List.append_nil, List.getElem?_nil, Nat.sub_self, Nat.sub_zero, Nat.add_zero]
  refine hQ _ _ _ _ _ (RG.nil ?_)
  simp only [x_seq, x_tn]
  refine aw_reg 1200 (RG.go fun Q hQ => ?_)
  simp only [RX, eff, Nat.reduceMod, Nat.zero_ne_one, ev_t, lk_cons, lkE_cons, setS_cons, setS_nil, setE_cons, AOp.isCall, setD, setEs, presOf, AOp.needs, SV.one?, SV.pre, SV.cells, idsOf, AOp.rds, AOp.ops, SV.ids, C.ids0, sliceTo, rowsOf, bnd, bnd', Option.getD_none, splice, List.take_zero, List.drop_succ_cons, List.drop_zero, List.length_cons, List.length_nil, List.getElem?_cons_zero, Option.map_some, List.map_cons, List.map_nil, List.nil_append, List.cons_append, true_and, and_self, Bool.false_eq_true, reduceCtorEq, Nat.reduceAdd, Nat.reduceEqDiff, Nat.reduceLeDiff, ↓reduceIte, Nat.zero_add, List.append_nil, Nat.add_zero, Option.toList_some, Option.toList_none, ht2]
  refine ⟨⟨by omega, by simp; omega, by simp, by simp [brow]⟩, hQ _ _ _ _ _ (RG.nil ?_)⟩
  simp only [x_seq, x_tn]
  refine aw_reg 1400 (RG.go fun Q hQ => ?_)
  simp only [RX, eff, ev_t, lk_cons, setS_cons, setS_nil, AOp.isCall, setD, setEs, presOf, AOp.needs, idsOf, AOp.rds, List.map_nil, List.nil_append, true_and, Bool.false_eq_true, reduceCtorEq, Nat.reduceAdd, Nat.reduceEqDiff, ↓reduceIte]
  refine hQ _ _ _ _ _ (RG.nil ?_)
  simp only [x_ret, x_tn]
  refine Fin.objs [912] [] (.inr rfl) rfl (by first | exact trivial | exact ⟨trivial, trivial⟩ | exact ⟨trivial, trivial, trivial⟩) ?_ ?_ (by simp [objL, rlook]) (by simp [objL, rlook])
  · simp only [mkSt_sl, lk_cons, lkE_cons, lkE_nil, WkSV, WkSV1, WkC, WkC0, rlook, frzEs, frzE, setE_cons, objL, isDRows, Option.some.injEq, Nat.reduceEqDiff, ↓reduceIte, reduceCtorEq, ne_eq]
    exact ⟨⟨_, _, rfl⟩, drows_brow _⟩
  · simp only [Int.cast_ofNat_Int, allL, lkE_cons, lkE_nil, WkC, WkC0, WkEnt, TrL, rlook, frzEs, frzE, setE_cons, objL, isDRows, Option.some.injEq, ↓reduceIte, reduceCtorEq, and_true, exists_eq_left', ne_eq]

end Go.Abs
namespace Go.Abs
open Go Go.Proofs
set_option maxRecDepth 100000
set_option linter.unusedSimpArgs false

theorem mementoref1_Put_con (l : List Nat) (hb : l.length * 10 ≤ 140737488355328) (hl : ∀ n ∈ l, n < 18446744073709551616) : Con Try.prog 32 [.c (.sl (l.map urow))] [] (.c (.osl 0)) [.arr 5 1 ((putS l).map brow) false] := by
  refine C_mementoref1_Put (Nat.le_of_ble_eq_true rfl) (Nat.le_of_ble_eq_true rfl) ?_
  simp only [A_mementoref1_Put, argL, objL, List.length_nil, x_seq]
  refine aw_reg 16 (RG.go fun Q hQ => ?_)
  simp only [RX, eff, ev_k, setS_cons, setS_nil, AOp.isCall, setD, setEs, presOf, AOp.needs, idsOf, AOp.rds, List.map_nil, List.nil_append, true_and, Bool.false_eq_true, reduceCtorEq, Nat.reduceAdd, ↓reduceIte]
  refine hQ _ _ _ _ _ (RG.nil ?_)
  simp only [x_seq, x_tn]
  refine aw_reg 160 (RG.go fun Q hQ => ?_)
  simp only [RX, eff, ev_k, setS_cons, setS_nil, AOp.isCall, setD, setEs, presOf, AOp.needs, idsOf, AOp.rds, List.map_nil, List.nil_append, true_and, Bool.false_eq_true, reduceCtorEq, Nat.reduceAdd, Nat.reduceEqDiff, ↓reduceIte]
  refine hQ _ _ _ _ _ (RG.nil ?_)
  simp only [x_seq, x_tn]
  refine aw_reg 320 (RG.go fun Q hQ => ?_)
  simp only [RX, eff, ev_k, setS_cons, setS_nil, AOp.isCall, setD, setEs, presOf, AOp.needs, idsOf, AOp.rds, List.map_nil, List.nil_append, true_and, Bool.false_eq_true, reduceCtorEq, Nat.reduceAdd, Nat.reduceEqDiff, ↓reduceIte]
  refine hQ _ _ _ _ _ (RG.nil ?_)
  simp only [x_block, x_tn]
  refine aw_loop (X := { i : Nat // i ≤ l.length }) (fun i => mkSt [(3, .c (.osl 1000)), (0, .c (.sl (l.map urow))), (4, I i.1)] [(1000, .arr 5 1 ((putS (l.take i.1)).map brow) false)]) (fun i => l.length - i.1) ⟨0, Nat.zero_le _⟩ ?_ ?_
  · refine (Le.own 3 1000 5 1 rfl rfl (by decide)).trans (Le.lit [] [] _ _ ?_ ?_ ?_ ?_)
    · skip
      simp only [Int.cast_ofNat_Int, allL, lk_cons, lkE_cons, lkE_nil, WkSV, WkSV1, WkC, WkC0, rlook, frzEs, setE_nil, setS_cons, Nat.reduceEqDiff, ↓reduceIte, reduceCtorEq, and_true, ne_eq, not_false_eq_true]
    · skip
      simp only [allL, lkE_cons, lkE_nil, WkEnt, rlook, frzEs, setE_nil, isDRows, Option.some.injEq, ↓reduceIte, reduceCtorEq, true_and, and_true, exists_eq_left', ne_eq, true_or]
      simp [putS]
    · simp
    · simp
  rintro ⟨i, hi⟩
  simp only [x_seq]
  refine aw_reg 480 (RG.go fun Q hQ => ?_)
  simp only [RX, eff, ev_t, lk_cons, setS_cons, setS_nil, AOp.isCall, setD, setEs, presOf, AOp.needs, SV.one?, SV.pre, binV, idsOf, AOp.rds, AOp.ops, SV.ids, C.ids0, rowsOf, Option.map_some, List.map_nil, List.nil_append, true_and, and_self, Bool.false_eq_true, reduceCtorEq, Nat.reduceAdd, Nat.reduceEqDiff, ↓reduceIte, Option.bind_some, List.append_nil]
  refine hQ _ _ _ _ _ (RG.nil ?_)
  simp only [x_tn]
  refine aw_cond _ rfl trivial (fun ht => ?_) (fun hf => ?_)
  rotate_left
  · skip
    simp only [x_seq, x_exit, x_tn, x_tx, x_bx, x_lx, ↓reduceIte]
    refine aw_reg 640 (RG.go fun Q hQ => ?_)
    simp only [RX, eff, ev_t, lk_cons, setS_cons, setS_nil, AOp.isCall, setD, setEs, presOf, AOp.needs, idsOf, AOp.rds, List.map_nil, List.nil_append, true_and, Bool.false_eq_true, reduceCtorEq, Nat.reduceAdd, Nat.reduceEqDiff, ↓reduceIte]
    refine hQ _ _ _ _ _ (RG.nil ?_)
    simp only [x_ret, x_tn]
    have hi' : i = l.length := by simp at hf; omega
    subst hi'
    refine Fin.objs [] [(0, 1000)] (.inr rfl) rfl trivial ?_ ?_ ?_ ?_
    · skip
      simp only [mkSt_sl, lk_cons, lkE_cons, lkE_nil, WkSV, WkSV1, WkC, WkC0, rlook, frzEs, objL, Nat.reduceEqDiff, ↓reduceIte, reduceCtorEq, and_true, ne_eq, not_false_eq_true]
    · skip
      simp only [allL, lkE_cons, lkE_nil, WkEnt, rlook, frzEs, objL, isDRows, Option.some.injEq, ↓reduceIte, reduceCtorEq, true_and, and_true, exists_eq_left', ne_eq, true_or]
      simp [brow, C.isD]
    · simp [objL]
    · simp
  have hi' : i < l.length := by simp at ht; omega
  have hr : (List.map urow l)[(i : Int).toNat]?.getD [] = [.v (.int .u64 l[i])] := by simp [hi', urow]
  simp only [x_seq, x_block, x_skip, x_tn]
  refine aw_reg 640 (RG.go fun Q hQ => ?_)
  simp only [RX, eff, ev_t, lk_cons, setS_cons, setS_nil, AOp.isCall, setD, setEs, presOf, AOp.needs, SV.one?, SV.pre, idsOf, AOp.rds, AOp.ops, SV.ids, C.ids0, Option.getD_some, List.length_cons, List.length_nil, List.getElem?_cons_zero, List.map_nil, List.nil_append, and_true, true_and, and_self, Bool.false_eq_true, reduceCtorEq, Nat.reduceAdd, Nat.reduceEqDiff, Nat.reduceLT, ↓reduceIte, Nat.zero_add, List.append_nil, C_default, hr]
  refine ⟨by simp; omega, hQ _ _ _ _ _ (RG.nil ?_)⟩
  simp only [x_seq, x_block, x_tn]
  refine aw_loop (X := { p : Nat × List Nat // p.2 ++ num7 p.1 = putS (l.take i) ++ num7 l[i] ∧ p.1 < 18446744073709551616 }) (fun p => mkSt [(3, .c (.osl 1000)), (5, .c (.v (.int .u64 p.1.1))), (0, .c (.sl (l.map urow))), (4, I i)] [(1000, .arr 5 1 (p.1.2.map brow) false)]) (fun p => p.1.1) ⟨(l[i], putS (l.take i)), rfl, hl _ (List.getElem_mem hi')⟩ ?_ ?_
  · refine Le.lit [] [] _ _ ?_ ?_ ?_ ?_
    · skip
      simp only [allL, lk_cons, lkE_cons, lkE_nil, WkSV, WkSV1, WkC, WkC0, rlook, frzEs, Nat.reduceEqDiff, ↓reduceIte, reduceCtorEq, and_true, ne_eq, not_false_eq_true]
    · skip
      simp only [allL, lkE_cons, lkE_nil, WkEnt, rlook, frzEs, isDRows, Option.some.injEq, ↓reduceIte, reduceCtorEq, true_and, and_true, exists_eq_left', ne_eq, true_or]
      simp [brow, C.isD]
    · simp
    · simp
  rintro ⟨⟨n, acc⟩, hp, hn⟩
  simp only [x_seq]
  refine aw_reg 800 (RG.go fun Q hQ => ?_)
  simp only [RX, eff, ev_t, ev_k, lk_cons, setS_cons, setS_nil, AOp.isCall, setD, setEs, presOf, AOp.needs, SV.one?, SV.pre, binV, idsOf, AOp.rds, AOp.ops, SV.ids, C.ids0, Option.map_some, List.map_nil, List.nil_append, true_and, and_self, Bool.false_eq_true, reduceCtorEq, ge_iff_le, Nat.reduceAdd, Nat.reduceEqDiff, ↓reduceIte, List.append_nil]
  refine hQ _ _ _ _ _ (RG.nil ?_)
  simp only [x_tn]
  refine aw_cond _ rfl trivial (fun ht => ?_) (fun hf => ?_)
  · have hn' : 128 ≤ n := by simp at ht; omega
    have hlen : acc.length + (num7 n).length ≤ l.length * 10 := by
      have h0 := putS_len (l.take (i + 1)) fun m hm => hl m (List.mem_of_mem_take hm)
      rw [putS_take l i hi', ← hp] at h0
      simp at h0
      omega
    have hpos := num7_pos n
    simp only [x_seq, x_block, x_skip, x_tn]
    refine aw_reg 1200 (RG.go fun Q hQ => ?_)
    simp only [RX, eff, ev_t, ev_k, lk_cons, lkE_cons, lkE_nil, setS_cons, setS_nil, setE_cons, setE_nil, AOp.isCall, setD, setEs, presOf, AOp.needs, SV.one?, SV.pre, SV.cells, binV, idsOf, AOp.rds, AOp.ops, SV.ids, C.ids0, rowsOf, srcOf, bSRows, List.length_cons, List.length_nil, Option.map_some, List.map_cons, List.map_nil, List.nil_append, List.cons_append, true_and, and_self, Bool.false_eq_true, reduceCtorEq, Nat.reduceAdd, Nat.reduceEqDiff, ↓reduceIte, Nat.zero_add, List.append_nil]
    refine ⟨⟨by simp, by simp; omega⟩, hQ _ _ _ _ _ (RG.nil ?_)⟩
    simp only [x_tn]
    refine aw_reg 1400 (RG.go fun Q hQ => ?_)
    simp only [RX, eff, ev_t, ev_k, lk_cons, setS_cons, setS_nil, AOp.isCall, setD, setEs, presOf, AOp.needs, SV.one?, SV.pre, binV, idsOf, AOp.rds, AOp.ops, SV.ids, C.ids0, Option.map_some, List.map_nil, List.nil_append, true_and, and_self, Bool.false_eq_true, reduceCtorEq, Nat.reduceAdd, Nat.reduceEqDiff, Int.reduceToNat, ↓reduceIte, List.append_nil, Int.reduceLE]
    refine hQ _ _ _ _ _ (RG.nil ?_)
    simp only [x_bn, x_ln]
    refine ⟨⟨(n / 128, acc ++ [n % 128 + 128]), ?_, by simp only; omega⟩, ?_, by simp only; omega⟩
    · have h7 : num7 n = (n % 128 + 128) :: num7 (n / 128) := by rw [num7, if_neg (by omega)]
      rw [← hp, h7]
      simp
    refine Le.lit [] [(1000, 1280)] _ _ ?_ ?_ ?_ ?_
    · skip
      simp only [allL, lk_cons, lkE_cons, lkE_nil, WkSV, WkSV1, WkC, WkC0, rlook, frzEs, Nat.reduceEqDiff, ↓reduceIte, reduceCtorEq, true_and, and_true, ne_eq, not_false_eq_true]
      rw [shr7]
    · skip
      simp only [allL, lkE_cons, lkE_nil, WkEnt, rlook, frzEs, isDRows, Option.some.injEq, Nat.reduceEqDiff, ↓reduceIte, reduceCtorEq, true_and, and_true, exists_eq_left', ne_eq, true_or]
      refine ⟨by simp [or128, brow], drows_brow _⟩
    · simp
    · simp
  have hn' : n < 128 := by simp at hf; omega
  have hlen : acc.length + (num7 n).length ≤ l.length * 10 := by
    have h0 := putS_len (l.take (i + 1)) fun m hm => hl m (List.mem_of_mem_take hm)
    rw [putS_take l i hi', ← hp] at h0
    simp at h0
    omega
  have hpos := num7_pos n
  simp only [x_exit, x_tn, x_tx, x_bx, x_lx, ↓reduceIte]
  refine aw_reg 1200 (RG.go fun Q hQ => ?_)
  simp only [RX, eff, ev_t, lk_cons, lkE_cons, lkE_nil, setS_cons, setS_nil, setE_cons, setE_nil, AOp.isCall, setD, setEs, presOf, AOp.needs, SV.one?, SV.pre, SV.cells, idsOf, AOp.rds, AOp.ops, SV.ids, C.ids0, rowsOf, srcOf, bSRows, List.length_cons, List.length_nil, Option.map_some, List.map_cons, List.map_nil, List.nil_append, List.cons_append, true_and, and_self, Bool.false_eq_true, reduceCtorEq, Nat.reduceAdd, Nat.reduceEqDiff, ↓reduceIte, Nat.zero_add, List.append_nil]
  refine ⟨⟨by simp, by simp; omega⟩, hQ _ _ _ _ _ (RG.nil ?_)⟩
  simp only [x_tn, x_bn]
  refine aw_reg 1400 (RG.go fun Q hQ => ?_)
  simp only [RX, eff, ev_t, ev_k, lk_cons, setS_cons, setS_nil, AOp.isCall, setD, setEs, presOf, AOp.needs, SV.one?, SV.pre, binV, idsOf, AOp.rds, AOp.ops, SV.ids, C.ids0, Option.map_some, List.map_nil, List.nil_append, true_and, and_self, Bool.false_eq_true, reduceCtorEq, Nat.reduceAdd, Nat.reduceEqDiff, ↓reduceIte, List.append_nil]
  refine hQ _ _ _ _ _ (RG.nil ?_)
  simp only [x_ln]
  refine ⟨⟨i + 1, hi'⟩, ?_, by simp; omega⟩
  refine Le.lit [] [(1000, 1264)] _ _ ?_ ?_ ?_ ?_
  · skip
    simp only [allL, lk_cons, lkE_cons, lkE_nil, WkSV, WkSV1, WkC, WkC0, rlook, frzEs, Nat.reduceEqDiff, ↓reduceIte, reduceCtorEq, true_and, and_true, ne_eq, not_false_eq_true]
    rw [w64 _ (by omega) (by omega)]; rfl
  · skip
    simp only [allL, lkE_cons, lkE_nil, WkEnt, rlook, frzEs, isDRows, Option.some.injEq, Nat.reduceEqDiff, ↓reduceIte, reduceCtorEq, true_and, and_true, exists_eq_left', ne_eq, true_or]
    refine ⟨?_, drows_brow _⟩
    rw [putS_take l i hi', ← hp, num7, if_pos hn', u8wrap n hn']
    simp [brow]
  · simp
  · simp

theorem mementoref1_Reader_fail_con (rows : List (List C)) (e x : Int) : Con Try.prog 51 [.c (.bp 0 0), I x] [.box [.sl rows, .v (.int .i64 e)]] (.tup []) [.box [.sl [], .v (.int .i64 x)]] := by
  refine C_mementoref1_Reader_fail (Nat.le_of_ble_eq_true rfl) (Nat.le_of_ble_eq_true rfl) ?_
  simp only [A_mementoref1_Reader_fail, argL, objL, List.length_nil, List.length_cons, Nat.zero_add]
  refine aw_reg 16 (RG.go fun Q hQ => ?_)
  simp only [RX, eff, ev_t, ev_k, lk_cons, lkE_cons, setS_cons, setS_nil, setE_cons, AOp.isCall, setD, setEs, presOf, AOp.needs, SV.one?, SV.pre, SV.cells, idsOf, AOp.rds, AOp.ops, SV.ids, C.ids0, splice, List.take_succ_cons, List.take_zero, List.drop_succ_cons, List.drop_zero, List.length_cons, List.length_nil, List.map_cons, List.map_nil, List.nil_append, List.cons_append, true_and, and_self, Bool.false_eq_true, reduceCtorEq, Nat.reduceAdd, Nat.reduceEqDiff, Nat.reduceLeDiff, ↓reduceIte, Nat.zero_add, Nat.le_refl, List.append_nil, Nat.add_zero]
  refine hQ _ _ _ _ _ (RG.nil ?_)
  refine Fin.objs [] [] (.inl rfl) rfl trivial ?_ ?_ (by simp [objL, rlook]) (by simp [objL, rlook])
  · skip
    simp only [WkSV, TrL]
  · skip
    simp only [allL, lkE_cons, lkE_nil, WkC, WkC0, WkEnt, TrL, rlook, frzEs, objL, isDRows, Option.some.injEq, ↓reduceIte, and_true, exists_eq_left', ne_eq]

theorem mementoref1_Lump_con (l : List Nat) (hb : l.length ≤ 100000000000000) : Con Try.prog 33 [.c (.sl (l.map brow))] [] (.c (.osl 0)) [.arr 5 1 ((num7 l.length ++ l).map brow) false] := by
  have hw : IntKind.u64.wrap ((l.map brow).length : Int) = (l.length : Int) := by rw [w_u64, List.length_map]; omega
  have hl := num7_len l.length (by omega)
  refine C_mementoref1_Lump (Nat.le_of_ble_eq_true rfl) (Nat.le_of_ble_eq_true rfl) ?_
  simp only [A_mementoref1_Lump, argL, objL, List.length_nil, x_seq]
  refine aw_reg 16 (RG.go fun Q hQ => ?_)
  simp only [RX, eff, ev_k, setS_cons, setS_nil, AOp.isCall, setD, setEs, presOf, AOp.needs, idsOf, AOp.rds, List.map_nil, List.nil_append, true_and, Bool.false_eq_true, reduceCtorEq, Nat.reduceAdd, ↓reduceIte]
  refine hQ _ _ _ _ _ (RG.nil ?_)
  simp only [x_seq, x_tn]
  refine aw_reg 160 (RG.go fun Q hQ => ?_)
  simp only [RX, eff, ev_t, lk_cons, lkE_nil, setS_cons, setS_nil, setE_nil, AOp.isCall, setD, setEs, presOf, AOp.needs, SV.one?, SV.pre, SV.cells, idsOf, AOp.rds, AOp.ops, SV.ids, C.ids0, rowsOf, bSRows, List.length_cons, List.length_nil, List.map_cons, List.map_nil, List.nil_append, true_and, and_self, Bool.false_eq_true, reduceCtorEq, Nat.reduceAdd, Nat.reduceEqDiff, ↓reduceIte, Option.bind_some, Nat.zero_add, List.append_nil, hw]
  refine hQ _ _ _ _ _ ?_
  refine RG.callo [] [208] (mementoref1_Put_con [l.length] (by simp) (by simp; omega)) (.mk (tr_cons (tr_view (by simp) rfl (by simp [isDRows, urow, C.isD])) tr_nil) (trivial) (by simp) (by simp) (views1 rfl trivial) (by simp [lkE_cons, lkE_nil]) (by simp only [List.mem_singleton, forall_eq, Ent.pure]; exact drows_brow _) (by simp) (by simp)) ?_
  refine RG.go fun Q hQ => ?_
  simp only [RX, eff, ev_t, lk_cons, lkE_cons, lkE_nil, setS_cons, setS_nil, setE_cons, setE_nil, AOp.isCall, setD, setEs, presOf, AOp.needs, SV.one?, SV.pre, idsOf, AOp.rds, AOp.ops, SV.ids, C.ids0, rowsOf, srcOf, List.drop_zero, List.length_cons, List.length_nil, Option.map_some, List.map_cons, List.map_nil, List.nil_append, List.cons_append, true_and, and_self, Bool.false_eq_true, reduceCtorEq, Nat.reduceAdd, Nat.reduceEqDiff, ↓reduceIte, Nat.zero_add, renSV, renSV1, renC, renC0, rn, renEnt, backUps, List.zip_nil_left, List.zipIdx_cons, List.zipIdx_nil, List.filterMap_cons, List.filterMap_nil, List.append_nil, List.getElem?_nil, Nat.sub_self, Nat.sub_zero, Nat.add_zero]
  have hp : putS [l.length] = num7 l.length := by simp [putS]
  refine ⟨⟨by simp [brow], by simp [hp]; omega⟩, hQ _ _ _ _ _ (RG.nil ?_)⟩
  simp only [x_ret, x_tn]
  refine Fin.objs [] [(0, 256)] (.inr rfl) rfl (by first | exact trivial | exact ⟨trivial, trivial⟩ | exact ⟨trivial, trivial, trivial⟩) ?_ ?_ (by simp [objL, rlook]) (by simp [objL, rlook])
  · simp only [mkSt_sl, lk_cons, lkE_cons, lkE_nil, WkSV, WkSV1, WkC, WkC0, rlook, frzEs, objL, ↓reduceIte, reduceCtorEq, and_true, ne_eq, not_false_eq_true]
  · simp only [allL, lkE_cons, lkE_nil, WkEnt, rlook, frzEs, objL, isDRows, Option.some.injEq, Nat.reduceEqDiff, ↓reduceIte, reduceCtorEq, true_and, and_true, exists_eq_left', ne_eq, true_or]
    exact ⟨by rw [hp, List.map_append], drows_brow _⟩


theorem and127 (c : Nat) (h : c < 256) : bitsI .and .u8 c 127 = ((c % 128 : Nat) : Int) := by
  have h1 : ∀ k : Fin 256, bitsI .and .u8 (k.val : Int) 127 = ((k.val % 128 : Nat) : Int) := by decide
  exact h1 ⟨c, h⟩

theorem mementoref1_Reader_Num_con (l : List Nat) (e most : Nat) (hl : ∀ c ∈ l, c < 256) (hb : l.length ≤ 140737488355328) : Con Try.prog 45 [.c (.bp 0 0), .c (.v (.int .u64 most))] [Rd l e] (.c (.v (.int .u64 (numR most l e).1))) [Rd (numR most l e).2.1 (numR most l e).2.2] := by
  generalize hN : numR most l e = r
  unfold numR at hN
  refine C_mementoref1_Reader_Num (Nat.le_of_ble_eq_true rfl) (Nat.le_of_ble_eq_true rfl) ?_
  simp only [A_mementoref1_Reader_Num, argL, objL, List.length_nil, List.length_cons, Nat.zero_add, x_seq]
  refine aw_reg 16 (RG.go fun Q hQ => ?_)
  simp only [RX, eff, ev_k, setS_cons, setS_nil, AOp.isCall, setD, setEs, presOf, AOp.needs, idsOf, AOp.rds, List.map_nil, List.nil_append, true_and, Bool.false_eq_true, reduceCtorEq, Nat.reduceAdd, Nat.reduceEqDiff, ↓reduceIte]
  refine hQ _ _ _ _ _ (RG.nil ?_)
  simp only [x_seq, x_tn]
  refine aw_reg 160 (RG.go fun Q hQ => ?_)
  simp only [RX, eff, ev_t, ev_k, lk_cons, lkE_cons, setS_cons, setS_nil, AOp.isCall, setD, setEs, presOf, AOp.needs, SV.one?, SV.pre, binV, idsOf, AOp.rds, AOp.ops, SV.ids, C.ids0, List.getElem?_cons_zero, List.getElem?_cons_succ, Option.map_some, List.map_nil, List.nil_append, List.cons_append, true_and, and_self, Bool.false_eq_true, reduceCtorEq, Nat.reduceAdd, Nat.reduceEqDiff, ↓reduceIte, Nat.zero_add, List.append_nil]
  refine hQ _ _ _ _ _ (RG.nil ?_)
  simp only [x_tn]
  refine aw_cond _ rfl trivial (fun ht => ?_) (fun hf => ?_)
  · skip
    simp only [x_seq]
    refine aw_reg 320 (RG.go fun Q hQ => ?_)
    simp only [RX, eff, ev_k, setS_cons, AOp.isCall, setD, setEs, presOf, AOp.needs, idsOf, AOp.rds, List.map_nil, List.nil_append, true_and, Bool.false_eq_true, reduceCtorEq, Nat.reduceAdd, Nat.reduceEqDiff, ↓reduceIte]
    refine hQ _ _ _ _ _ (RG.nil ?_)
    simp only [x_ret, x_tn, x_tr]
    have he : e ≠ 0 := by simp at ht; omega
    rw [if_pos he] at hN
    subst hN
    refine Fin.objs [] [] (.inr rfl) rfl (by first | exact trivial | exact ⟨trivial, trivial⟩ | exact ⟨trivial, trivial, trivial⟩) ?_ ?_ (by simp [objL, rlook]) (by simp [objL, rlook])
    · simp only [Int.cast_ofNat_Int, mkSt_sl, lk_cons, lkE_cons, lkE_nil, WkSV, WkSV1, WkC, WkC0, rlook, frzEs, objL, Nat.reduceEqDiff, ↓reduceIte, reduceCtorEq, ne_eq]
    · simp only [allL, lkE_cons, lkE_nil, WkC, WkC0, WkEnt, TrL, rlook, frzEs, objL, isDRows, Option.some.injEq, ↓reduceIte, and_true, exists_eq_left', ne_eq]
  have he : e = 0 := by simp at hf; omega
  subst he
  rw [if_neg (by simp)] at hN
  simp only [x_seq, x_skip, x_tn]
  refine aw_reg 400 (RG.go fun Q hQ => ?_)
  simp only [RX, eff, ev_k, setS_cons, setS_nil, AOp.isCall, setD, setEs, presOf, AOp.needs, idsOf, AOp.rds, List.map_nil, List.nil_append, true_and, Bool.false_eq_true, reduceCtorEq, Nat.reduceAdd, Nat.reduceEqDiff, ↓reduceIte, Int.cast_ofNat_Int, Int.reduceBNe]
  refine hQ _ _ _ _ _ (RG.nil ?_)
  simp only [x_seq, x_tn]
  refine aw_reg 480 (RG.go fun Q hQ => ?_)
  simp only [RX, eff, ev_k, setS_cons, setS_nil, AOp.isCall, setD, setEs, presOf, AOp.needs, idsOf, AOp.rds, List.map_nil, List.nil_append, true_and, Bool.false_eq_true, reduceCtorEq, Nat.reduceAdd, Nat.reduceEqDiff, ↓reduceIte]
  refine hQ _ _ _ _ _ (RG.nil ?_)
  simp only [x_block, x_tn]
  refine aw_loop (X := { p : Nat × Nat // p.1 ≤ l.length ∧ p.1 ≤ 9 ∧ p.2 < 128 ^ p.1 ∧ rdN p.1 p.2 (l.drop p.1) = rdN 0 0 l }) (fun p => mkSt [(0, .c (.bp 0 0)), (1, .c (.v (.int .u64 most))), (5, .c (.v (.int .u64 p.1.2))), (6, I p.1.1)] [(0, Rd l 0)]) (fun p => l.length - p.1.1) ⟨(0, 0), by simp⟩ ?_ ?_
  · refine Le.lit [] [] _ _ ?_ ?_ (by simp) (by simp [rlook])
    · skip
      simp only [Int.cast_ofNat_Int, allL, lk_cons, lkE_cons, lkE_nil, WkSV, WkSV1, WkC, WkC0, rlook, frzEs, Nat.reduceEqDiff, ↓reduceIte, reduceCtorEq, and_true, ne_eq, not_false_eq_true]
    · skip
      simp only [Int.cast_ofNat_Int, allL, lkE_cons, lkE_nil, WkC, WkC0, WkEnt, TrL, rlook, frzEs, isDRows, Option.some.injEq, ↓reduceIte, and_true, exists_eq_left', ne_eq]
  rintro ⟨⟨i, acc⟩, hi, hi9, hacc, hrd⟩
  simp only at hi hi9 hacc hrd
  simp only [x_seq]
  refine aw_reg 600 (RG.go fun Q hQ => ?_)
  simp only [RX, eff, ev_t, lk_cons, lkE_cons, setS_cons, setS_nil, AOp.isCall, setD, setEs, presOf, AOp.needs, SV.one?, SV.pre, binV, idsOf, AOp.rds, AOp.ops, SV.ids, C.ids0, rowsOf, List.getElem?_cons_zero, Option.map_some, List.map_nil, List.nil_append, List.cons_append, true_and, and_self, Bool.false_eq_true, reduceCtorEq, Nat.reduceAdd, Nat.reduceEqDiff, ↓reduceIte, Option.bind_some, List.append_nil, Nat.add_zero, Int.cast_ofNat_Int]
  refine hQ _ _ _ _ _ (RG.nil ?_)
  simp only [x_tn]
  refine aw_cond _ rfl trivial (fun ht => ?_) (fun hf => ?_)
  rotate_left
  · skip
    simp only [x_seq, x_exit, x_tn, x_tx, x_bx, x_lx, ↓reduceIte]
    have hi' : i = l.length := by simp at hf; omega
    rw [hi', List.drop_length, rdN] at hrd
    rw [← hrd] at hN
    subst hN
    refine aw_reg 800 (RG.go fun Q hQ => ?_)
    simp only [RX, eff, ev_t, lk_cons, setS_cons, setS_nil, AOp.isCall, setD, setEs, presOf, AOp.needs, idsOf, AOp.rds, List.map_nil, List.nil_append, true_and, Bool.false_eq_true, reduceCtorEq, Nat.reduceAdd, Nat.reduceEqDiff, ↓reduceIte]
    refine hQ _ _ _ _ _ ?_
    refine RG.callo [0] [] (mementoref1_Reader_fail_con (l.map brow) 0 21) (.mk (tr_cons (tr_bp rfl) (tr_cons tr_v tr_nil)) (by simp only [Int.cast_ofNat_Int, TrL, TrC, TrC0, TrEnt, lkE_cons, ↓reduceIte, and_self, exists_eq_left', Option.some.injEq, isDRows]) (by simp) (by simp) (trivial) (by simp [lkE_cons, lkE_nil]) (by simp [Ent.pure]) (by simp) (by simp)) ?_
    refine RG.go fun Q hQ => ?_
    simp only [RX, lkE_cons, lkE_nil, setS_cons, setS_nil, setE_cons, setD, setEs, List.drop_succ_cons, List.drop_zero, List.length_cons, List.length_nil, List.map_cons, List.map_nil, reduceCtorEq, Nat.reduceAdd, Nat.reduceEqDiff, ↓reduceIte, Nat.zero_add, renSV, renC, renC0, renEnt, backUps, List.zip_nil_right, List.zip_cons_cons, List.zipIdx_nil, List.filterMap_nil, List.append_nil, List.range_zero, Nat.sub_self]
    refine hQ _ _ _ _ _ (RG.nil ?_)
    simp only [x_seq, x_tn]
    refine aw_reg 1000 (RG.go fun Q hQ => ?_)
    simp only [RX, eff, ev_k, setS_cons, setS_nil, AOp.isCall, setD, setEs, presOf, AOp.needs, idsOf, AOp.rds, List.map_nil, List.nil_append, true_and, Bool.false_eq_true, reduceCtorEq, Nat.reduceAdd, Nat.reduceEqDiff, ↓reduceIte]
    refine hQ _ _ _ _ _ (RG.nil ?_)
    simp only [x_ret, x_tn]
    refine Fin.objs [] [] (.inr rfl) rfl (by first | exact trivial | exact ⟨trivial, trivial⟩ | exact ⟨trivial, trivial, trivial⟩) ?_ ?_ (by simp [objL, rlook]) (by simp [objL, rlook])
    · simp only [Int.cast_ofNat_Int, mkSt_sl, lk_cons, lkE_cons, lkE_nil, WkSV, WkSV1, WkC, WkC0, rlook, frzEs, objL, Nat.reduceEqDiff, ↓reduceIte, reduceCtorEq, ne_eq, not_false_eq_true]
    · simp only [Int.cast_ofNat_Int, allL, lkE_cons, lkE_nil, WkC, WkC0, WkEnt, TrL, rlook, frzEs, objL, isDRows, Option.some.injEq, List.map_nil, ↓reduceIte, reduceCtorEq, and_true, exists_eq_left', ne_eq, not_false_eq_true]
  have hi' : i < l.length := by simp at ht; omega
  have hr : (List.map brow l)[(i : Int).toNat]?.getD [] = [.v (.int .u8 l[i])] := by simp [hi', brow]
  have hc := hl _ (List.getElem_mem hi')
  rw [List.drop_eq_getElem_cons hi', rdN] at hrd
  generalize l[i] = c at hr hc hrd
  simp only [x_seq, x_block, x_skip, x_tn]
  refine aw_reg 800 (RG.go fun Q hQ => ?_)
  simp only [RX, eff, ev_t, lk_cons, lkE_cons, setS_cons, setS_nil, AOp.isCall, setD, setEs, presOf, AOp.needs, SV.one?, SV.pre, idsOf, AOp.rds, AOp.ops, SV.ids, C.ids0, Option.getD_some, List.length_cons, List.length_nil, List.getElem?_cons_zero, Option.map_some, List.map_nil, List.nil_append, List.cons_append, and_true, true_and, and_self, Bool.false_eq_true, reduceCtorEq, Nat.reduceAdd, Nat.reduceEqDiff, Nat.reduceLT, ↓reduceIte, Nat.zero_add, List.append_nil, Nat.add_zero, Int.cast_ofNat_Int, C_default, hr]
  refine ⟨by simp; omega, hQ _ _ _ _ _ (RG.nil ?_)⟩
  simp only [x_seq, x_tn]
  refine aw_reg 1000 (RG.go fun Q hQ => ?_)
  simp only [RX, eff, ev_t, ev_k, lk_cons, setS_cons, setS_nil, AOp.isCall, setD, setEs, presOf, AOp.needs, SV.one?, SV.pre, gval, binV, idsOf, AOp.rds, AOp.ops, SV.ids, C.ids0, Option.map_some, List.map_nil, List.nil_append, and_true, true_and, and_self, Bool.true_and, Bool.false_eq_true, beq_true, implies_true, imp_self, Bool.if_false_right, Bool.decide_eq_true, reduceCtorEq, gt_iff_lt, Nat.reduceAdd, Nat.reduceEqDiff, ↓reduceIte, List.append_nil]
  refine hQ _ _ _ _ _ (RG.nil ?_)
  simp only [x_tn]
  refine aw_cond _ rfl trivial (fun ht2 => ?_) (fun hf2 => ?_)
  · have hcc : i = 9 ∧ 1 < c := by simp at ht2; omega
    rw [if_pos hcc] at hrd
    rw [← hrd] at hN
    subst hN
    simp only [x_seq]
    refine aw_reg 1200 (RG.go fun Q hQ => ?_)
    simp only [RX, eff, ev_t, lk_cons, setS_cons, setS_nil, AOp.isCall, setD, setEs, presOf, AOp.needs, idsOf, AOp.rds, List.map_nil, List.nil_append, true_and, Bool.false_eq_true, reduceCtorEq, Nat.reduceAdd, Nat.reduceEqDiff, ↓reduceIte]
    refine hQ _ _ _ _ _ ?_
    refine RG.callo [0] [] (mementoref1_Reader_fail_con (l.map brow) 0 20) (.mk (tr_cons (tr_bp rfl) (tr_cons tr_v tr_nil)) (by simp only [Int.cast_ofNat_Int, TrL, TrC, TrC0, TrEnt, lkE_cons, ↓reduceIte, and_self, exists_eq_left', Option.some.injEq, isDRows]) (by simp) (by simp) (trivial) (by simp [lkE_cons, lkE_nil]) (by simp [Ent.pure]) (by simp) (by simp)) ?_
    refine RG.go fun Q hQ => ?_
    simp only [RX, lkE_cons, lkE_nil, setS_cons, setS_nil, setE_cons, setD, setEs, List.drop_succ_cons, List.drop_zero, List.length_cons, List.length_nil, List.map_cons, List.map_nil, reduceCtorEq, Nat.reduceAdd, Nat.reduceEqDiff, ↓reduceIte, Nat.zero_add, renSV, renC, renC0, renEnt, backUps, List.zip_nil_right, List.zip_cons_cons, List.zipIdx_nil, List.filterMap_nil, List.append_nil, List.range_zero, Nat.sub_self]
    refine hQ _ _ _ _ _ (RG.nil ?_)
    simp only [x_seq, x_tn]
    refine aw_reg 1400 (RG.go fun Q hQ => ?_)
    simp only [RX, eff, ev_k, setS_cons, setS_nil, AOp.isCall, setD, setEs, presOf, AOp.needs, idsOf, AOp.rds, List.map_nil, List.nil_append, true_and, Bool.false_eq_true, reduceCtorEq, Nat.reduceAdd, Nat.reduceEqDiff, ↓reduceIte]
    refine hQ _ _ _ _ _ (RG.nil ?_)
    simp only [x_ret, x_tn, x_tr, x_br, x_lr]
    refine Fin.objs [] [] (.inr rfl) rfl (by first | exact trivial | exact ⟨trivial, trivial⟩ | exact ⟨trivial, trivial, trivial⟩) ?_ ?_ (by simp [objL, rlook]) (by simp [objL, rlook])
    · simp only [Int.cast_ofNat_Int, mkSt_sl, lk_cons, lkE_cons, lkE_nil, WkSV, WkSV1, WkC, WkC0, rlook, frzEs, objL, Nat.reduceEqDiff, ↓reduceIte, reduceCtorEq, ne_eq, not_false_eq_true]
    · simp only [Int.cast_ofNat_Int, allL, lkE_cons, lkE_nil, WkC, WkC0, WkEnt, TrL, rlook, frzEs, objL, isDRows, Option.some.injEq, List.map_nil, ↓reduceIte, reduceCtorEq, and_true, exists_eq_left', ne_eq, not_false_eq_true]
  have hcc : ¬ (i = 9 ∧ 1 < c) := by simp at hf2; omega
  rw [if_neg hcc] at hrd
  have hor := orNum i acc c hi9 hacc hc (by omega)
  rw [andNot128 c hc] at hor
  have h127 := and127 c hc
  simp only [x_seq, x_skip, x_tn]
  refine aw_reg 1200 (RG.go fun Q hQ => ?_)
  simp only [RX, eff, ev_t, ev_k, lk_cons, setS_cons, setS_nil, AOp.isCall, setD, setEs, presOf, AOp.needs, SV.one?, SV.pre, binV, idsOf, AOp.rds, AOp.ops, SV.ids, C.ids0, Option.map_some, List.map_nil, List.nil_append, true_and, and_self, Bool.false_eq_true, reduceCtorEq, Nat.reduceAdd, Nat.reduceEqDiff, ↓reduceIte, List.append_nil, h127, hor]
  refine ⟨by rw [w64 _ (by omega) (by omega)]; omega, hQ _ _ _ _ _ (RG.nil ?_)⟩
  simp only [x_seq, x_tn]
  refine aw_reg 1400 (RG.go fun Q hQ => ?_)
  simp only [RX, eff, ev_t, ev_k, lk_cons, setS_cons, setS_nil, AOp.isCall, setD, setEs, presOf, AOp.needs, SV.one?, SV.pre, binV, idsOf, AOp.rds, AOp.ops, SV.ids, C.ids0, Option.map_some, List.map_nil, List.nil_append, true_and, and_self, Bool.false_eq_true, reduceCtorEq, Nat.reduceAdd, Nat.reduceEqDiff, ↓reduceIte, List.append_nil]
  refine hQ _ _ _ _ _ (RG.nil ?_)
  simp only [x_tn]
  refine aw_cond _ rfl trivial (fun ht3 => ?_) (fun hf3 => ?_)
  rotate_left
  · have hc3 : 128 ≤ c := by simp at hf3; omega
    rw [if_pos hc3] at hrd
    simp only [x_skip, x_tn, x_bn]
    refine aw_reg 1600 (RG.go fun Q hQ => ?_)
    simp only [RX, eff, ev_t, ev_k, lk_cons, setS_cons, setS_nil, AOp.isCall, setD, setEs, presOf, AOp.needs, SV.one?, SV.pre, binV, idsOf, AOp.rds, AOp.ops, SV.ids, C.ids0, Option.map_some, List.map_nil, List.nil_append, true_and, and_self, Bool.false_eq_true, reduceCtorEq, Nat.reduceAdd, Nat.reduceEqDiff, ↓reduceIte, List.append_nil]
    refine hQ _ _ _ _ _ (RG.nil ?_)
    simp only [x_ln]
    refine ⟨⟨(i + 1, acc + c % 128 * 128 ^ i), by simp only; omega, by simp only; omega, ?_, hrd⟩, ?_, by simp only; omega⟩
    · simp only
      have h1 : c % 128 ≤ 127 := by omega
      have h2 := Nat.mul_le_mul_right (128 ^ i) h1
      have h3 : 128 ^ (i + 1) = 128 * 128 ^ i := by rw [Nat.pow_succ, Nat.mul_comm]
      omega
    · refine Le.lit [] [] _ _ ?_ ?_ (by simp) (by simp [rlook])
      · skip
        simp only [allL, lk_cons, lkE_cons, lkE_nil, WkSV, WkSV1, WkC, WkC0, rlook, frzEs, Nat.reduceEqDiff, ↓reduceIte, reduceCtorEq, true_and, and_true, ne_eq, not_false_eq_true]
        rw [w64 _ (by omega) (by omega)]; rfl
      · skip
        simp only [Int.cast_ofNat_Int, allL, lkE_cons, lkE_nil, WkC, WkC0, WkEnt, TrL, rlook, frzEs, isDRows, Option.some.injEq, ↓reduceIte, and_true, exists_eq_left', ne_eq]
  have hc3 : ¬ 128 ≤ c := by simp at ht3; omega
  rw [if_neg hc3] at hrd
  simp only [x_seq]
  refine aw_reg 1600 (RG.go fun Q hQ => ?_)
  simp only [RX, eff, ev_t, ev_k, lk_cons, setS_cons, setS_nil, AOp.isCall, setD, setEs, presOf, AOp.needs, SV.one?, SV.pre, gval, binV, idsOf, AOp.rds, AOp.ops, SV.ids, C.ids0, Option.map_some, List.map_nil, List.nil_append, and_true, true_and, and_self, Bool.true_and, Bool.false_eq_true, beq_true, implies_true, imp_self, Bool.if_false_right, Bool.decide_eq_true, reduceCtorEq, gt_iff_lt, Nat.reduceAdd, Nat.reduceEqDiff, ↓reduceIte, List.append_nil]
  refine hQ _ _ _ _ _ (RG.nil ?_)
  simp only [x_tn]
  refine aw_cond _ rfl trivial (fun ht4 => ?_) (fun hf4 => ?_)
  · have hc4 : 0 < i ∧ c = 0 := by simp at ht4; omega
    rw [if_pos hc4] at hrd
    rw [← hrd] at hN
    subst hN
    simp only [x_seq]
    refine aw_reg 1800 (RG.go fun Q hQ => ?_)
    simp only [RX, eff, ev_t, lk_cons, setS_cons, setS_nil, AOp.isCall, setD, setEs, presOf, AOp.needs, idsOf, AOp.rds, List.map_nil, List.nil_append, true_and, Bool.false_eq_true, reduceCtorEq, Nat.reduceAdd, Nat.reduceEqDiff, ↓reduceIte]
    refine hQ _ _ _ _ _ ?_
    refine RG.callo [0] [] (mementoref1_Reader_fail_con (l.map brow) 0 20) (.mk (tr_cons (tr_bp rfl) (tr_cons tr_v tr_nil)) (by simp only [Int.cast_ofNat_Int, TrL, TrC, TrC0, TrEnt, lkE_cons, ↓reduceIte, and_self, exists_eq_left', Option.some.injEq, isDRows]) (by simp) (by simp) (trivial) (by simp [lkE_cons, lkE_nil]) (by simp [Ent.pure]) (by simp) (by simp)) ?_
    refine RG.go fun Q hQ => ?_
    simp only [RX, lkE_cons, lkE_nil, setS_cons, setS_nil, setE_cons, setD, setEs, List.drop_succ_cons, List.drop_zero, List.length_cons, List.length_nil, List.map_cons, List.map_nil, reduceCtorEq, Nat.reduceAdd, Nat.reduceEqDiff, ↓reduceIte, Nat.zero_add, renSV, renC, renC0, renEnt, backUps, List.zip_nil_right, List.zip_cons_cons, List.zipIdx_nil, List.filterMap_nil, List.append_nil, List.range_zero, Nat.sub_self]
    refine hQ _ _ _ _ _ (RG.nil ?_)
    simp only [x_seq, x_tn]
    refine aw_reg 2000 (RG.go fun Q hQ => ?_)
    simp only [RX, eff, ev_k, setS_cons, setS_nil, AOp.isCall, setD, setEs, presOf, AOp.needs, idsOf, AOp.rds, List.map_nil, List.nil_append, true_and, Bool.false_eq_true, reduceCtorEq, Nat.reduceAdd, Nat.reduceEqDiff, ↓reduceIte]
    refine hQ _ _ _ _ _ (RG.nil ?_)
    simp only [x_ret, x_tn, x_tr, x_br, x_lr]
    refine Fin.objs [] [] (.inr rfl) rfl (by first | exact trivial | exact ⟨trivial, trivial⟩ | exact ⟨trivial, trivial, trivial⟩) ?_ ?_ (by simp [objL, rlook]) (by simp [objL, rlook])
    · simp only [Int.cast_ofNat_Int, mkSt_sl, lk_cons, lkE_cons, lkE_nil, WkSV, WkSV1, WkC, WkC0, rlook, frzEs, objL, Nat.reduceEqDiff, ↓reduceIte, reduceCtorEq, ne_eq, not_false_eq_true]
    · simp only [Int.cast_ofNat_Int, allL, lkE_cons, lkE_nil, WkC, WkC0, WkEnt, TrL, rlook, frzEs, objL, isDRows, Option.some.injEq, List.map_nil, ↓reduceIte, reduceCtorEq, and_true, exists_eq_left', ne_eq, not_false_eq_true]
  have hc4 : ¬ (0 < i ∧ c = 0) := by simp at hf4; omega
  rw [if_neg hc4] at hrd
  rw [← hrd] at hN
  simp only [ne_eq, not_true_eq_false, if_false] at hN
  simp only [x_seq, x_skip, x_tn]
  refine aw_reg 1800 (RG.go fun Q hQ => ?_)
  simp only [RX, eff, ev_t, lk_cons, setS_cons, setS_nil, AOp.isCall, setD, setEs, presOf, AOp.needs, SV.one?, SV.pre, binV, idsOf, AOp.rds, AOp.ops, SV.ids, C.ids0, Option.map_some, List.map_nil, List.nil_append, true_and, and_self, Bool.false_eq_true, reduceCtorEq, gt_iff_lt, Nat.reduceAdd, Nat.reduceEqDiff, ↓reduceIte, List.append_nil]
  refine hQ _ _ _ _ _ (RG.nil ?_)
  simp only [x_tn]
  refine aw_cond _ rfl trivial (fun ht5 => ?_) (fun hf5 => ?_)
  · have hm : most < acc + c % 128 * 128 ^ i := by simp only [decide_eq_true_eq] at ht5; omega
    rw [if_pos hm] at hN
    subst hN
    simp only [x_seq]
    refine aw_reg 2000 (RG.go fun Q hQ => ?_)
    simp only [RX, eff, ev_t, lk_cons, setS_cons, setS_nil, AOp.isCall, setD, setEs, presOf, AOp.needs, idsOf, AOp.rds, List.map_nil, List.nil_append, true_and, Bool.false_eq_true, reduceCtorEq, Nat.reduceAdd, Nat.reduceEqDiff, ↓reduceIte]
    refine hQ _ _ _ _ _ ?_
    refine RG.callo [0] [] (mementoref1_Reader_fail_con (l.map brow) 0 22) (.mk (tr_cons (tr_bp rfl) (tr_cons tr_v tr_nil)) (by simp only [Int.cast_ofNat_Int, TrL, TrC, TrC0, TrEnt, lkE_cons, ↓reduceIte, and_self, exists_eq_left', Option.some.injEq, isDRows]) (by simp) (by simp) (trivial) (by simp [lkE_cons, lkE_nil]) (by simp [Ent.pure]) (by simp) (by simp)) ?_
    refine RG.go fun Q hQ => ?_
    simp only [RX, lkE_cons, lkE_nil, setS_cons, setS_nil, setE_cons, setD, setEs, List.drop_succ_cons, List.drop_zero, List.length_cons, List.length_nil, List.map_cons, List.map_nil, reduceCtorEq, Nat.reduceAdd, Nat.reduceEqDiff, ↓reduceIte, Nat.zero_add, renSV, renC, renC0, renEnt, backUps, List.zip_nil_right, List.zip_cons_cons, List.zipIdx_nil, List.filterMap_nil, List.append_nil, List.range_zero, Nat.sub_self]
    refine hQ _ _ _ _ _ (RG.nil ?_)
    simp only [x_seq, x_tn]
    refine aw_reg 2200 (RG.go fun Q hQ => ?_)
    simp only [RX, eff, ev_k, setS_cons, setS_nil, AOp.isCall, setD, setEs, presOf, AOp.needs, idsOf, AOp.rds, List.map_nil, List.nil_append, true_and, Bool.false_eq_true, reduceCtorEq, Nat.reduceAdd, Nat.reduceEqDiff, ↓reduceIte]
    refine hQ _ _ _ _ _ (RG.nil ?_)
    simp only [x_ret, x_tn, x_tr, x_br, x_lr]
    refine Fin.objs [] [] (.inr rfl) rfl (by first | exact trivial | exact ⟨trivial, trivial⟩ | exact ⟨trivial, trivial, trivial⟩) ?_ ?_ (by simp [objL, rlook]) (by simp [objL, rlook])
    · simp only [Int.cast_ofNat_Int, mkSt_sl, lk_cons, lkE_cons, lkE_nil, WkSV, WkSV1, WkC, WkC0, rlook, frzEs, objL, Nat.reduceEqDiff, ↓reduceIte, reduceCtorEq, ne_eq]
    · simp only [Int.cast_ofNat_Int, allL, lkE_cons, lkE_nil, WkC, WkC0, WkEnt, TrL, rlook, frzEs, objL, isDRows, Option.some.injEq, List.map_nil, ↓reduceIte, and_true, exists_eq_left', ne_eq]
  have hm : ¬ most < acc + c % 128 * 128 ^ i := by simp only [decide_eq_false_iff_not] at hf5; omega
  rw [if_neg hm] at hN
  subst hN
  have hwi : IntKind.i64.wrap ((i : Int) + 1) = ((i + 1 : Nat) : Int) := by rw [w64 _ (by omega) (by omega)]; rfl
  have hd : ((l.map brow).take ((l.map brow).length : Int).toNat).drop ((i + 1 : Nat) : Int).toNat = (l.drop (i + 1)).map brow := by rw [Int.toNat_natCast, Int.toNat_natCast, List.take_of_length_le (Nat.le_refl _), List.map_drop]
  simp only [x_seq, x_skip, x_tn]
  refine aw_reg 2000 (RG.go fun Q hQ => ?_)
  simp only [RX, eff, Nat.reduceMod, Nat.zero_ne_one, ev_t, ev_k, lk_cons, lkE_cons, setS_cons, setS_nil, setE_cons, AOp.isCall, setD, setEs, presOf, AOp.needs, SV.one?, SV.pre, SV.cells, binV, idsOf, AOp.rds, AOp.ops, SV.ids, C.ids0, sliceTo, rowsOf, bnd, bnd', Option.getD_none, splice, List.take_zero, List.drop_succ_cons, List.drop_zero, List.length_cons, List.length_nil, List.getElem?_cons_zero, Option.map_some, List.map_cons, List.map_nil, List.nil_append, List.cons_append, true_and, and_self, Bool.false_eq_true, reduceCtorEq, Nat.reduceAdd, Nat.reduceEqDiff, Nat.reduceLeDiff, ↓reduceIte, Nat.zero_add, List.append_nil, Nat.add_zero, Option.toList_some, Option.toList_none, Int.cast_ofNat_Int, hwi, hd]
  refine ⟨⟨by omega, by simp; omega, by simp, brow_len _⟩, hQ _ _ _ _ _ (RG.nil ?_)⟩
  simp only [x_seq, x_tn]
  refine aw_reg 2200 (RG.go fun Q hQ => ?_)
  simp only [RX, eff, ev_t, lk_cons, setS_cons, setS_nil, AOp.isCall, setD, setEs, presOf, AOp.needs, idsOf, AOp.rds, List.map_nil, List.nil_append, true_and, Bool.false_eq_true, reduceCtorEq, Nat.reduceAdd, Nat.reduceEqDiff, ↓reduceIte]
  refine hQ _ _ _ _ _ (RG.nil ?_)
  simp only [x_ret, x_tn, x_tr, x_br, x_lr]
  refine Fin.objs [] [] (.inr rfl) rfl (by first | exact trivial | exact ⟨trivial, trivial⟩ | exact ⟨trivial, trivial, trivial⟩) ?_ ?_ (by simp [objL, rlook]) (by simp [objL, rlook])
  · simp only [mkSt_sl, lk_cons, lkE_cons, lkE_nil, WkSV, WkSV1, WkC, WkC0, rlook, frzEs, objL, Nat.reduceEqDiff, ↓reduceIte, reduceCtorEq, ne_eq]
  · simp only [Int.cast_ofNat_Int, allL, lkE_cons, lkE_nil, WkC, WkC0, WkEnt, TrL, rlook, frzEs, objL, isDRows, Option.some.injEq, ↓reduceIte, and_true, exists_eq_left', ne_eq]

theorem mementoref1_Reader_Lump_con (l : List Nat) (e most : Nat) (hl : ∀ c ∈ l, c < 256) (hb : l.length ≤ 140737488355328) (hm : most < 9223372036854775808) :
    Con Try.prog 46 [.c (.bp 0 0), I most] [Rd l e] (.c (.sl ((lumpR most l e).1.map brow))) [Rd (lumpR most l e).2.1 (lumpR most l e).2.2] := by
  have hw : IntKind.u64.wrap (most : Int) = (most : Int) := by rw [w_u64]; omega
  have hmx : (if (0 : Int) > (most : Int) then (0 : Int) else (most : Int)) = (most : Int) := by split <;> omega
  have hlen := numR_len (most := most) (l := l) (e := e)
  have hnum := mementoref1_Reader_Num_con l e most hl hb
  generalize hN : lumpR most l e = r
  unfold lumpR at hN
  generalize numR most l e = q at hN hlen hnum
  obtain ⟨n, l', e'⟩ := q
  simp only at hN hlen hnum
  have hw2 : IntKind.u64.wrap ((l'.map brow).length : Int) = (l'.length : Int) := by rw [w_u64, List.length_map]; omega
  refine C_mementoref1_Reader_Lump (Nat.le_of_ble_eq_true rfl) (Nat.le_of_ble_eq_true rfl) ?_
  simp only [A_mementoref1_Reader_Lump, argL, objL, List.length_nil, List.length_cons, Nat.zero_add, x_seq]
  refine aw_reg 16 (RG.go fun Q hQ => ?_)
  simp only [RX, eff, ev_k, setS_cons, setS_nil, AOp.isCall, setD, setEs, presOf, AOp.needs, idsOf, AOp.rds, List.map_nil, List.nil_append, true_and, Bool.false_eq_true, reduceCtorEq, Nat.reduceAdd, Nat.reduceEqDiff, ↓reduceIte]
  refine hQ _ _ _ _ _ (RG.nil ?_)
  simp only [x_seq, x_tn]
  refine aw_reg 160 (RG.go fun Q hQ => ?_)
  simp only [RX, eff, ev_t, ev_k, lk_cons, setS_cons, setS_nil, AOp.isCall, setD, setEs, presOf, AOp.needs, SV.one?, SV.pre, idsOf, AOp.rds, AOp.ops, SV.ids, C.ids0, Option.map_some, List.map_cons, List.map_nil, List.nil_append, true_and, and_self, Bool.false_eq_true, reduceCtorEq, gt_iff_lt, Nat.reduceAdd, Nat.reduceEqDiff, ↓reduceIte, List.append_nil, foldMx, hmx, hw]
  refine hQ _ _ _ _ _ ?_
  refine RG.callo [0] [] (hnum) (.mk (tr_cons (tr_bp rfl) (tr_cons tr_v tr_nil)) (by simp only [TrL, TrC, TrC0, TrEnt, lkE_cons, ↓reduceIte, and_self, exists_eq_left', Option.some.injEq, isDRows]) (by simp) (by simp) (trivial) (by simp [lkE_cons, lkE_nil]) (by simp [Ent.pure]) (by simp) (by simp)) ?_
  refine RG.go fun Q hQ => ?_
  simp only [RX, eff, ev_t, lk_cons, lkE_cons, lkE_nil, setS_cons, setS_nil, setE_cons, AOp.isCall, setD, setEs, presOf, AOp.needs, idsOf, AOp.rds, List.drop_succ_cons, List.drop_zero, List.length_cons, List.length_nil, List.map_cons, List.map_nil, List.nil_append, true_and, Bool.false_eq_true, reduceCtorEq, Nat.reduceAdd, Nat.reduceEqDiff, ↓reduceIte, Nat.zero_add, renSV, renSV1, renC, renC0, renEnt, backUps, List.zip_nil_right, List.zip_cons_cons, List.zipIdx_nil, List.filterMap_nil, List.append_nil, List.range_zero, Nat.sub_self]
  refine hQ _ _ _ _ _ (RG.nil ?_)
  simp only [x_seq, x_tn]
  refine aw_reg 400 (RG.go fun Q hQ => ?_)
  simp only [RX, eff, ev_t, ev_k, lk_cons, lkE_cons, setS_cons, setS_nil, AOp.isCall, setD, setEs, presOf, AOp.needs, SV.one?, SV.pre, binV, idsOf, AOp.rds, AOp.ops, SV.ids, C.ids0, List.getElem?_cons_zero, List.getElem?_cons_succ, Option.map_some, List.map_nil, List.nil_append, List.cons_append, true_and, and_self, Bool.false_eq_true, reduceCtorEq, Nat.reduceAdd, Nat.reduceEqDiff, ↓reduceIte, Nat.zero_add, List.append_nil]
  refine hQ _ _ _ _ _ (RG.nil ?_)
  simp only [x_tn]
  refine aw_cond _ rfl trivial (fun ht => ?_) (fun hf => ?_)
  · have he : e' ≠ 0 := by simp at ht; omega
    rw [if_pos he] at hN
    subst hN
    simp only [x_seq]
    refine aw_reg 600 (RG.go fun Q hQ => ?_)
    simp only [RX, eff, ev_k, setS_cons, AOp.isCall, setD, setEs, presOf, AOp.needs, idsOf, AOp.rds, List.map_nil, List.nil_append, true_and, Bool.false_eq_true, reduceCtorEq, Nat.reduceAdd, Nat.reduceEqDiff, ↓reduceIte]
    refine hQ _ _ _ _ _ (RG.nil ?_)
    simp only [x_ret, x_tn, x_tr]
    refine Fin.objs [] [] (.inr rfl) rfl (by first | exact trivial | exact ⟨trivial, trivial⟩ | exact ⟨trivial, trivial, trivial⟩) ?_ ?_ (by simp [objL, rlook]) (by simp [objL, rlook])
    · simp only [mkSt_sl, lk_cons, lkE_cons, lkE_nil, WkSV, WkSV1, WkC, WkC0, rlook, frzEs, objL, List.map_nil, Nat.reduceEqDiff, ↓reduceIte, reduceCtorEq, and_true, ne_eq]
    · simp only [allL, lkE_cons, lkE_nil, WkC, WkC0, WkEnt, TrL, rlook, frzEs, objL, isDRows, Option.some.injEq, ↓reduceIte, and_true, exists_eq_left', ne_eq]
  have he : e' = 0 := by simp at hf; omega
  subst he
  rw [if_neg (by simp)] at hN
  simp only [x_seq, x_skip, x_tn]
  refine aw_reg 600 (RG.go fun Q hQ => ?_)
  simp only [RX, eff, ev_t, lk_cons, lkE_cons, setS_cons, setS_nil, AOp.isCall, setD, setEs, presOf, AOp.needs, SV.one?, SV.pre, binV, idsOf, AOp.rds, AOp.ops, SV.ids, C.ids0, rowsOf, List.getElem?_cons_zero, Option.map_some, List.map_nil, List.nil_append, List.cons_append, true_and, and_self, Bool.false_eq_true, reduceCtorEq, gt_iff_lt, Nat.reduceAdd, Nat.reduceEqDiff, ↓reduceIte, Option.bind_some, List.append_nil, Nat.add_zero, Int.cast_ofNat_Int, Int.reduceBNe, hw2]
  refine hQ _ _ _ _ _ (RG.nil ?_)
  simp only [x_tn]
  refine aw_cond _ rfl trivial (fun ht => ?_) (fun hf => ?_)
  · have h2 : l'.length < n := by simp at ht; omega
    rw [if_pos h2] at hN
    subst hN
    simp only [x_seq]
    refine aw_reg 800 (RG.go fun Q hQ => ?_)
    simp only [RX, eff, ev_t, lk_cons, setS_cons, setS_nil, AOp.isCall, setD, setEs, presOf, AOp.needs, idsOf, AOp.rds, List.map_nil, List.nil_append, true_and, Bool.false_eq_true, reduceCtorEq, Nat.reduceAdd, Nat.reduceEqDiff, ↓reduceIte]
    refine hQ _ _ _ _ _ ?_
    refine RG.callo [0] [] (mementoref1_Reader_fail_con (l'.map brow) 0 21) (.mk (tr_cons (tr_bp rfl) (tr_cons tr_v tr_nil)) (by simp only [TrL, TrC, TrC0, TrEnt, lkE_cons, ↓reduceIte, and_self, exists_eq_left', Option.some.injEq, isDRows]) (by simp) (by simp) (trivial) (by simp [lkE_cons, lkE_nil]) (by simp [Ent.pure]) (by simp) (by simp)) ?_
    refine RG.go fun Q hQ => ?_
    simp only [RX, lkE_cons, lkE_nil, setS_cons, setS_nil, setE_cons, setD, setEs, List.drop_succ_cons, List.drop_zero, List.length_cons, List.length_nil, List.map_cons, List.map_nil, reduceCtorEq, Nat.reduceAdd, Nat.reduceEqDiff, ↓reduceIte, Nat.zero_add, renSV, renC, renC0, renEnt, backUps, List.zip_nil_right, List.zip_cons_cons, List.zipIdx_nil, List.filterMap_nil, List.append_nil, List.range_zero, Nat.sub_self]
    refine hQ _ _ _ _ _ (RG.nil ?_)
    simp only [x_seq, x_tn]
    refine aw_reg 1000 (RG.go fun Q hQ => ?_)
    simp only [RX, eff, ev_k, setS_cons, AOp.isCall, setD, setEs, presOf, AOp.needs, idsOf, AOp.rds, List.map_nil, List.nil_append, true_and, Bool.false_eq_true, reduceCtorEq, Nat.reduceAdd, Nat.reduceEqDiff, ↓reduceIte]
    refine hQ _ _ _ _ _ (RG.nil ?_)
    simp only [x_ret, x_tn, x_tr]
    refine Fin.objs [] [] (.inr rfl) rfl (by first | exact trivial | exact ⟨trivial, trivial⟩ | exact ⟨trivial, trivial, trivial⟩) ?_ ?_ (by simp [objL, rlook]) (by simp [objL, rlook])
    · simp only [mkSt_sl, lk_cons, lkE_cons, lkE_nil, WkSV, WkSV1, WkC, WkC0, rlook, frzEs, objL, List.map_nil, Nat.reduceEqDiff, ↓reduceIte, reduceCtorEq, and_true, ne_eq]
    · simp only [Int.cast_ofNat_Int, allL, lkE_cons, lkE_nil, WkC, WkC0, WkEnt, TrL, rlook, frzEs, objL, isDRows, Option.some.injEq, List.map_nil, ↓reduceIte, and_true, exists_eq_left', ne_eq]
  have h2 : ¬ l'.length < n := by simp at hf; omega
  rw [if_neg h2] at hN
  subst hN
  have ht1 : (l'.map brow).take (n : Int).toNat = (l'.take n).map brow := by simp
  have ht2 : ((l'.map brow).take ((l'.map brow).length : Int).toNat).drop (n : Int).toNat = (l'.drop n).map brow := by rw [Int.toNat_natCast, Int.toNat_natCast, List.take_of_length_le (Nat.le_refl _), List.map_drop]
  simp only [x_seq, x_skip, x_tn]
  refine aw_reg 800 (RG.go fun Q hQ => ?_)
  simp only [RX, eff, Nat.reduceMod, Nat.zero_ne_one, ev_t, lk_cons, lkE_cons, setS_cons, setS_nil, AOp.isCall, setD, setEs, presOf, AOp.needs, SV.one?, SV.pre, idsOf, AOp.rds, AOp.ops, SV.ids, C.ids0, sliceTo, rowsOf, bnd, bnd', Option.getD_some, List.drop_zero, List.getElem?_cons_zero, Option.map_some, List.map_nil, List.nil_append, List.cons_append, true_and, and_self, Bool.false_eq_true, reduceCtorEq, Nat.reduceAdd, Nat.reduceEqDiff, Int.reduceToNat, ↓reduceIte, List.append_nil, Nat.add_zero, Option.toList_some, Option.toList_none, Int.reduceLE, ht1]
  refine ⟨⟨by omega, by simp; omega, brow_len _⟩, hQ _ _ _ _ _ (RG.nil ?_)⟩
  simp only [x_seq, x_tn]
  refine aw_reg 1200 (RG.go fun Q hQ => ?_)
  simp only [RX, eff, Nat.reduceMod, Nat.zero_ne_one, ev_t, lk_cons, lkE_cons, setS_cons, setS_nil, setE_cons, AOp.isCall, setD, setEs, presOf, AOp.needs, SV.one?, SV.pre, SV.cells, idsOf, AOp.rds, AOp.ops, SV.ids, C.ids0, sliceTo, rowsOf, bnd, bnd', Option.getD_none, splice, List.take_zero, List.drop_succ_cons, List.drop_zero, List.length_cons, List.length_nil, List.getElem?_cons_zero, Option.map_some, List.map_cons, List.map_nil, List.nil_append, List.cons_append, true_and, and_self, Bool.false_eq_true, reduceCtorEq, Nat.reduceAdd, Nat.reduceEqDiff, Nat.reduceLeDiff, ↓reduceIte, Nat.zero_add, List.append_nil, Nat.add_zero, Option.toList_some, Option.toList_none, ht2]
  refine ⟨⟨by omega, by simp; omega, by simp, brow_len _⟩, hQ _ _ _ _ _ (RG.nil ?_)⟩
  simp only [x_seq, x_tn]
  refine aw_reg 1400 (RG.go fun Q hQ => ?_)
  simp only [RX, eff, ev_t, lk_cons, setS_cons, setS_nil, AOp.isCall, setD, setEs, presOf, AOp.needs, idsOf, AOp.rds, List.map_nil, List.nil_append, true_and, Bool.false_eq_true, reduceCtorEq, Nat.reduceAdd, Nat.reduceEqDiff, ↓reduceIte]
  refine hQ _ _ _ _ _ (RG.nil ?_)
  simp only [x_ret, x_tn]
  refine Fin.objs [] [] (.inr rfl) rfl (by first | exact trivial | exact ⟨trivial, trivial⟩ | exact ⟨trivial, trivial, trivial⟩) ?_ ?_ (by simp [objL, rlook]) (by simp [objL, rlook])
  · simp only [mkSt_sl, lk_cons, lkE_cons, lkE_nil, WkSV, WkSV1, WkC, WkC0, rlook, frzEs, objL, Nat.reduceEqDiff, ↓reduceIte, reduceCtorEq, ne_eq]
  · simp only [Int.cast_ofNat_Int, allL, lkE_cons, lkE_nil, WkC, WkC0, WkEnt, TrL, rlook, frzEs, objL, isDRows, Option.some.injEq, ↓reduceIte, and_true, exists_eq_left', ne_eq]

end Go.Abs
namespace Go.Abs
open Go Go.Proofs
set_option maxRecDepth 100000
set_option linter.unusedSimpArgs false

theorem toList_go (b : ByteArray) : ∀ (k i : Nat) (r : List UInt8), b.size - i = k → ByteArray.toList.loop b i r = r.reverse ++ b.data.toList.drop i
  | 0, i, r, h => by
    rw [ByteArray.toList.loop, if_neg (by omega), List.drop_eq_nil_of_le (by have : b.data.toList.length = b.size := rfl; omega)]; simp
  | k + 1, i, r, h => by
    have hi : i < b.size := by omega
    rw [ByteArray.toList.loop, if_pos hi, toList_go b k (i + 1) _ (by omega)]
    have hi' : i < b.data.toList.length := hi
    rw [List.drop_eq_getElem_cons hi', List.reverse_cons, List.append_assoc]
    congr 1
    have : b.get! i = b.data.toList[i] := by
      have h2 : b.get! i = b.data[i]! := rfl
      rw [h2, getElem!_pos b.data i hi]; rfl
    rw [this]; rfl

theorem ba_toList (b : ByteArray) : b.toList = b.data.toList := by
  have := toList_go b _ 0 [] rfl
  simpa [ByteArray.toList] using this

theorem rowByte_map (l : List Nat) : (l.map brow).map rowByte = l.map UInt8.ofNat := by
  rw [List.map_map]
  refine List.map_congr_left fun n _ => ?_
  simp [brow, rowByte]

theorem u8_inj {a b : Nat} (ha : a < 256) (hb : b < 256) (h : UInt8.ofNat a = UInt8.ofNat b) : a = b := by
  have := congrArg UInt8.toNat h
  simp at this
  omega

theorem map_u8_inj : ∀ {l m : List Nat}, (∀ c ∈ l, c < 256) → (∀ c ∈ m, c < 256) → l.map UInt8.ofNat = m.map UInt8.ofNat → l = m
  | [], [], _, _, _ => rfl
  | a :: l, b :: m, hl, hm, h => by
    simp only [List.map_cons, List.cons.injEq] at h
    rw [u8_inj (hl a (by simp)) (hm b (by simp)) h.1, map_u8_inj (fun c hc => hl c (by simp [hc])) (fun c hc => hm c (by simp [hc])) h.2]
  | [], _ :: _, _, _, h => by simp at h
  | _ :: _, [], _, _, h => by simp at h

theorem str_eq (l m : List Nat) (hl : ∀ c ∈ l, c < 256) (hm : ∀ c ∈ m, c < 256) :
    ((⟨((l.map brow).map rowByte).toArray⟩ : ByteArray).toList == (⟨((m.map brow).map rowByte).toArray⟩ : ByteArray).toList) = decide (l = m) := by
  rw [ba_toList, ba_toList, rowByte_map, rowByte_map]
  by_cases h : l = m
  · subst h; simp
  · have : l.map UInt8.ofNat ≠ m.map UInt8.ofNat := fun hh => h (map_u8_inj hl hm hh)
    simp [h, this]

theorem isByteRow_brow (l : List Nat) : ∀ r ∈ l.map brow, isByteRow r := by
  intro r hr
  obtain ⟨n, _, rfl⟩ := List.mem_map.1 hr
  exact ⟨n, rfl⟩

theorem bytes_Equal_con (l m : List Nat) (hl : ∀ c ∈ l, c < 256) (hm : ∀ c ∈ m, c < 256) : Con Try.prog 35 [.c (.sl (l.map brow)), .c (.sl (m.map brow))] [] (B (decide (l = m))) [] := by
  have h := str_eq l m hl hm
  refine C_bytes_Equal (Nat.le_of_ble_eq_true rfl) (Nat.le_of_ble_eq_true rfl) ?_
  simp only [A_bytes_Equal, argL, objL, List.length_nil, Nat.zero_add, x_seq]
  refine aw_reg 16 (RG.go fun Q hQ => ?_)
  simp only [RX, eff, ev_k, setS_cons, setS_nil, AOp.isCall, setD, setEs, presOf, AOp.needs, idsOf, AOp.rds, List.map_nil, List.nil_append, true_and, Bool.false_eq_true, reduceCtorEq, Nat.reduceAdd, Nat.reduceEqDiff, ↓reduceIte]
  refine hQ _ _ _ _ _ (RG.nil ?_)
  simp only [x_seq, x_tn]
  refine aw_reg 160 (RG.go fun Q hQ => ?_)
  simp only [RX, eff, ev_t, lk_cons, setS_cons, setS_nil, AOp.isCall, setD, setEs, presOf, AOp.needs, SV.one?, SV.pre, binV, idsOf, AOp.rds, AOp.ops, SV.ids, C.ids0, rowsOf, Option.map_some, List.map_nil, List.nil_append, true_and, and_self, Bool.false_eq_true, reduceCtorEq, Nat.reduceAdd, Nat.reduceEqDiff, ↓reduceIte, Option.bind_some, List.append_nil, h]
  refine ⟨isByteRow_brow _, isByteRow_brow _, hQ _ _ _ _ _ (RG.nil ?_)⟩
  simp only [x_ret, x_tn]
  exact Fin.scalar (.inr rfl) rfl trivial rfl trivial

end Go.Abs
namespace Go.Abs
open Go Go.Proofs
set_option maxRecDepth 100000
set_option linter.unusedSimpArgs false

/-- May it be a time? -/
def timeS (n : Int) : Bool := decide (0 ≤ n) && decide (n ≤ 1099511627776)

theorem entry_time_con (n : Int) : Con Try.prog 28 [I n] [] (B (timeS n)) [] := by
  refine C_entry_time (Nat.le_of_ble_eq_true rfl) (Nat.le_of_ble_eq_true rfl) ?_
  simp only [A_entry_time, argL, objL, List.length_nil, x_seq]
  refine aw_reg 16 (RG.go fun Q hQ => ?_)
  simp only [RX, eff, ev_k, setS_cons, setS_nil, AOp.isCall, setD, setEs, presOf, AOp.needs, idsOf, AOp.rds, List.map_nil, List.nil_append, true_and, Bool.false_eq_true, reduceCtorEq, Nat.reduceAdd, ↓reduceIte]
  refine hQ _ _ _ _ _ (RG.nil ?_)
  simp only [x_seq, x_tn]
  refine aw_reg 160 (RG.go fun Q hQ => ?_)
  simp only [RX, eff, ev_t, ev_k, lk_cons, setS_cons, setS_nil, AOp.isCall, setD, setEs, presOf, AOp.needs, SV.one?, SV.pre, gval, binV, idsOf, AOp.rds, AOp.ops, SV.ids, C.ids0, Option.map_some, List.map_nil, List.nil_append, and_true, true_and, and_self, Bool.true_and, Bool.false_eq_true, beq_true, implies_true, imp_self, Bool.if_false_right, Bool.decide_eq_true, reduceCtorEq, ge_iff_le, Nat.reduceAdd, Nat.reduceEqDiff, ↓reduceIte, List.append_nil]
  refine hQ _ _ _ _ _ (RG.nil ?_)
  simp only [x_ret, x_tn]
  exact Fin.scalar (.inr rfl) rfl trivial rfl trivial

theorem mementoref6_time_con (n : Int) : Con Try.prog 34 [I n] [] (B (timeS n)) [] := by
  refine C_mementoref6_time (Nat.le_of_ble_eq_true rfl) (Nat.le_of_ble_eq_true rfl) ?_
  simp only [A_mementoref6_time, argL, objL, List.length_nil, x_seq]
  refine aw_reg 16 (RG.go fun Q hQ => ?_)
  simp only [RX, eff, ev_k, setS_cons, setS_nil, AOp.isCall, setD, setEs, presOf, AOp.needs, idsOf, AOp.rds, List.map_nil, List.nil_append, true_and, Bool.false_eq_true, reduceCtorEq, Nat.reduceAdd, ↓reduceIte]
  refine hQ _ _ _ _ _ (RG.nil ?_)
  simp only [x_seq, x_tn]
  refine aw_reg 160 (RG.go fun Q hQ => ?_)
  simp only [RX, eff, ev_t, ev_k, lk_cons, setS_cons, setS_nil, AOp.isCall, setD, setEs, presOf, AOp.needs, SV.one?, SV.pre, gval, binV, idsOf, AOp.rds, AOp.ops, SV.ids, C.ids0, Option.map_some, List.map_nil, List.nil_append, and_true, true_and, and_self, Bool.true_and, Bool.false_eq_true, beq_true, implies_true, imp_self, Bool.if_false_right, Bool.decide_eq_true, reduceCtorEq, ge_iff_le, Nat.reduceAdd, Nat.reduceEqDiff, ↓reduceIte, List.append_nil]
  refine hQ _ _ _ _ _ (RG.nil ?_)
  simp only [x_ret, x_tn]
  exact Fin.scalar (.inr rfl) rfl trivial rfl trivial

/-- May an entry be? -/
def entryRight (index term kind : Int) (data : List Nat) : Bool :=
  timeS index && decide (1 ≤ index) && timeS term &&
    (if kind = 0 then decide (data.length = 0) else if kind = 1 then decide (data.length ≤ 32767) else
      if kind = 2 then decide (data.length = 2) && decide (data.getD 0 0 < 7) && decide (data.getD 1 0 < 2) else false)

theorem entry_Right_con (index term kind : Int) (data : List Nat) : Con Try.prog 7 [.agg [.v (.int .i64 index), .v (.int .i64 term), .v (.int .i64 kind), .sl (data.map brow)]] [] (B (entryRight index term kind data)) [] := by
  refine C_entry_Right (Nat.le_of_ble_eq_true rfl) (Nat.le_of_ble_eq_true rfl) ?_
  simp only [A_entry_Right, argL, objL, List.length_nil, x_seq]
  refine aw_reg 16 (RG.go fun Q hQ => ?_)
  simp only [RX, eff, ev_t, ev_k, lk_cons, lkE_nil, setS_cons, setS_nil, setE_nil, AOp.isCall, setD, setEs, presOf, AOp.needs, SV.pre, SV.cells, idsOf, AOp.rds, AOp.ops, SV.ids, List.map_cons, List.map_nil, List.nil_append, true_and, and_self, Bool.false_eq_true, reduceCtorEq, Nat.reduceAdd, Nat.reduceEqDiff, ↓reduceIte, List.append_nil]
  refine hQ _ _ _ _ _ (RG.nil ?_)
  simp only [x_seq, x_tn]
  refine aw_reg 160 (RG.go fun Q hQ => ?_)
  simp only [RX, eff, ev_t, lk_cons, lkE_cons, setS_cons, setS_nil, AOp.isCall, setD, setEs, presOf, AOp.needs, SV.one?, SV.pre, idsOf, AOp.rds, AOp.ops, SV.ids, C.ids0, List.getElem?_cons_zero, Option.map_some, List.map_nil, List.nil_append, List.cons_append, true_and, and_self, Bool.false_eq_true, reduceCtorEq, Nat.reduceAdd, Nat.reduceEqDiff, ↓reduceIte, List.append_nil, Nat.add_zero]
  refine hQ _ _ _ _ _ ?_
  refine RG.call [] (entry_time_con index) (tr_cons tr_v tr_nil) (trivial) (.inl trivial) ?_
  refine RG.go fun Q hQ => ?_
  simp only [RX, eff, ev_t, ev_k, lk_cons, lkE_cons, setS_cons, setS_nil, AOp.isCall, setD, setEs, presOf, AOp.needs, SV.one?, SV.pre, gval, binV, unV, idsOf, AOp.rds, AOp.ops, SV.ids, C.ids0, List.getElem?_cons_zero, List.getElem?_cons_succ, Option.map_some, List.map_nil, List.nil_append, List.cons_append, and_true, true_and, and_self, Bool.true_and, Bool.false_eq_true, beq_false, implies_true, imp_self, Bool.if_true_left, Bool.decide_eq_true, reduceCtorEq, Nat.reduceAdd, Nat.reduceEqDiff, ↓reduceIte, Nat.zero_add, List.append_nil, Nat.add_zero]
  refine ⟨by simp, hQ _ _ _ _ _ ?_⟩
  refine RG.callg _ _ [] rfl (fun hg => ⟨_, entry_time_con term, tr_cons (tr_opt (by simpa using hg) tr_v) tr_nil, trivial, .inl trivial⟩) ?_
  refine RG.go fun Q hQ => ?_
  simp only [RX, eff, ev_t, ev_k, lk_cons, setS_cons, setS_nil, AOp.isCall, setD, setEs, presOf, AOp.needs, SV.one?, SV.pre, gval, unV, idsOf, AOp.rds, AOp.ops, SV.ids, C.ids0, Option.map_some, List.map_nil, List.nil_append, and_true, true_and, and_self, Bool.true_and, Bool.false_eq_true, beq_false, implies_true, imp_self, Bool.if_true_left, Bool.decide_eq_true, reduceCtorEq, Nat.reduceAdd, Nat.reduceEqDiff, ↓reduceIte, List.append_nil]
  refine ⟨by simp, hQ _ _ _ _ _ (RG.nil ?_)⟩
  simp only [x_tn]
  refine aw_cond _ rfl trivial (fun ht => ?_) (fun hf => ?_)
  · skip
    simp only [x_seq]
    refine aw_reg 600 (RG.go fun Q hQ => ?_)
    simp only [RX, eff, ev_k, setS_cons, AOp.isCall, setD, setEs, presOf, AOp.needs, idsOf, AOp.rds, List.map_nil, List.nil_append, true_and, Bool.false_eq_true, reduceCtorEq, Nat.reduceAdd, Nat.reduceEqDiff, ↓reduceIte]
    refine hQ _ _ _ _ _ (RG.nil ?_)
    simp only [x_ret, x_tn, x_tr]
    have he : entryRight index term kind data = false := by
      simp [timeS] at ht
      simp [entryRight, timeS]
      intros
      omega
    rw [he]
    exact Fin.scalar (.inr rfl) rfl trivial rfl trivial
  have he : entryRight index term kind data = (if kind = 0 then decide (data.length = 0) else if kind = 1 then decide (data.length ≤ 32767) else if kind = 2 then decide (data.length = 2) && decide (data.getD 0 0 < 7) && decide (data.getD 1 0 < 2) else false) := by
    have h1 : timeS index = true ∧ index ≠ 0 ∧ timeS term = true := by simp at hf; exact ⟨hf.1.1, hf.1.2, hf.2⟩
    have h2 : 1 ≤ index := by have := h1.1; simp [timeS] at this; omega
    simp [entryRight, h1.1, h1.2.2, h2]
  rw [he]
  simp only [x_seq, x_skip, x_tn]
  refine aw_reg 600 (RG.go fun Q hQ => ?_)
  simp only [RX, eff, ev_t, lk_cons, lkE_cons, setS_cons, setS_nil, AOp.isCall, setD, setEs, presOf, AOp.needs, SV.one?, SV.pre, idsOf, AOp.rds, AOp.ops, SV.ids, C.ids0, List.getElem?_cons_zero, List.getElem?_cons_succ, Option.map_some, List.map_nil, List.nil_append, List.cons_append, true_and, and_self, Bool.false_eq_true, reduceCtorEq, Nat.reduceAdd, Nat.reduceEqDiff, ↓reduceIte, Nat.zero_add, List.append_nil]
  refine hQ _ _ _ _ _ (RG.nil ?_)
  simp only [x_seq, x_block, x_tn]
  refine aw_reg 700 (RG.go fun Q hQ => ?_)
  simp only [RX, eff, ev_t, ev_k, lk_cons, setS_cons, setS_nil, AOp.isCall, setD, setEs, presOf, AOp.needs, SV.one?, SV.pre, binV, idsOf, AOp.rds, AOp.ops, SV.ids, C.ids0, Option.map_some, List.map_nil, List.nil_append, true_and, and_self, Bool.false_eq_true, reduceCtorEq, Nat.reduceAdd, Nat.reduceEqDiff, ↓reduceIte, List.append_nil]
  refine hQ _ _ _ _ _ (RG.nil ?_)
  simp only [x_tn]
  refine aw_cond _ rfl trivial (fun ht => ?_) (fun hf => ?_)
  · have hk : kind = 0 := by simpa using ht
    rw [if_pos hk]
    simp only [x_seq]
    refine aw_reg 800 (RG.go fun Q hQ => ?_)
    simp only [RX, eff, ev_t, ev_k, lk_cons, lkE_cons, setS_cons, setS_nil, AOp.isCall, setD, setEs, presOf, AOp.needs, SV.one?, SV.pre, binV, idsOf, AOp.rds, AOp.ops, SV.ids, C.ids0, rowsOf, List.getElem?_cons_zero, List.getElem?_cons_succ, Option.map_some, List.map_nil, List.nil_append, List.cons_append, true_and, and_self, Bool.false_eq_true, reduceCtorEq, Nat.reduceAdd, Nat.reduceEqDiff, ↓reduceIte, Option.bind_some, Nat.zero_add, List.append_nil]
    refine hQ _ _ _ _ _ (RG.nil ?_)
    simp only [x_ret, x_tn, x_tr, x_br]
    exact Fin.b (.inr rfl) rfl trivial (by rw [Bool.eq_iff_iff]; simp)
  have hk : ¬ kind = 0 := by simpa using hf
  rw [if_neg hk]
  simp only [x_seq]
  refine aw_reg 800 (RG.go fun Q hQ => ?_)
  simp only [RX, eff, ev_t, ev_k, lk_cons, setS_cons, setS_nil, AOp.isCall, setD, setEs, presOf, AOp.needs, SV.one?, SV.pre, binV, idsOf, AOp.rds, AOp.ops, SV.ids, C.ids0, Option.map_some, List.map_nil, List.nil_append, true_and, and_self, Bool.false_eq_true, reduceCtorEq, Nat.reduceAdd, Nat.reduceEqDiff, ↓reduceIte, List.append_nil]
  refine hQ _ _ _ _ _ (RG.nil ?_)
  simp only [x_tn]
  refine aw_cond _ rfl trivial (fun ht => ?_) (fun hf => ?_)
  · have hk : kind = 1 := by simpa using ht
    rw [if_pos hk]
    simp only [x_seq]
    refine aw_reg 900 (RG.go fun Q hQ => ?_)
    simp only [RX, eff, ev_t, ev_k, lk_cons, lkE_cons, setS_cons, setS_nil, AOp.isCall, setD, setEs, presOf, AOp.needs, SV.one?, SV.pre, binV, idsOf, AOp.rds, AOp.ops, SV.ids, C.ids0, rowsOf, List.getElem?_cons_zero, List.getElem?_cons_succ, Option.map_some, List.map_nil, List.nil_append, List.cons_append, true_and, and_self, Bool.false_eq_true, reduceCtorEq, Nat.reduceAdd, Nat.reduceEqDiff, ↓reduceIte, Option.bind_some, Nat.zero_add, List.append_nil]
    refine hQ _ _ _ _ _ (RG.nil ?_)
    simp only [x_ret, x_tn, x_tr, x_br]
    exact Fin.b (.inr rfl) rfl trivial (by rw [Bool.eq_iff_iff]; simp; omega)
  have hk : ¬ kind = 1 := by simpa using hf
  rw [if_neg hk]
  simp only [x_seq]
  refine aw_reg 900 (RG.go fun Q hQ => ?_)
  simp only [RX, eff, ev_t, ev_k, lk_cons, setS_cons, setS_nil, AOp.isCall, setD, setEs, presOf, AOp.needs, SV.one?, SV.pre, binV, idsOf, AOp.rds, AOp.ops, SV.ids, C.ids0, Option.map_some, List.map_nil, List.nil_append, true_and, and_self, Bool.false_eq_true, reduceCtorEq, Nat.reduceAdd, Nat.reduceEqDiff, ↓reduceIte, List.append_nil]
  refine hQ _ _ _ _ _ (RG.nil ?_)
  simp only [x_tn]
  refine aw_cond _ rfl trivial (fun ht => ?_) (fun hf => ?_)
  · have hk : kind = 2 := by simpa using ht
    rw [if_pos hk]
    simp only [x_seq]
    by_cases hlen : data.length = 2
    · match data, hlen with
      | [a, b], _ =>
        have e1 : (List.map brow [a, b])[(0 : Int).toNat]?.getD [] = [.v (.int .u8 a)] := rfl
        have e2 : (List.map brow [a, b])[(1 : Int).toNat]?.getD [] = [.v (.int .u8 b)] := rfl
        refine aw_reg 1000 (RG.go fun Q hQ => ?_)
        simp only [RX, eff, ev_t, ev_k, lk_cons, lkE_cons, setS_cons, setS_nil, AOp.isCall, setD, setEs, presOf, AOp.needs, SV.one?, SV.pre, gval, binV, idsOf, AOp.rds, AOp.ops, SV.ids, C.ids0, rowsOf, Option.getD_some, List.length_cons, List.length_nil, List.getElem?_cons_zero, List.getElem?_cons_succ, Option.map_some, List.map_cons, List.map_nil, List.nil_append, List.cons_append, and_true, true_and, and_self, Bool.true_and, Bool.and_true, Bool.false_eq_true, beq_true, implies_true, imp_self, Bool.if_false_right, Bool.decide_eq_true, reduceCtorEq, Nat.reduceAdd, Nat.reduceEqDiff, Nat.reduceLT, Int.reduceToNat, ↓reduceIte, Option.bind_some, Nat.zero_add, BEq.rfl, List.append_nil, Int.cast_ofNat_Int, Int.reduceLT, Int.reduceLE, C_default, brow, List.map_cons, List.map_nil, Option.getD_some, List.getElem?_cons_succ]
        refine hQ _ _ _ _ _ (RG.nil ?_)
        simp only [x_ret, x_tn, x_tr, x_br]
        exact Fin.b (.inr rfl) rfl trivial (by rw [Bool.eq_iff_iff]; simp; omega)
    · have hl2 : (((data.map brow).length : Int) == 2) = false := by simp; omega
      have hsh : ∃ c, ((List.map brow data)[0]?.getD [])[0]?.getD default = c ∧ ∃ d, ((List.map brow data)[1]?.getD [])[0]?.getD default = d := ⟨_, rfl, _, rfl⟩
      rcases data with _ | ⟨a, _ | ⟨b, r⟩⟩
      · skip
        refine aw_reg 1000 (RG.go fun Q hQ => ?_)
        simp only [RX, eff, Nat.zero_ne_one, ev_t, ev_k, lk_cons, lkE_cons, setS_cons, setS_nil, AOp.isCall, setD, setEs, presOf, AOp.needs, SV.one?, SV.pre, gval, binV, idsOf, AOp.rds, AOp.ops, SV.ids, C.ids0, rowsOf, Option.getD_none, List.length_nil, List.getElem?_cons_zero, List.getElem?_cons_succ, Option.map_some, Option.map_none, List.map_nil, List.nil_append, List.cons_append, and_true, true_and, and_self, Bool.and_false, Bool.false_eq_true, beq_true, implies_true, imp_self, reduceCtorEq, Nat.reduceAdd, Nat.reduceEqDiff, Nat.reduceLT, Int.reduceToNat, ↓reduceIte, Option.bind_some, Nat.zero_add, List.append_nil, List.getElem?_nil, Int.cast_ofNat_Int, Int.reduceBEq, Int.reduceLT, Int.reduceLE, C_default, List.map_nil]
        refine hQ _ _ _ _ _ (RG.nil ?_)
        simp only [x_ret, x_tn, x_tr, x_br, reduceCtorEq]
        exact Fin.b (.inr rfl) rfl trivial (by simp)
      · skip
        refine aw_reg 1000 (RG.go fun Q hQ => ?_)
        simp only [RX, eff, Nat.zero_ne_one, ev_t, ev_k, lk_cons, lkE_cons, setS_cons, setS_nil, AOp.isCall, setD, setEs, presOf, AOp.needs, SV.one?, SV.pre, gval, binV, idsOf, AOp.rds, AOp.ops, SV.ids, C.ids0, rowsOf, Option.getD_none, Option.getD_some, List.length_cons, List.length_nil, List.getElem?_cons_zero, List.getElem?_cons_succ, Option.map_some, Option.map_none, List.map_cons, List.map_nil, List.nil_append, List.cons_append, and_true, true_and, and_self, Bool.and_false, Bool.false_eq_true, beq_true, implies_true, imp_self, reduceCtorEq, Nat.reduceAdd, Nat.reduceEqDiff, Nat.reduceLT, Int.reduceToNat, ↓reduceIte, Option.bind_some, Nat.zero_add, List.append_nil, List.getElem?_nil, Int.cast_ofNat_Int, Int.reduceBEq, Int.reduceLT, Int.reduceLE, C_default, List.map_cons, List.map_nil, brow]
        refine hQ _ _ _ _ _ (RG.nil ?_)
        simp only [x_ret, x_tn, x_tr, x_br]
        exact Fin.b (.inr rfl) rfl trivial (by simp)
      · have hl3 : ((((brow a :: brow b :: r.map brow) : List (List C)).length : Int) == 2) = false := hl2
        refine aw_reg 1000 (RG.go fun Q hQ => ?_)
        simp only [RX, eff, ev_t, ev_k, lk_cons, lkE_cons, setS_cons, setS_nil, AOp.isCall, setD, setEs, presOf, AOp.needs, SV.one?, SV.pre, gval, binV, idsOf, AOp.rds, AOp.ops, SV.ids, C.ids0, rowsOf, Option.getD_some, List.length_cons, List.length_nil, List.getElem?_cons_zero, List.getElem?_cons_succ, Option.map_some, List.map_cons, List.map_nil, List.nil_append, List.cons_append, and_true, true_and, and_self, Bool.true_and, Bool.false_eq_true, beq_true, implies_true, imp_self, Bool.if_false_right, Bool.decide_eq_true, reduceCtorEq, Nat.reduceAdd, Nat.reduceEqDiff, Nat.reduceLT, Int.reduceToNat, ↓reduceIte, Option.bind_some, Nat.zero_add, List.append_nil, Int.reduceLE, C_default, List.map_cons, brow]
        refine ⟨fun h => ⟨by omega, h⟩, fun h => ⟨by omega, h⟩, hQ _ _ _ _ _ (RG.nil ?_)⟩
        simp only [x_ret, x_tn, x_tr, x_br]
        exact Fin.b (.inr rfl) rfl trivial (by rw [Bool.eq_iff_iff]; have h3 : r.length ≠ 0 := (fun h => hlen (by simp [h])); simp at hlen; simp [hlen]; intros; omega)
  have hk : ¬ kind = 2 := by simpa using hf
  rw [if_neg hk]
  simp only [x_seq, x_skip, x_tn, x_bn]
  refine aw_reg 1000 (RG.go fun Q hQ => ?_)
  simp only [RX, eff, ev_k, setS_cons, AOp.isCall, setD, setEs, presOf, AOp.needs, idsOf, AOp.rds, List.map_nil, List.nil_append, true_and, Bool.false_eq_true, reduceCtorEq, Nat.reduceAdd, Nat.reduceEqDiff, ↓reduceIte]
  refine hQ _ _ _ _ _ (RG.nil ?_)
  simp only [x_ret, x_tn]
  exact Fin.scalar (.inr rfl) rfl trivial rfl trivial

theorem mementoref6_EntryRight_con (index term kind : Int) (data : List Nat) : Con Try.prog 12 [.agg [.v (.int .i64 index), .v (.int .i64 term), .v (.int .i64 kind), .sl (data.map brow)]] [] (B (entryRight index term kind data)) [] := by
  refine C_mementoref6_EntryRight (Nat.le_of_ble_eq_true rfl) (Nat.le_of_ble_eq_true rfl) ?_
  simp only [A_mementoref6_EntryRight, argL, objL, List.length_nil, x_seq]
  refine aw_reg 16 (RG.go fun Q hQ => ?_)
  simp only [RX, eff, ev_t, ev_k, lk_cons, lkE_nil, setS_cons, setS_nil, setE_nil, AOp.isCall, setD, setEs, presOf, AOp.needs, SV.pre, SV.cells, idsOf, AOp.rds, AOp.ops, SV.ids, List.map_cons, List.map_nil, List.nil_append, true_and, and_self, Bool.false_eq_true, reduceCtorEq, Nat.reduceAdd, Nat.reduceEqDiff, ↓reduceIte, List.append_nil]
  refine hQ _ _ _ _ _ (RG.nil ?_)
  simp only [x_seq, x_tn]
  refine aw_reg 160 (RG.go fun Q hQ => ?_)
  simp only [RX, eff, ev_t, ev_k, lk_cons, lkE_cons, setS_cons, setS_nil, AOp.isCall, setD, setEs, presOf, AOp.needs, SV.one?, SV.pre, gval, binV, idsOf, AOp.rds, AOp.ops, SV.ids, C.ids0, List.getElem?_cons_zero, Option.map_some, List.map_nil, List.nil_append, List.cons_append, and_true, true_and, and_self, Bool.true_and, Bool.false_eq_true, beq_false, implies_true, imp_self, reduceCtorEq, Nat.reduceAdd, Nat.reduceEqDiff, ↓reduceIte, List.append_nil, Nat.add_zero]
  refine hQ _ _ _ _ _ ?_
  refine RG.callg _ _ [] rfl (fun hg => ⟨_, mementoref6_time_con index, tr_cons (tr_opt (by simpa using hg) tr_v) tr_nil, trivial, .inl trivial⟩) ?_
  refine RG.go fun Q hQ => ?_
  simp only [RX, eff, ev_t, ev_k, lk_cons, lkE_cons, setS_cons, setS_nil, AOp.isCall, setD, setEs, presOf, AOp.needs, SV.one?, SV.pre, gval, unV, idsOf, AOp.rds, AOp.ops, SV.ids, C.ids0, List.getElem?_cons_zero, List.getElem?_cons_succ, Option.map_some, List.map_nil, List.nil_append, List.cons_append, and_true, true_and, and_self, Bool.true_and, Bool.false_eq_true, beq_false, implies_true, imp_self, Bool.if_true_left, Bool.decide_eq_true, reduceCtorEq, Nat.reduceAdd, Nat.reduceEqDiff, ↓reduceIte, Nat.zero_add, List.append_nil]
  refine ⟨by simp, hQ _ _ _ _ _ ?_⟩
  refine RG.callg _ _ [] rfl (fun hg => ⟨_, mementoref6_time_con term, tr_cons (tr_opt (by simpa using hg) tr_v) tr_nil, trivial, .inl trivial⟩) ?_
  refine RG.go fun Q hQ => ?_
  simp only [RX, eff, ev_t, ev_k, lk_cons, setS_cons, setS_nil, AOp.isCall, setD, setEs, presOf, AOp.needs, SV.one?, SV.pre, gval, unV, idsOf, AOp.rds, AOp.ops, SV.ids, C.ids0, Option.map_some, List.map_nil, List.nil_append, and_true, true_and, and_self, Bool.true_and, Bool.false_eq_true, beq_false, implies_true, imp_self, Bool.if_true_left, Bool.decide_eq_true, reduceCtorEq, Nat.reduceAdd, Nat.reduceEqDiff, ↓reduceIte, List.append_nil]
  refine ⟨by simp, hQ _ _ _ _ _ (RG.nil ?_)⟩
  simp only [x_tn]
  refine aw_cond _ rfl trivial (fun ht => ?_) (fun hf => ?_)
  · skip
    simp only [x_seq]
    refine aw_reg 600 (RG.go fun Q hQ => ?_)
    simp only [RX, eff, ev_k, setS_cons, AOp.isCall, setD, setEs, presOf, AOp.needs, idsOf, AOp.rds, List.map_nil, List.nil_append, true_and, Bool.false_eq_true, reduceCtorEq, Nat.reduceAdd, Nat.reduceEqDiff, ↓reduceIte]
    refine hQ _ _ _ _ _ (RG.nil ?_)
    simp only [x_ret, x_tn, x_tr]
    have he : entryRight index term kind data = false := by
      simp [timeS] at ht
      simp [entryRight, timeS]
      intros
      omega
    rw [he]
    exact Fin.scalar (.inr rfl) rfl trivial rfl trivial
  have he : entryRight index term kind data = (if kind = 0 then decide (data.length = 0) else if kind = 1 then decide (data.length ≤ 32767) else if kind = 2 then decide (data.length = 2) && decide (data.getD 0 0 < 7) && decide (data.getD 1 0 < 2) else false) := by
    have h1 : timeS index = true ∧ ¬ index < 1 ∧ timeS term = true := by simp at hf; exact ⟨hf.1.2, by omega, hf.2⟩
    have h2 : 1 ≤ index := by omega
    simp [entryRight, h1.1, h1.2.2, h2]
  rw [he]
  simp only [x_seq, x_skip, x_tn]
  refine aw_reg 600 (RG.go fun Q hQ => ?_)
  simp only [RX, eff, ev_t, lk_cons, lkE_cons, setS_cons, setS_nil, AOp.isCall, setD, setEs, presOf, AOp.needs, SV.one?, SV.pre, idsOf, AOp.rds, AOp.ops, SV.ids, C.ids0, List.getElem?_cons_zero, List.getElem?_cons_succ, Option.map_some, List.map_nil, List.nil_append, List.cons_append, true_and, and_self, Bool.false_eq_true, reduceCtorEq, Nat.reduceAdd, Nat.reduceEqDiff, ↓reduceIte, Nat.zero_add, List.append_nil]
  refine hQ _ _ _ _ _ (RG.nil ?_)
  simp only [x_seq, x_block, x_tn]
  refine aw_reg 700 (RG.go fun Q hQ => ?_)
  simp only [RX, eff, ev_t, ev_k, lk_cons, setS_cons, setS_nil, AOp.isCall, setD, setEs, presOf, AOp.needs, SV.one?, SV.pre, binV, idsOf, AOp.rds, AOp.ops, SV.ids, C.ids0, Option.map_some, List.map_nil, List.nil_append, true_and, and_self, Bool.false_eq_true, reduceCtorEq, Nat.reduceAdd, Nat.reduceEqDiff, ↓reduceIte, List.append_nil]
  refine hQ _ _ _ _ _ (RG.nil ?_)
  simp only [x_tn]
  refine aw_cond _ rfl trivial (fun ht => ?_) (fun hf => ?_)
  · have hk : kind = 0 := by simpa using ht
    rw [if_pos hk]
    simp only [x_seq]
    refine aw_reg 800 (RG.go fun Q hQ => ?_)
    simp only [RX, eff, ev_t, ev_k, lk_cons, lkE_cons, setS_cons, setS_nil, AOp.isCall, setD, setEs, presOf, AOp.needs, SV.one?, SV.pre, binV, idsOf, AOp.rds, AOp.ops, SV.ids, C.ids0, rowsOf, List.getElem?_cons_zero, List.getElem?_cons_succ, Option.map_some, List.map_nil, List.nil_append, List.cons_append, true_and, and_self, Bool.false_eq_true, reduceCtorEq, Nat.reduceAdd, Nat.reduceEqDiff, ↓reduceIte, Option.bind_some, Nat.zero_add, List.append_nil]
    refine hQ _ _ _ _ _ (RG.nil ?_)
    simp only [x_ret, x_tn, x_tr, x_br]
    exact Fin.b (.inr rfl) rfl trivial (by rw [Bool.eq_iff_iff]; simp)
  have hk : ¬ kind = 0 := by simpa using hf
  rw [if_neg hk]
  simp only [x_seq]
  refine aw_reg 800 (RG.go fun Q hQ => ?_)
  simp only [RX, eff, ev_t, ev_k, lk_cons, setS_cons, setS_nil, AOp.isCall, setD, setEs, presOf, AOp.needs, SV.one?, SV.pre, binV, idsOf, AOp.rds, AOp.ops, SV.ids, C.ids0, Option.map_some, List.map_nil, List.nil_append, true_and, and_self, Bool.false_eq_true, reduceCtorEq, Nat.reduceAdd, Nat.reduceEqDiff, ↓reduceIte, List.append_nil]
  refine hQ _ _ _ _ _ (RG.nil ?_)
  simp only [x_tn]
  refine aw_cond _ rfl trivial (fun ht => ?_) (fun hf => ?_)
  · have hk : kind = 1 := by simpa using ht
    rw [if_pos hk]
    simp only [x_seq]
    refine aw_reg 900 (RG.go fun Q hQ => ?_)
    simp only [RX, eff, ev_t, ev_k, lk_cons, lkE_cons, setS_cons, setS_nil, AOp.isCall, setD, setEs, presOf, AOp.needs, SV.one?, SV.pre, binV, idsOf, AOp.rds, AOp.ops, SV.ids, C.ids0, rowsOf, List.getElem?_cons_zero, List.getElem?_cons_succ, Option.map_some, List.map_nil, List.nil_append, List.cons_append, true_and, and_self, Bool.false_eq_true, reduceCtorEq, Nat.reduceAdd, Nat.reduceEqDiff, ↓reduceIte, Option.bind_some, Nat.zero_add, List.append_nil]
    refine hQ _ _ _ _ _ (RG.nil ?_)
    simp only [x_ret, x_tn, x_tr, x_br]
    exact Fin.b (.inr rfl) rfl trivial (by rw [Bool.eq_iff_iff]; simp; omega)
  have hk : ¬ kind = 1 := by simpa using hf
  rw [if_neg hk]
  simp only [x_seq]
  refine aw_reg 900 (RG.go fun Q hQ => ?_)
  simp only [RX, eff, ev_t, ev_k, lk_cons, setS_cons, setS_nil, AOp.isCall, setD, setEs, presOf, AOp.needs, SV.one?, SV.pre, binV, idsOf, AOp.rds, AOp.ops, SV.ids, C.ids0, Option.map_some, List.map_nil, List.nil_append, true_and, and_self, Bool.false_eq_true, reduceCtorEq, Nat.reduceAdd, Nat.reduceEqDiff, ↓reduceIte, List.append_nil]
  refine hQ _ _ _ _ _ (RG.nil ?_)
  simp only [x_tn]
  refine aw_cond _ rfl trivial (fun ht => ?_) (fun hf => ?_)
  · have hk : kind = 2 := by simpa using ht
    rw [if_pos hk]
    simp only [x_seq]
    by_cases hlen : data.length = 2
    · match data, hlen with
      | [a, b], _ =>
        have e1 : (List.map brow [a, b])[(0 : Int).toNat]?.getD [] = [.v (.int .u8 a)] := rfl
        have e2 : (List.map brow [a, b])[(1 : Int).toNat]?.getD [] = [.v (.int .u8 b)] := rfl
        refine aw_reg 1000 (RG.go fun Q hQ => ?_)
        simp only [RX, eff, ev_t, ev_k, lk_cons, lkE_cons, setS_cons, setS_nil, AOp.isCall, setD, setEs, presOf, AOp.needs, SV.one?, SV.pre, gval, binV, idsOf, AOp.rds, AOp.ops, SV.ids, C.ids0, rowsOf, Option.getD_some, List.length_cons, List.length_nil, List.getElem?_cons_zero, List.getElem?_cons_succ, Option.map_some, List.map_cons, List.map_nil, List.nil_append, List.cons_append, and_true, true_and, and_self, Bool.true_and, Bool.and_true, Bool.false_eq_true, beq_true, implies_true, imp_self, Bool.if_false_right, Bool.decide_eq_true, reduceCtorEq, Nat.reduceAdd, Nat.reduceEqDiff, Nat.reduceLT, Int.reduceToNat, ↓reduceIte, Option.bind_some, Nat.zero_add, BEq.rfl, List.append_nil, Int.cast_ofNat_Int, Int.reduceLT, Int.reduceLE, C_default, brow, List.map_cons, List.map_nil, Option.getD_some, List.getElem?_cons_succ]
        refine hQ _ _ _ _ _ (RG.nil ?_)
        simp only [x_ret, x_tn, x_tr, x_br]
        exact Fin.b (.inr rfl) rfl trivial (by rw [Bool.eq_iff_iff]; simp; omega)
    · have hl2 : (((data.map brow).length : Int) == 2) = false := by simp; omega
      have hsh : ∃ c, ((List.map brow data)[0]?.getD [])[0]?.getD default = c ∧ ∃ d, ((List.map brow data)[1]?.getD [])[0]?.getD default = d := ⟨_, rfl, _, rfl⟩
      rcases data with _ | ⟨a, _ | ⟨b, r⟩⟩
      · skip
        refine aw_reg 1000 (RG.go fun Q hQ => ?_)
        simp only [RX, eff, Nat.zero_ne_one, ev_t, ev_k, lk_cons, lkE_cons, setS_cons, setS_nil, AOp.isCall, setD, setEs, presOf, AOp.needs, SV.one?, SV.pre, gval, binV, idsOf, AOp.rds, AOp.ops, SV.ids, C.ids0, rowsOf, Option.getD_none, List.length_nil, List.getElem?_cons_zero, List.getElem?_cons_succ, Option.map_some, Option.map_none, List.map_nil, List.nil_append, List.cons_append, and_true, true_and, and_self, Bool.and_false, Bool.false_eq_true, beq_true, implies_true, imp_self, reduceCtorEq, Nat.reduceAdd, Nat.reduceEqDiff, Nat.reduceLT, Int.reduceToNat, ↓reduceIte, Option.bind_some, Nat.zero_add, List.append_nil, List.getElem?_nil, Int.cast_ofNat_Int, Int.reduceBEq, Int.reduceLT, Int.reduceLE, C_default, List.map_nil]
        refine hQ _ _ _ _ _ (RG.nil ?_)
        simp only [x_ret, x_tn, x_tr, x_br, reduceCtorEq]
        exact Fin.b (.inr rfl) rfl trivial (by simp)
      · skip
        refine aw_reg 1000 (RG.go fun Q hQ => ?_)
        simp only [RX, eff, Nat.zero_ne_one, ev_t, ev_k, lk_cons, lkE_cons, setS_cons, setS_nil, AOp.isCall, setD, setEs, presOf, AOp.needs, SV.one?, SV.pre, gval, binV, idsOf, AOp.rds, AOp.ops, SV.ids, C.ids0, rowsOf, Option.getD_none, Option.getD_some, List.length_cons, List.length_nil, List.getElem?_cons_zero, List.getElem?_cons_succ, Option.map_some, Option.map_none, List.map_cons, List.map_nil, List.nil_append, List.cons_append, and_true, true_and, and_self, Bool.and_false, Bool.false_eq_true, beq_true, implies_true, imp_self, reduceCtorEq, Nat.reduceAdd, Nat.reduceEqDiff, Nat.reduceLT, Int.reduceToNat, ↓reduceIte, Option.bind_some, Nat.zero_add, List.append_nil, List.getElem?_nil, Int.cast_ofNat_Int, Int.reduceBEq, Int.reduceLT, Int.reduceLE, C_default, List.map_cons, List.map_nil, brow]
        refine hQ _ _ _ _ _ (RG.nil ?_)
        simp only [x_ret, x_tn, x_tr, x_br]
        exact Fin.b (.inr rfl) rfl trivial (by simp)
      · have hl3 : ((((brow a :: brow b :: r.map brow) : List (List C)).length : Int) == 2) = false := hl2
        refine aw_reg 1000 (RG.go fun Q hQ => ?_)
        simp only [RX, eff, ev_t, ev_k, lk_cons, lkE_cons, setS_cons, setS_nil, AOp.isCall, setD, setEs, presOf, AOp.needs, SV.one?, SV.pre, gval, binV, idsOf, AOp.rds, AOp.ops, SV.ids, C.ids0, rowsOf, Option.getD_some, List.length_cons, List.length_nil, List.getElem?_cons_zero, List.getElem?_cons_succ, Option.map_some, List.map_cons, List.map_nil, List.nil_append, List.cons_append, and_true, true_and, and_self, Bool.true_and, Bool.false_eq_true, beq_true, implies_true, imp_self, Bool.if_false_right, Bool.decide_eq_true, reduceCtorEq, Nat.reduceAdd, Nat.reduceEqDiff, Nat.reduceLT, Int.reduceToNat, ↓reduceIte, Option.bind_some, Nat.zero_add, List.append_nil, Int.reduceLE, C_default, List.map_cons, brow]
        refine ⟨fun h => ⟨by omega, h⟩, fun h => ⟨by omega, h⟩, hQ _ _ _ _ _ (RG.nil ?_)⟩
        simp only [x_ret, x_tn, x_tr, x_br]
        exact Fin.b (.inr rfl) rfl trivial (by rw [Bool.eq_iff_iff]; have h3 : r.length ≠ 0 := (fun h => hlen (by simp [h])); simp at hlen; simp [hlen]; intros; omega)
  have hk : ¬ kind = 2 := by simpa using hf
  rw [if_neg hk]
  simp only [x_seq, x_skip, x_tn, x_bn]
  refine aw_reg 1000 (RG.go fun Q hQ => ?_)
  simp only [RX, eff, ev_k, setS_cons, AOp.isCall, setD, setEs, presOf, AOp.needs, idsOf, AOp.rds, List.map_nil, List.nil_append, true_and, Bool.false_eq_true, reduceCtorEq, Nat.reduceAdd, Nat.reduceEqDiff, ↓reduceIte]
  refine hQ _ _ _ _ _ (RG.nil ?_)
  simp only [x_ret, x_tn]
  exact Fin.scalar (.inr rfl) rfl trivial rfl trivial


end Go.Abs
namespace Go.Abs
open Go Go.Proofs
set_option maxRecDepth 100000
set_option linter.unusedSimpArgs false

theorem slices_Grow_con (n : Nat) (hn : n ≤ 100000000000000) : Con Try.prog 52 [.c (.v (.slice none 0 0)), I n] [] (.c (.osl 0)) [.arr 5 1 [] false] := by
  have hw0 : IntKind.i64.wrap 0 = 0 := by decide
  have hw2 : IntKind.i64.wrap (n : Int) = n := w64 _ (by omega) (by omega)
  refine C_slices_Grow_byte_byte (Nat.le_of_ble_eq_true rfl) (Nat.le_of_ble_eq_true rfl) ?_
  simp only [A_slices_Grow_byte_byte, argL, objL, List.length_nil, Nat.zero_add, x_seq]
  refine aw_reg 16 (RG.go fun Q hQ => ?_)
  simp only [RX, eff, ev_k, setS_cons, setS_nil, AOp.isCall, setD, setEs, presOf, AOp.needs, idsOf, AOp.rds, List.map_nil, List.nil_append, true_and, Bool.false_eq_true, reduceCtorEq, Nat.reduceAdd, Nat.reduceEqDiff, ↓reduceIte]
  refine hQ _ _ _ _ _ (RG.nil ?_)
  simp only [x_seq, x_tn]
  refine aw_reg 160 (RG.go fun Q hQ => ?_)
  simp only [RX, eff, ev_t, ev_k, lk_cons, setS_cons, setS_nil, AOp.isCall, setD, setEs, presOf, AOp.needs, SV.one?, SV.pre, binV, idsOf, AOp.rds, AOp.ops, SV.ids, C.ids0, Option.map_some, List.map_nil, List.nil_append, true_and, and_self, Bool.false_eq_true, reduceCtorEq, Nat.reduceAdd, Nat.reduceEqDiff, ↓reduceIte, List.append_nil]
  refine hQ _ _ _ _ _ (RG.nil ?_)
  simp only [x_tn]
  refine aw_cond _ rfl trivial (fun ht => ?_) (fun hf => ?_)
  · exfalso; simp at ht; omega
  simp only [x_seq, x_skip, x_tn]
  refine aw_reg 320 (RG.go fun Q hQ => ?_)
  simp only [RX, eff, ev_t, lk_cons, setS_cons, setS_nil, AOp.isCall, setD, setEs, presOf, AOp.needs, SV.one?, SV.pre, binV, idsOf, AOp.rds, AOp.ops, SV.ids, C.ids0, rowsOf, List.length_nil, Option.map_some, List.map_nil, List.nil_append, true_and, and_self, Bool.false_eq_true, reduceCtorEq, Nat.reduceAdd, Nat.reduceEqDiff, ↓reduceIte, Option.bind_some, List.append_nil, Int.cast_ofNat_Int, Int.sub_zero, hw0, hw2]
  refine hQ _ _ _ _ _ (RG.nil ?_)
  simp only [x_seq, x_tn]
  refine aw_reg 480 (RG.go fun Q hQ => ?_)
  simp only [RX, eff, ev_t, ev_k, lk_cons, setS_cons, setS_nil, AOp.isCall, setD, setEs, presOf, AOp.needs, SV.one?, SV.pre, binV, idsOf, AOp.rds, AOp.ops, SV.ids, C.ids0, Option.map_some, List.map_nil, List.nil_append, true_and, and_self, Bool.false_eq_true, reduceCtorEq, gt_iff_lt, Nat.reduceAdd, Nat.reduceEqDiff, ↓reduceIte, List.append_nil]
  refine hQ _ _ _ _ _ (RG.nil ?_)
  simp only [x_tn]
  refine aw_cond _ rfl trivial (fun ht => ?_) (fun hf => ?_)
  · have hn0 : 0 < n := by simp at ht; omega
    refine aw_reg 641 (RG.go fun Q hQ => ?_)
    simp only [RX, eff, keepTo, Nat.reduceMod, ev_t, lk_cons, lkE_cons, lkE_nil, setS_cons, setS_nil, setE_cons, setE_nil, AOp.isCall, setD, setEs, presOf, AOp.needs, SV.one?, SV.pre, idsOf, AOp.rds, AOp.ops, SV.ids, C.ids0, rowsOf, bnd', Option.getD_none, Option.getD_some, List.take_zero, List.length_nil, List.map_cons, List.map_nil, List.nil_append, List.cons_append, true_and, and_self, Bool.false_eq_true, reduceCtorEq, Nat.reduceAdd, Nat.reduceEqDiff, Int.reduceToNat, ↓reduceIte, Option.bind_some, List.append_nil, Option.toList_some, Option.toList_none, Int.cast_ofNat_Int, Int.reduceLE]
    refine ⟨⟨by omega, by omega⟩, by simp, hQ _ _ _ _ _ (RG.nil ?_)⟩
    simp only [x_seq, x_tn]
    refine aw_reg 960 (RG.go fun Q hQ => ?_)
    simp only [RX, eff, ev_t, lk_cons, setS_cons, setS_nil, AOp.isCall, setD, setEs, presOf, AOp.needs, idsOf, AOp.rds, List.map_nil, List.nil_append, true_and, Bool.false_eq_true, reduceCtorEq, Nat.reduceAdd, Nat.reduceEqDiff, ↓reduceIte]
    refine hQ _ _ _ _ _ (RG.nil ?_)
    simp only [x_ret, x_tn]
    refine Fin.objs [] [(0, 769)] (.inr rfl) rfl (by first | exact trivial | exact ⟨trivial, trivial⟩ | exact ⟨trivial, trivial, trivial⟩) ?_ ?_ (by simp [objL, rlook]) (by simp [objL, rlook])
    · simp only [mkSt_sl, lk_cons, lkE_cons, lkE_nil, WkSV, WkSV1, WkC, WkC0, rlook, frzEs, objL, Nat.reduceEqDiff, ↓reduceIte, reduceCtorEq, and_true, ne_eq, not_false_eq_true]
    · simp only [allL, lkE_cons, lkE_nil, WkEnt, rlook, frzEs, objL, isDRows, Option.some.injEq, Nat.reduceEqDiff, ↓reduceIte, reduceCtorEq, true_and, and_true, exists_eq_left', ne_eq, true_or]
      simp
  have hn0 : n = 0 := by simp at hf; omega
  subst hn0
  simp only [x_seq, x_skip, x_tn]
  refine aw_reg 640 (RG.go fun Q hQ => ?_)
  simp only [RX, eff, ev_t, lk_cons, setS_cons, setS_nil, AOp.isCall, setD, setEs, presOf, AOp.needs, idsOf, AOp.rds, List.map_nil, List.nil_append, true_and, Bool.false_eq_true, reduceCtorEq, Nat.reduceAdd, Nat.reduceEqDiff, ↓reduceIte, Int.cast_ofNat_Int, Int.reduceLT]
  refine hQ _ _ _ _ _ (RG.nil ?_)
  simp only [x_ret, x_tn]
  exact Fin.ownNil (.inr rfl) rfl trivial (by decide)


def prow (p : List Nat) : List C := [.sl (p.map brow)]

theorem flat_take (parts : List (List Nat)) (i : Nat) (hi : i < parts.length) : (parts.take (i + 1)).flatten = (parts.take i).flatten ++ parts[i] := by
  rw [take_one parts i hi, List.flatten_append]; simp

theorem flat_len (parts : List (List Nat)) (i : Nat) : (parts.take i).flatten.length ≤ parts.flatten.length := by
  have h : parts.flatten = (parts.take i).flatten ++ (parts.drop i).flatten := by rw [← List.flatten_append, List.take_append_drop]
  rw [h, List.length_append]; omega

theorem slices_Concat_con (parts : List (List Nat)) (hb : parts.flatten.length ≤ 100000000000000) (hp : parts.length ≤ 100000000000000) : Con Try.prog 47 [.c (.sl (parts.map prow))] [] (.c (.osl 0)) [.arr 5 1 (parts.flatten.map brow) false] := by
  refine C_slices_Concat_byte_byte (Nat.le_of_ble_eq_true rfl) (Nat.le_of_ble_eq_true rfl) ?_
  simp only [A_slices_Concat_byte_byte, argL, objL, List.length_nil, x_seq]
  refine aw_reg 16 (RG.go fun Q hQ => ?_)
  simp only [RX, eff, ev_k, setS_cons, setS_nil, AOp.isCall, setD, setEs, presOf, AOp.needs, idsOf, AOp.rds, List.map_nil, List.nil_append, true_and, Bool.false_eq_true, reduceCtorEq, Nat.reduceAdd, ↓reduceIte]
  refine hQ _ _ _ _ _ (RG.nil ?_)
  simp only [x_seq, x_tn]
  refine aw_reg 160 (RG.go fun Q hQ => ?_)
  simp only [RX, eff, ev_k, setS_cons, setS_nil, AOp.isCall, setD, setEs, presOf, AOp.needs, idsOf, AOp.rds, List.map_nil, List.nil_append, true_and, Bool.false_eq_true, reduceCtorEq, Nat.reduceAdd, Nat.reduceEqDiff, ↓reduceIte]
  refine hQ _ _ _ _ _ (RG.nil ?_)
  simp only [x_seq, x_tn]
  refine aw_reg 320 (RG.go fun Q hQ => ?_)
  simp only [RX, eff, ev_t, ev_k, lk_cons, setS_cons, setS_nil, AOp.isCall, setD, setEs, presOf, AOp.needs, SV.one?, SV.pre, idsOf, AOp.rds, AOp.ops, SV.ids, C.ids0, rowsOf, List.map_nil, List.nil_append, true_and, and_self, Bool.false_eq_true, reduceCtorEq, Nat.reduceAdd, Nat.reduceEqDiff, ↓reduceIte, Option.bind_some, List.append_nil]
  refine hQ _ _ _ _ _ (RG.nil ?_)
  simp only [x_block, x_tn]
  refine aw_loop (X := { i : Nat // i ≤ parts.length }) (fun i => mkSt [(0, .c (.sl (parts.map prow))), (3, I ((parts.take i.1).flatten.length : Nat)), (9, .c (.sl (parts.map prow))), (10, I parts.length), (11, I i.1)] []) (fun i => parts.length - i.1) ⟨0, Nat.zero_le _⟩ ?_ ?_
  · refine Le.lit [] [] _ _ ?_ ?_ ?_ ?_
    · skip
      simp only [Int.cast_ofNat_Int, allL, lk_cons, lkE_nil, WkSV, WkSV1, WkC, WkC0, rlook, frzEs, Nat.reduceEqDiff, ↓reduceIte, reduceCtorEq, true_and, and_true, ne_eq, not_true_eq_false]
      simp
    · skip
      simp only [allL]
    · simp
    · simp
  rintro ⟨i, hi⟩
  have hfl := flat_len parts i
  simp only [x_seq]
  refine aw_reg 480 (RG.go fun Q hQ => ?_)
  simp only [RX, eff, ev_t, lk_cons, setS_cons, setS_nil, AOp.isCall, setD, setEs, presOf, AOp.needs, SV.one?, SV.pre, binV, idsOf, AOp.rds, AOp.ops, SV.ids, C.ids0, Option.map_some, List.map_nil, List.nil_append, true_and, and_self, Bool.false_eq_true, reduceCtorEq, Nat.reduceAdd, Nat.reduceEqDiff, ↓reduceIte, List.append_nil]
  refine hQ _ _ _ _ _ (RG.nil ?_)
  simp only [x_seq, x_tn]
  refine aw_cond _ rfl trivial (fun ht => ?_) (fun hf => ?_)
  · have hi' : i < parts.length := by simpa using ht
    have hr : (List.map prow parts)[(i : Int).toNat]?.getD [] = [.sl (parts[i].map brow)] := by simp [hi', prow]
    have hfl2 := flat_len parts (i + 1)
    have hft := flat_take parts i hi'
    have hw : IntKind.i64.wrap (((parts.take i).flatten.length : Nat) + ((parts[i].map brow).length : Int)) = ((parts.take (i + 1)).flatten.length : Nat) := by
      rw [hft] at hfl2 ⊢
      rw [List.length_append, List.length_map] at *
      rw [w64 _ (by omega) (by omega)]; omega
    simp only [x_seq, x_block, x_skip, x_tn]
    refine aw_reg 640 (RG.go fun Q hQ => ?_)
    simp only [RX, eff, ev_t, lk_cons, setS_cons, setS_nil, AOp.isCall, setD, setEs, presOf, AOp.needs, SV.one?, SV.pre, idsOf, AOp.rds, AOp.ops, SV.ids, C.ids0, Option.getD_some, List.length_cons, List.length_nil, List.getElem?_cons_zero, List.map_nil, List.nil_append, and_true, true_and, and_self, Bool.false_eq_true, reduceCtorEq, Nat.reduceAdd, Nat.reduceEqDiff, Nat.reduceLT, ↓reduceIte, Nat.zero_add, List.append_nil, C_default, hr]
    refine ⟨by simp; omega, hQ _ _ _ _ _ (RG.nil ?_)⟩
    simp only [x_seq, x_tn]
    refine aw_reg 800 (RG.go fun Q hQ => ?_)
    simp only [RX, eff, ev_t, lk_cons, setS_cons, setS_nil, AOp.isCall, setD, setEs, presOf, AOp.needs, SV.one?, SV.pre, binV, idsOf, AOp.rds, AOp.ops, SV.ids, C.ids0, rowsOf, Option.map_some, List.map_nil, List.nil_append, true_and, and_self, Bool.false_eq_true, reduceCtorEq, Nat.reduceAdd, Nat.reduceEqDiff, ↓reduceIte, Option.bind_some, List.append_nil, hw]
    refine hQ _ _ _ _ _ (RG.nil ?_)
    simp only [x_seq, x_tn]
    refine aw_reg 960 (RG.go fun Q hQ => ?_)
    simp only [RX, eff, ev_t, ev_k, lk_cons, setS_cons, setS_nil, AOp.isCall, setD, setEs, presOf, AOp.needs, SV.one?, SV.pre, binV, idsOf, AOp.rds, AOp.ops, SV.ids, C.ids0, Option.map_some, List.map_nil, List.nil_append, true_and, and_self, Bool.false_eq_true, reduceCtorEq, Nat.reduceAdd, Nat.reduceEqDiff, ↓reduceIte, List.append_nil]
    refine hQ _ _ _ _ _ (RG.nil ?_)
    simp only [x_tn]
    refine aw_cond _ rfl trivial (fun ht2 => ?_) (fun hf2 => ?_)
    · exfalso; simp at ht2; omega
    simp only [x_skip, x_tn, x_bn]
    refine aw_reg 1200 (RG.go fun Q hQ => ?_)
    simp only [RX, eff, ev_t, ev_k, lk_cons, setS_cons, setS_nil, AOp.isCall, setD, setEs, presOf, AOp.needs, SV.one?, SV.pre, binV, idsOf, AOp.rds, AOp.ops, SV.ids, C.ids0, Option.map_some, List.map_nil, List.nil_append, true_and, and_self, Bool.false_eq_true, reduceCtorEq, Nat.reduceAdd, Nat.reduceEqDiff, ↓reduceIte, List.append_nil]
    refine hQ _ _ _ _ _ (RG.nil ?_)
    simp only [x_ln]
    refine ⟨⟨i + 1, hi'⟩, ?_, by simp; omega⟩
    refine Le.lit [] [] _ _ ?_ ?_ ?_ ?_
    · skip
      simp only [allL, lk_cons, lkE_nil, WkSV, WkSV1, WkC, WkC0, rlook, frzEs, Nat.reduceEqDiff, ↓reduceIte, reduceCtorEq, true_and, and_true, ne_eq, not_true_eq_false]
      rw [w64 _ (by omega) (by omega)]; rfl
    · skip
      simp only [allL]
    · simp
    · simp
  have hi' : i = parts.length := by simp at hf; omega
  subst hi'
  rw [List.take_length]
  simp only [x_seq, x_exit, x_tn, x_tx, x_bx, x_lx, ↓reduceIte]
  refine aw_reg 640 (RG.go fun Q hQ => ?_)
  simp only [RX, eff, ev_t, lk_cons, setS_cons, setS_nil, AOp.isCall, setD, setEs, presOf, AOp.needs, idsOf, AOp.rds, List.map_nil, List.nil_append, true_and, Bool.false_eq_true, reduceCtorEq, Nat.reduceAdd, Nat.reduceEqDiff, ↓reduceIte]
  refine hQ _ _ _ _ _ ?_
  refine RG.callo [] [] (slices_Grow_con parts.flatten.length hb) (.mk (tr_cons tr_v (tr_cons tr_v tr_nil)) (trivial) (by simp) (by simp) (trivial) (by simp [lkE_nil]) (by simp [Ent.pure, isDRows]) (by simp) (by simp)) ?_
  refine RG.go fun Q hQ => ?_
  simp only [RX, eff, ev_t, lk_cons, lkE_nil, setS_cons, setS_nil, setE_nil, AOp.isCall, setD, setEs, presOf, AOp.needs, idsOf, AOp.rds, List.drop_zero, List.length_cons, List.length_nil, List.map_cons, List.map_nil, List.nil_append, true_and, Bool.false_eq_true, reduceCtorEq, Nat.reduceAdd, Nat.reduceEqDiff, ↓reduceIte, Nat.zero_add, renSV, renSV1, renC, renC0, rn, renEnt, backUps, List.zip_nil_left, List.zipIdx_cons, List.zipIdx_nil, List.filterMap_nil, List.append_nil, List.getElem?_nil, Nat.sub_self, Nat.sub_zero, Nat.add_zero]
  refine hQ _ _ _ _ _ (RG.nil ?_)
  simp only [x_seq, x_tn]
  refine aw_reg 960 (RG.go fun Q hQ => ?_)
  simp only [RX, eff, ev_t, ev_k, lk_cons, setS_cons, setS_nil, AOp.isCall, setD, setEs, presOf, AOp.needs, SV.one?, SV.pre, idsOf, AOp.rds, AOp.ops, SV.ids, C.ids0, rowsOf, List.map_nil, List.nil_append, true_and, and_self, Bool.false_eq_true, reduceCtorEq, Nat.reduceAdd, Nat.reduceEqDiff, ↓reduceIte, Option.bind_some, List.append_nil]
  refine hQ _ _ _ _ _ (RG.nil ?_)
  simp only [x_block, x_tn]
  refine aw_loop (X := { i : Nat // i ≤ parts.length }) (fun i => mkSt [(6, .c (.osl 1000)), (25, .c (.sl (parts.map prow))), (26, I parts.length), (27, I i.1)] [(1000, .arr 5 1 ((parts.take i.1).flatten.map brow) false)]) (fun i => parts.length - i.1) ⟨0, Nat.zero_le _⟩ ?_ ?_
  · refine Le.lit [] [(1000, 656)] _ _ ?_ ?_ ?_ ?_
    · skip
      simp only [Int.cast_ofNat_Int, allL, lk_cons, lkE_cons, lkE_nil, WkSV, WkSV1, WkC, WkC0, rlook, frzEs, Nat.reduceEqDiff, ↓reduceIte, reduceCtorEq, true_and, and_true, ne_eq, not_false_eq_true]
      simp
    · skip
      simp only [allL, lkE_cons, lkE_nil, WkEnt, rlook, frzEs, isDRows, Option.some.injEq, ↓reduceIte, reduceCtorEq, true_and, and_true, exists_eq_left', ne_eq, true_or]
      simp
    · simp
    · simp
  rintro ⟨i, hi⟩
  have hfl := flat_len parts i
  simp only [x_seq]
  refine aw_reg 1480 (RG.go fun Q hQ => ?_)
  simp only [RX, eff, ev_t, lk_cons, setS_cons, setS_nil, AOp.isCall, setD, setEs, presOf, AOp.needs, SV.one?, SV.pre, binV, idsOf, AOp.rds, AOp.ops, SV.ids, C.ids0, Option.map_some, List.map_nil, List.nil_append, true_and, and_self, Bool.false_eq_true, Nat.reduceAdd, Nat.reduceEqDiff, ↓reduceIte, List.append_nil]
  refine hQ _ _ _ _ _ (RG.nil ?_)
  simp only [x_seq, x_tn]
  refine aw_cond _ rfl trivial (fun ht => ?_) (fun hf => ?_)
  · have hi' : i < parts.length := by simpa using ht
    have hr : (List.map prow parts)[(i : Int).toNat]?.getD [] = [.sl (parts[i].map brow)] := by simp [hi', prow]
    have hfl2 := flat_len parts (i + 1)
    have hft := flat_take parts i hi'
    simp only [x_seq, x_block, x_skip, x_tn]
    refine aw_reg 1640 (RG.go fun Q hQ => ?_)
    simp only [RX, eff, ev_t, lk_cons, setS_cons, setS_nil, AOp.isCall, setD, setEs, presOf, AOp.needs, SV.one?, SV.pre, idsOf, AOp.rds, AOp.ops, SV.ids, C.ids0, Option.getD_some, List.length_cons, List.length_nil, List.getElem?_cons_zero, List.map_nil, List.nil_append, and_true, true_and, and_self, Bool.false_eq_true, Nat.reduceAdd, Nat.reduceEqDiff, Nat.reduceLT, ↓reduceIte, Nat.zero_add, List.append_nil, C_default, hr]
    refine ⟨by simp; omega, hQ _ _ _ _ _ (RG.nil ?_)⟩
    simp only [x_tn]
    refine aw_reg 1800 (RG.go fun Q hQ => ?_)
    simp only [RX, eff, ev_t, lk_cons, lkE_cons, lkE_nil, setS_cons, setS_nil, setE_cons, setE_nil, AOp.isCall, setD, setEs, presOf, AOp.needs, SV.one?, SV.pre, idsOf, AOp.rds, AOp.ops, SV.ids, C.ids0, rowsOf, srcOf, Option.map_some, List.map_cons, List.map_nil, List.nil_append, List.cons_append, true_and, and_self, Bool.false_eq_true, Nat.reduceAdd, Nat.reduceEqDiff, ↓reduceIte, List.append_nil]
    refine ⟨⟨brow_len _, by rw [hft, List.length_append] at hfl2; simp only [List.length_map]; omega⟩, hQ _ _ _ _ _ (RG.nil ?_)⟩
    simp only [x_tn, x_bn]
    refine aw_reg 2200 (RG.go fun Q hQ => ?_)
    simp only [RX, eff, ev_t, ev_k, lk_cons, setS_cons, setS_nil, AOp.isCall, setD, setEs, presOf, AOp.needs, SV.one?, SV.pre, binV, idsOf, AOp.rds, AOp.ops, SV.ids, C.ids0, Option.map_some, List.map_nil, List.nil_append, true_and, and_self, Bool.false_eq_true, Nat.reduceAdd, Nat.reduceEqDiff, ↓reduceIte, List.append_nil]
    refine hQ _ _ _ _ _ (RG.nil ?_)
    simp only [x_ln]
    refine ⟨⟨i + 1, hi'⟩, ?_, by simp; omega⟩
    refine Le.lit [] [(1000, 1832)] _ _ ?_ ?_ ?_ ?_
    · skip
      simp only [allL, lk_cons, lkE_cons, lkE_nil, WkSV, WkSV1, WkC, WkC0, rlook, frzEs, Nat.reduceEqDiff, ↓reduceIte, reduceCtorEq, true_and, and_true, ne_eq, not_false_eq_true]
      rw [w64 _ (by omega) (by omega)]; rfl
    · skip
      simp only [allL, lkE_cons, lkE_nil, WkEnt, rlook, frzEs, isDRows, Option.some.injEq, Nat.reduceEqDiff, ↓reduceIte, reduceCtorEq, true_and, and_true, exists_eq_left', ne_eq, true_or]
      exact ⟨by rw [hft, List.map_append], drows_brow _⟩
    · simp
    · simp
  have hi' : i = parts.length := by simp at hf; omega
  subst hi'
  simp only [x_seq, x_exit, x_tn, x_tx, x_bx, x_lx, ↓reduceIte]
  refine aw_reg 1640 (RG.go fun Q hQ => ?_)
  simp only [RX, eff, ev_t, lk_cons, setS_cons, setS_nil, AOp.isCall, setD, setEs, presOf, AOp.needs, idsOf, AOp.rds, List.map_nil, List.nil_append, true_and, Bool.false_eq_true, Nat.reduceAdd, Nat.reduceEqDiff, ↓reduceIte]
  refine hQ _ _ _ _ _ (RG.nil ?_)
  simp only [x_ret, x_tn]
  refine Fin.objs [] [(0, 1000)] (.inr rfl) rfl (by first | exact trivial | exact ⟨trivial, trivial⟩ | exact ⟨trivial, trivial, trivial⟩) ?_ ?_ (by simp [objL, rlook]) (by simp [objL, rlook])
  · simp only [mkSt_sl, lk_cons, lkE_cons, lkE_nil, WkSV, WkSV1, WkC, WkC0, rlook, frzEs, objL, Nat.reduceEqDiff, ↓reduceIte, reduceCtorEq, and_true, ne_eq, not_false_eq_true]
  · simp only [allL, lkE_cons, lkE_nil, WkEnt, rlook, frzEs, objL, isDRows, Option.some.injEq, ↓reduceIte, reduceCtorEq, true_and, and_true, exists_eq_left', ne_eq, true_or]
    exact ⟨by rw [List.take_length], drows_brow _⟩

theorem pack_Join_con (parts : List (List Nat)) (hb : parts.flatten.length ≤ 100000000000000) (hp : parts.length ≤ 100000000000000) : Con Try.prog 29 [.c (.sl (parts.map prow))] [] (.c (.osl 0)) [.arr 5 1 (parts.flatten.map brow) false] := by
  refine C_pack_Join (Nat.le_of_ble_eq_true rfl) (Nat.le_of_ble_eq_true rfl) ?_
  simp only [A_pack_Join, argL, objL, List.length_nil, x_seq]
  refine aw_reg 16 (RG.go fun Q hQ => ?_)
  simp only [RX, eff, ev_k, setS_cons, setS_nil, AOp.isCall, setD, setEs, presOf, AOp.needs, idsOf, AOp.rds, List.map_nil, List.nil_append, true_and, Bool.false_eq_true, reduceCtorEq, Nat.reduceAdd, ↓reduceIte]
  refine hQ _ _ _ _ _ (RG.nil ?_)
  simp only [x_seq, x_tn]
  refine aw_reg 160 (RG.go fun Q hQ => ?_)
  simp only [RX, eff, ev_t, lk_cons, setS_cons, setS_nil, AOp.isCall, setD, setEs, presOf, AOp.needs, idsOf, AOp.rds, List.map_nil, List.nil_append, true_and, Bool.false_eq_true, reduceCtorEq, Nat.reduceAdd, Nat.reduceEqDiff, ↓reduceIte]
  refine hQ _ _ _ _ _ ?_
  refine RG.callo [] [] (slices_Concat_con parts hb hp) (.mk (tr_cons tr_sl tr_nil) (trivial) (by simp) (by simp) (trivial) (by simp [lkE_nil]) (by simp only [List.mem_singleton, forall_eq, Ent.pure]; exact drows_brow _) (by simp) (by simp)) ?_
  refine RG.go fun Q hQ => ?_
  simp only [RX, eff, ev_t, lk_cons, lkE_nil, setS_cons, setS_nil, setE_nil, AOp.isCall, setD, setEs, presOf, AOp.needs, idsOf, AOp.rds, List.drop_zero, List.length_cons, List.length_nil, List.map_cons, List.map_nil, List.nil_append, true_and, Bool.false_eq_true, reduceCtorEq, Nat.reduceAdd, Nat.reduceEqDiff, ↓reduceIte, Nat.zero_add, renSV, renSV1, renC, renC0, rn, renEnt, backUps, List.zip_nil_left, List.zipIdx_cons, List.zipIdx_nil, List.filterMap_nil, List.append_nil, List.getElem?_nil, Nat.sub_self, Nat.sub_zero, Nat.add_zero]
  refine hQ _ _ _ _ _ (RG.nil ?_)
  simp only [x_ret, x_tn]
  refine Fin.objs [] [(0, 176)] (.inr rfl) rfl (by first | exact trivial | exact ⟨trivial, trivial⟩ | exact ⟨trivial, trivial, trivial⟩) ?_ ?_ (by simp [objL, rlook]) (by simp [objL, rlook])
  · simp only [mkSt_sl, lk_cons, lkE_cons, lkE_nil, WkSV, WkSV1, WkC, WkC0, rlook, frzEs, objL, ↓reduceIte, reduceCtorEq, and_true, ne_eq, not_false_eq_true]
  · simp only [allL, lkE_cons, lkE_nil, WkEnt, rlook, frzEs, objL, isDRows, Option.some.injEq, ↓reduceIte, reduceCtorEq, true_and, and_true, exists_eq_left', ne_eq, true_or]
    exact drows_brow _

end Go.Abs
namespace Go.Abs
open Go Go.Proofs
set_option maxRecDepth 100000
set_option linter.unusedSimpArgs false

/-- An entry's bytes. -/
def putE (index term kind : Int) (data : List Nat) : List Nat :=
  if entryRight index term kind data then putS [index.toNat, term.toNat, kind.toNat] ++ (num7 data.length ++ data) else []

theorem entryRight_facts {index term kind : Int} {data : List Nat} (h : entryRight index term kind data = true) : 1 ≤ index ∧ index ≤ 1099511627776 ∧ 0 ≤ term ∧ term ≤ 1099511627776 ∧ 0 ≤ kind ∧ kind ≤ 2 ∧ data.length ≤ 32767 := by
  unfold entryRight timeS at h
  simp only [Bool.and_eq_true, decide_eq_true_eq] at h
  obtain ⟨⟨⟨h1, h2⟩, h3⟩, h4⟩ := h
  split at h4
  · simp at h4; subst h4; simp; omega
  · split at h4
    · simp at h4; omega
    · split at h4
      · simp at h4; omega
      · simp at h4

theorem u64_nat {n : Int} (h : 0 ≤ n) (h' : n ≤ 9223372036854775807) : IntKind.u64.wrap n = (n.toNat : Int) := by rw [w_u64]; omega

abbrev entC (index term kind : Int) (data : List Nat) : List C := [.v (.int .i64 index), .v (.int .i64 term), .v (.int .i64 kind), .sl (data.map brow)]

theorem entry_Put_con (index term kind : Int) (data : List Nat) : Con Try.prog 10 [.agg (entC index term kind data)] [] (.c (.sl ((putE index term kind data).map brow))) [] := by
  refine C_entry_Put (Nat.le_of_ble_eq_true rfl) (Nat.le_of_ble_eq_true rfl) ?_
  simp only [A_entry_Put, argL, objL, List.length_nil, x_seq]
  refine aw_reg 16 (RG.go fun Q hQ => ?_)
  simp only [RX, eff, ev_t, ev_k, lk_cons, lkE_nil, setS_cons, setS_nil, setE_nil, AOp.isCall, setD, setEs, presOf, AOp.needs, SV.pre, SV.cells, idsOf, AOp.rds, AOp.ops, SV.ids, List.map_cons, List.map_nil, List.nil_append, true_and, and_self, Bool.false_eq_true, reduceCtorEq, Nat.reduceAdd, Nat.reduceEqDiff, ↓reduceIte, List.append_nil]
  refine hQ _ _ _ _ _ (RG.nil ?_)
  simp only [x_seq, x_tn]
  refine aw_reg 160 (RG.go fun Q hQ => ?_)
  simp only [RX, eff, ev_t, lk_cons, lkE_cons, setS_cons, setS_nil, AOp.isCall, setD, setEs, presOf, AOp.needs, SV.one?, SV.pre, idsOf, AOp.rds, AOp.ops, SV.ids, C.ids0, List.take_succ_cons, List.take_zero, List.drop_zero, List.length_cons, List.length_nil, List.map_nil, List.nil_append, List.cons_append, true_and, and_self, Bool.false_eq_true, reduceCtorEq, Nat.reduceAdd, Nat.reduceEqDiff, ↓reduceIte, Nat.zero_add, Nat.le_refl, List.append_nil]
  refine hQ _ _ _ _ _ ?_
  refine RG.call [] (entry_Right_con index term kind data) (by simp only [TrL, TrSV, TrC, TrC0, lk_cons, ev_t, List.map_cons, List.map_nil, Nat.reduceEqDiff, ↓reduceIte, reduceCtorEq, and_self]) (trivial) (.inl trivial) ?_
  refine RG.go fun Q hQ => ?_
  simp only [RX, eff, ev_t, lk_cons, setS_cons, setS_nil, AOp.isCall, setD, setEs, presOf, AOp.needs, SV.one?, SV.pre, unV, idsOf, AOp.rds, AOp.ops, SV.ids, C.ids0, Option.map_some, List.map_nil, List.nil_append, true_and, and_self, Bool.false_eq_true, reduceCtorEq, Nat.reduceAdd, Nat.reduceEqDiff, ↓reduceIte, List.append_nil]
  refine hQ _ _ _ _ _ (RG.nil ?_)
  simp only [x_tn]
  refine aw_cond _ rfl trivial (fun ht => ?_) (fun hf => ?_)
  · have he : entryRight index term kind data = false := by simpa using ht
    simp only [x_seq]
    refine aw_reg 600 (RG.go fun Q hQ => ?_)
    simp only [RX, eff, ev_k, setS_cons, AOp.isCall, setD, setEs, presOf, AOp.needs, idsOf, AOp.rds, List.map_nil, List.nil_append, true_and, Bool.false_eq_true, reduceCtorEq, Nat.reduceAdd, Nat.reduceEqDiff, ↓reduceIte]
    refine hQ _ _ _ _ _ (RG.nil ?_)
    simp only [x_ret, x_tn, x_tr]
    have hp : putE index term kind data = [] := by simp [putE, he]
    rw [hp]
    exact Fin.data [] (.inr rfl) rfl trivial ⟨rfl, rfl⟩
  have he : entryRight index term kind data = true := by simpa using hf
  obtain ⟨h1, h2, h3, h4, h5, h6, h7⟩ := entryRight_facts he
  have w1 := u64_nat (n := index) (by omega) (by omega)
  have w2 := u64_nat (n := term) (by omega) (by omega)
  have w3 := u64_nat (n := kind) (by omega) (by omega)
  have hp : putE index term kind data = putS [index.toNat, term.toNat, kind.toNat] ++ (num7 data.length ++ data) := by simp [putE, he]
  simp only [x_seq, x_skip, x_tn]
  refine aw_draw 800 (RG.go fun Q hQ => ?_)
  simp only [RX, eff, ev_t, lk_cons, lkE_cons, lkE_nil, setS_cons, setS_nil, setE_cons, setE_nil, AOp.isCall, setD, setEs, presOf, AOp.needs, SV.one?, SV.pre, SV.cells, idsOf, AOp.rds, AOp.ops, SV.ids, C.ids0, bSRows, List.length_cons, List.length_nil, List.getElem?_cons_zero, List.getElem?_cons_succ, Option.map_some, List.map_cons, List.map_nil, List.nil_append, List.cons_append, true_and, and_self, Bool.false_eq_true, reduceCtorEq, Nat.reduceAdd, Nat.reduceEqDiff, ↓reduceIte, Nat.zero_add, List.append_nil, Nat.add_zero, w1, w2, w3]
  refine hQ _ _ _ _ _ ?_
  refine RG.callo [] [944] ((pack_Put_con [index.toNat, term.toNat, kind.toNat] (by simp) (by simp; omega)).rows (drows_brow _)) (.mk (tr_cons (tr_view (by simp) rfl (by simp [isDRows, urow, C.isD])) tr_nil) (trivial) (by simp) (by simp) (views1 rfl trivial) (by simp [lkE_cons, lkE_nil]) (by simp) (by simp) (by simp)) ?_
  refine RG.go fun Q hQ => ?_
  simp only [RX, eff, ev_t, lk_cons, lkE_cons, lkE_nil, setS_cons, setS_nil, setE_cons, AOp.isCall, setD, setEs, presOf, AOp.needs, SV.one?, SV.pre, idsOf, AOp.rds, AOp.ops, SV.ids, C.ids0, List.drop_zero, List.length_nil, List.getElem?_cons_zero, List.getElem?_cons_succ, Option.map_some, List.map_cons, List.map_nil, List.nil_append, List.cons_append, true_and, and_self, Bool.false_eq_true, reduceCtorEq, Nat.reduceAdd, Nat.reduceEqDiff, ↓reduceIte, Nat.zero_add, renSV, renSV1, renC, renC0, renEnt, backUps, List.zip_nil_right, List.zipIdx_nil, List.filterMap_cons, List.filterMap_nil, List.append_nil, List.range_zero, Nat.sub_self]
  refine hQ _ _ _ _ _ ?_
  refine RG.callo [] [] ((pack_Lump_con data (by omega)).rows (drows_brow _)) (.mk (tr_cons tr_sl tr_nil) (trivial) (by simp) (by simp) (trivial) (by simp [lkE_cons, lkE_nil]) (by simp) (by simp) (by simp)) ?_
  refine RG.go fun Q hQ => ?_
  simp only [RX, eff, ev_t, lk_cons, lkE_cons, lkE_nil, setS_cons, setS_nil, setE_cons, setE_nil, AOp.isCall, setD, setEs, presOf, AOp.needs, SV.pre, SV.cells, idsOf, AOp.rds, AOp.ops, SV.ids, C.ids0, bSRows, List.drop_zero, List.length_cons, List.length_nil, List.map_cons, List.map_nil, List.nil_append, true_and, and_self, Bool.false_eq_true, reduceCtorEq, Nat.reduceAdd, Nat.reduceEqDiff, ↓reduceIte, Nat.zero_add, renSV, renSV1, renC, renC0, renEnt, backUps, List.zip_nil_right, List.zipIdx_nil, List.filterMap_nil, List.append_nil, List.range_zero, Nat.sub_self]
  refine hQ _ _ _ _ _ ?_
  have hlen : ([putS [index.toNat, term.toNat, kind.toNat], num7 data.length ++ data] : List (List Nat)).flatten.length ≤ 100000000000000 := by
    have g1 := putS_len [index.toNat, term.toNat, kind.toNat] (by simp; omega)
    have g2 := num7_len data.length (by omega)
    simp only [List.length_cons, List.length_nil] at g1
    simp; omega
  have hfl : ([putS [index.toNat, term.toNat, kind.toNat], num7 data.length ++ data] : List (List Nat)).flatten = putE index term kind data := by rw [hp]; simp
  refine RG.callo [] [1024] ((pack_Join_con [putS [index.toNat, term.toNat, kind.toNat], num7 data.length ++ data] hlen (by simp)).rows (drows_brow _)) (.mk (tr_cons (tr_view (by simp) rfl (by simp [isDRows, prow, C.isD])) tr_nil) (trivial) (by simp) (by simp) (views1 rfl trivial) (by simp [lkE_cons, lkE_nil]) (by simp) (by simp) (by simp)) ?_
  refine RG.go fun Q hQ => ?_
  simp only [RX, eff, ev_t, lk_cons, lkE_cons, lkE_nil, setS_cons, setS_nil, setE_cons, AOp.isCall, setD, setEs, presOf, AOp.needs, idsOf, AOp.rds, List.drop_zero, List.length_nil, List.map_cons, List.map_nil, List.nil_append, true_and, Bool.false_eq_true, reduceCtorEq, Nat.reduceAdd, Nat.reduceEqDiff, ↓reduceIte, renSV, renSV1, renC, renC0, renEnt, backUps, List.zip_nil_right, List.zipIdx_nil, List.filterMap_cons, List.filterMap_nil, List.append_nil, List.range_zero, Nat.sub_self]
  refine hQ _ _ _ _ _ (RG.nil ⟨by decide, ?_⟩)
  simp only [x_ret, x_tn]
  rw [hfl]
  exact Fin.data [] (.inr rfl) rfl trivial rfl

theorem mementoref6_PutEntry_con (index term kind : Int) (data : List Nat) : Con Try.prog 11 [.agg (entC index term kind data)] [] (.c (.sl ((putE index term kind data).map brow))) [] := by
  refine C_mementoref6_PutEntry (Nat.le_of_ble_eq_true rfl) (Nat.le_of_ble_eq_true rfl) ?_
  simp only [A_mementoref6_PutEntry, argL, objL, List.length_nil, x_seq]
  refine aw_reg 16 (RG.go fun Q hQ => ?_)
  simp only [RX, eff, ev_t, ev_k, lk_cons, lkE_nil, setS_cons, setS_nil, setE_nil, AOp.isCall, setD, setEs, presOf, AOp.needs, SV.pre, SV.cells, idsOf, AOp.rds, AOp.ops, SV.ids, List.map_cons, List.map_nil, List.nil_append, true_and, and_self, Bool.false_eq_true, reduceCtorEq, Nat.reduceAdd, Nat.reduceEqDiff, ↓reduceIte, List.append_nil]
  refine hQ _ _ _ _ _ (RG.nil ?_)
  simp only [x_seq, x_tn]
  refine aw_reg 160 (RG.go fun Q hQ => ?_)
  simp only [RX, eff, ev_t, lk_cons, lkE_cons, setS_cons, setS_nil, AOp.isCall, setD, setEs, presOf, AOp.needs, SV.one?, SV.pre, idsOf, AOp.rds, AOp.ops, SV.ids, C.ids0, List.take_succ_cons, List.take_zero, List.drop_zero, List.length_cons, List.length_nil, List.map_nil, List.nil_append, List.cons_append, true_and, and_self, Bool.false_eq_true, reduceCtorEq, Nat.reduceAdd, Nat.reduceEqDiff, ↓reduceIte, Nat.zero_add, Nat.le_refl, List.append_nil]
  refine hQ _ _ _ _ _ ?_
  refine RG.call [] (mementoref6_EntryRight_con index term kind data) (by simp only [TrL, TrSV, TrC, TrC0, lk_cons, ev_t, List.map_cons, List.map_nil, Nat.reduceEqDiff, ↓reduceIte, reduceCtorEq, and_self]) (trivial) (.inl trivial) ?_
  refine RG.go fun Q hQ => ?_
  simp only [RX, eff, ev_t, lk_cons, setS_cons, setS_nil, AOp.isCall, setD, setEs, presOf, AOp.needs, SV.one?, SV.pre, unV, idsOf, AOp.rds, AOp.ops, SV.ids, C.ids0, Option.map_some, List.map_nil, List.nil_append, true_and, and_self, Bool.false_eq_true, reduceCtorEq, Nat.reduceAdd, Nat.reduceEqDiff, ↓reduceIte, List.append_nil]
  refine hQ _ _ _ _ _ (RG.nil ?_)
  simp only [x_tn]
  refine aw_cond _ rfl trivial (fun ht => ?_) (fun hf => ?_)
  · have he : entryRight index term kind data = false := by simpa using ht
    simp only [x_seq]
    refine aw_reg 600 (RG.go fun Q hQ => ?_)
    simp only [RX, eff, ev_k, setS_cons, AOp.isCall, setD, setEs, presOf, AOp.needs, idsOf, AOp.rds, List.map_nil, List.nil_append, true_and, Bool.false_eq_true, reduceCtorEq, Nat.reduceAdd, Nat.reduceEqDiff, ↓reduceIte]
    refine hQ _ _ _ _ _ (RG.nil ?_)
    simp only [x_ret, x_tn, x_tr]
    have hp : putE index term kind data = [] := by simp [putE, he]
    rw [hp]
    exact Fin.data [] (.inr rfl) rfl trivial ⟨rfl, rfl⟩
  have he : entryRight index term kind data = true := by simpa using hf
  obtain ⟨h1, h2, h3, h4, h5, h6, h7⟩ := entryRight_facts he
  have w1 := u64_nat (n := index) (by omega) (by omega)
  have w2 := u64_nat (n := term) (by omega) (by omega)
  have w3 := u64_nat (n := kind) (by omega) (by omega)
  have hp : putE index term kind data = putS [index.toNat, term.toNat, kind.toNat] ++ (num7 data.length ++ data) := by simp [putE, he]
  simp only [x_seq, x_skip, x_tn]
  refine aw_draw 800 (RG.go fun Q hQ => ?_)
  simp only [RX, eff, ev_t, lk_cons, lkE_cons, lkE_nil, setS_cons, setS_nil, setE_cons, setE_nil, AOp.isCall, setD, setEs, presOf, AOp.needs, SV.one?, SV.pre, SV.cells, idsOf, AOp.rds, AOp.ops, SV.ids, C.ids0, bSRows, List.length_cons, List.length_nil, List.getElem?_cons_zero, List.getElem?_cons_succ, Option.map_some, List.map_cons, List.map_nil, List.nil_append, List.cons_append, true_and, and_self, Bool.false_eq_true, reduceCtorEq, Nat.reduceAdd, Nat.reduceEqDiff, ↓reduceIte, Nat.zero_add, List.append_nil, Nat.add_zero, w1, w2, w3]
  refine hQ _ _ _ _ _ ?_
  refine RG.callo [] [944] (mementoref1_Put_con [index.toNat, term.toNat, kind.toNat] (by simp) (by simp; omega)) (.mk (tr_cons (tr_view (by simp) rfl (by simp [isDRows, urow, C.isD])) tr_nil) (trivial) (by simp) (by simp) (views1 rfl trivial) (by simp [lkE_cons, lkE_nil]) (by simp only [List.mem_singleton, forall_eq, Ent.pure]; exact drows_brow _) (by simp) (by simp)) ?_
  refine RG.go fun Q hQ => ?_
  simp only [RX, eff, ev_t, lk_cons, lkE_cons, lkE_nil, setS_cons, setS_nil, setE_cons, setE_nil, AOp.isCall, setD, setEs, presOf, AOp.needs, SV.one?, SV.pre, idsOf, AOp.rds, AOp.ops, SV.ids, C.ids0, List.drop_zero, List.length_cons, List.length_nil, List.getElem?_cons_zero, List.getElem?_cons_succ, Option.map_some, List.map_cons, List.map_nil, List.nil_append, List.cons_append, true_and, and_self, Bool.false_eq_true, reduceCtorEq, Nat.reduceAdd, Nat.reduceEqDiff, ↓reduceIte, Nat.zero_add, renSV, renSV1, renC, renC0, rn, renEnt, backUps, List.zip_nil_left, List.zipIdx_cons, List.zipIdx_nil, List.filterMap_cons, List.filterMap_nil, List.append_nil, List.getElem?_nil, Nat.sub_self, Nat.sub_zero, Nat.add_zero]
  refine hQ _ _ _ _ _ ?_
  refine RG.callo [] [] ((mementoref1_Lump_con data (by omega)).rows (drows_brow _)) (.mk (tr_cons tr_sl tr_nil) (trivial) (by simp) (by simp) (trivial) (by simp [lkE_cons, lkE_nil]) (by simp) (by simp) (by simp)) ?_
  refine RG.go fun Q hQ => ?_
  simp only [RX, eff, ev_t, lk_cons, lkE_cons, lkE_nil, setS_cons, setS_nil, setE_cons, setE_nil, AOp.isCall, setD, setEs, presOf, AOp.needs, SV.one?, SV.pre, idsOf, AOp.rds, AOp.ops, SV.ids, C.ids0, rowsOf, srcOf, List.drop_zero, List.length_nil, Option.map_some, List.map_cons, List.map_nil, List.nil_append, List.cons_append, true_and, and_self, Bool.false_eq_true, reduceCtorEq, Nat.reduceAdd, Nat.reduceEqDiff, ↓reduceIte, renSV, renSV1, renC, renC0, renEnt, backUps, List.zip_nil_right, List.zipIdx_nil, List.filterMap_nil, List.append_nil, List.range_zero, Nat.sub_self]
  have g1 := putS_len [index.toNat, term.toNat, kind.toNat] (by simp; omega)
  have g2 := num7_len data.length (by omega)
  refine ⟨⟨brow_len _, by simp only [List.length_cons, List.length_nil] at g1; simp; omega⟩, hQ _ _ _ _ _ (RG.nil ⟨by decide, ?_⟩)⟩
  simp only [x_ret, x_tn]
  rw [← List.map_append, ← hp]
  exact Fin.data [1024] (.inr rfl) rfl trivial ⟨⟨_, _, rfl⟩, drows_brow _⟩

end Go.Abs
namespace Go.Abs
open Go Go.Proofs
set_option maxRecDepth 100000
set_option linter.unusedSimpArgs false

/-- Are two entries one? -/
def sameE (i t k : Int) (d : List Nat) (i' t' k' : Int) (d' : List Nat) : Bool := i == i' && t == t' && k == k' && decide (d = d')

theorem entry_Same_con (i t k : Int) (d : List Nat) (i' t' k' : Int) (d' : List Nat) (hd : ∀ c ∈ d, c < 256) (hd' : ∀ c ∈ d', c < 256) : Con Try.prog 13 [.agg (entC i t k d), .agg (entC i' t' k' d')] [] (B (sameE i t k d i' t' k' d')) [] := by
  refine C_entry_Same (Nat.le_of_ble_eq_true rfl) (Nat.le_of_ble_eq_true rfl) ?_
  simp only [A_entry_Same, argL, objL, List.length_nil, Nat.zero_add, x_seq]
  refine aw_reg 16 (RG.go fun Q hQ => ?_)
  simp only [RX, eff, ev_t, ev_k, lk_cons, lkE_cons, lkE_nil, setS_cons, setS_nil, setE_cons, setE_nil, AOp.isCall, setD, setEs, presOf, AOp.needs, SV.pre, SV.cells, idsOf, AOp.rds, AOp.ops, SV.ids, List.map_cons, List.map_nil, List.nil_append, true_and, and_self, Bool.false_eq_true, reduceCtorEq, Nat.reduceAdd, Nat.reduceEqDiff, ↓reduceIte, List.append_nil]
  refine hQ _ _ _ _ _ (RG.nil ?_)
  simp only [x_seq, x_tn]
  refine aw_reg 160 (RG.go fun Q hQ => ?_)
  simp only [RX, eff, ev_t, ev_k, lk_cons, lkE_cons, setS_cons, setS_nil, AOp.isCall, setD, setEs, presOf, AOp.needs, SV.one?, SV.pre, gval, binV, idsOf, AOp.rds, AOp.ops, SV.ids, C.ids0, List.getElem?_cons_zero, List.getElem?_cons_succ, Option.map_some, List.map_nil, List.nil_append, List.cons_append, and_true, true_and, and_self, Bool.true_and, Bool.false_eq_true, beq_true, implies_true, imp_self, Bool.if_false_right, Bool.decide_eq_true, reduceCtorEq, Nat.reduceAdd, Nat.reduceEqDiff, ↓reduceIte, Nat.zero_add, List.append_nil, Nat.add_zero]
  refine hQ _ _ _ _ _ ?_
  refine RG.callg _ _ [] rfl (fun hg => ⟨_, bytes_Equal_con d d' hd hd', tr_cons (tr_opt (by simpa using hg) tr_sl) (tr_cons (tr_opt (by simpa using hg) tr_sl) tr_nil), trivial, .inl trivial⟩) ?_
  refine RG.go fun Q hQ => ?_
  simp only [RX, eff, ev_t, ev_k, lk_cons, setS_cons, setS_nil, AOp.isCall, setD, setEs, presOf, AOp.needs, SV.one?, SV.pre, idsOf, AOp.rds, AOp.ops, SV.ids, C.ids0, List.map_nil, List.nil_append, and_true, true_and, and_self, Bool.true_and, Bool.false_eq_true, beq_true, implies_true, imp_self, Bool.if_false_right, Bool.decide_eq_true, reduceCtorEq, Nat.reduceAdd, Nat.reduceEqDiff, ↓reduceIte, List.append_nil]
  refine hQ _ _ _ _ _ (RG.nil ?_)
  simp only [x_ret, x_tn]
  exact Fin.b (.inr rfl) rfl trivial (by simp [sameE])

theorem mementoref6_SameEntry_con (i t k : Int) (d : List Nat) (i' t' k' : Int) (d' : List Nat) (hd : ∀ c ∈ d, c < 256) (hd' : ∀ c ∈ d', c < 256) : Con Try.prog 14 [.agg (entC i t k d), .agg (entC i' t' k' d')] [] (B (sameE i t k d i' t' k' d')) [] := by
  have hs := str_eq d d' hd hd'
  refine C_mementoref6_SameEntry (Nat.le_of_ble_eq_true rfl) (Nat.le_of_ble_eq_true rfl) ?_
  simp only [A_mementoref6_SameEntry, argL, objL, List.length_nil, Nat.zero_add, x_seq]
  refine aw_reg 16 (RG.go fun Q hQ => ?_)
  simp only [RX, eff, ev_t, ev_k, lk_cons, lkE_cons, lkE_nil, setS_cons, setS_nil, setE_cons, setE_nil, AOp.isCall, setD, setEs, presOf, AOp.needs, SV.pre, SV.cells, idsOf, AOp.rds, AOp.ops, SV.ids, List.map_cons, List.map_nil, List.nil_append, true_and, and_self, Bool.false_eq_true, reduceCtorEq, Nat.reduceAdd, Nat.reduceEqDiff, ↓reduceIte, List.append_nil]
  refine hQ _ _ _ _ _ (RG.nil ?_)
  simp only [x_seq, x_tn]
  refine aw_reg 160 (RG.go fun Q hQ => ?_)
  simp only [RX, eff, ev_t, ev_k, lk_cons, lkE_cons, setS_cons, setS_nil, AOp.isCall, setD, setEs, presOf, AOp.needs, SV.one?, SV.pre, gval, binV, idsOf, AOp.rds, AOp.ops, SV.ids, C.ids0, rowsOf, List.getElem?_cons_zero, List.getElem?_cons_succ, Option.map_some, List.map_nil, List.nil_append, List.cons_append, and_true, true_and, and_self, Bool.true_and, Bool.false_eq_true, beq_true, implies_true, imp_self, Bool.if_false_right, Bool.decide_eq_true, reduceCtorEq, Nat.reduceAdd, Nat.reduceEqDiff, ↓reduceIte, Option.bind_some, Nat.zero_add, List.append_nil, Nat.add_zero, hs]
  refine ⟨fun h => ⟨isByteRow_brow _, h⟩, fun h => ⟨isByteRow_brow _, h⟩, hQ _ _ _ _ _ (RG.nil ?_)⟩
  simp only [x_ret, x_tn]
  exact Fin.b (.inr rfl) rfl trivial (by simp [sameE])

end Go.Abs
namespace Go.Abs
open Go Go.Proofs
set_option maxRecDepth 100000
set_option linter.unusedSimpArgs false

structure ReadE where
  i : Nat
  t : Nat
  k : Nat
  d : List Nat
  ok : Bool
  l : List Nat
  e : Nat

/-- The entry that bytes begin with. -/
def readE (l : List Nat) (e : Nat) : ReadE :=
  let a := numR 1099511627776 l e
  let b := numR 1099511627776 a.2.1 a.2.2
  let c := numR 2 b.2.1 b.2.2
  let d := lumpR 32767 c.2.1 c.2.2
  if d.2.2 = 0 ∧ entryRight a.1 b.1 c.1 d.1 = true then ⟨a.1, b.1, c.1, d.1, true, d.2.1, d.2.2⟩ else ⟨0, 0, 0, [], false, d.2.1, d.2.2⟩

theorem numR_le {most : Nat} {l : List Nat} {e : Nat} : (numR most l e).1 ≤ most := by
  unfold numR
  split
  · simp
  · split
    · simp
    · split
      · simp
      · simp only; omega

theorem lumpR_mem {most : Nat} {l : List Nat} {e : Nat} (hl : ∀ c ∈ l, c < 256) : (∀ c ∈ (lumpR most l e).1, c < 256) ∧ ∀ c ∈ (lumpR most l e).2.1, c < 256 := by
  have h := numR_mem (most := most) (e := e) hl
  unfold lumpR
  split
  · exact ⟨by simp, h⟩
  · split
    · exact ⟨by simp, by simp⟩
    · exact ⟨fun c hc => h c (List.mem_of_mem_take hc), fun c hc => h c (List.mem_of_mem_drop hc)⟩

theorem lumpR_len {most : Nat} {l : List Nat} {e : Nat} : (lumpR most l e).1.length ≤ l.length ∧ (lumpR most l e).2.1.length ≤ l.length := by
  have h := numR_len (most := most) (l := l) (e := e)
  unfold lumpR
  split
  · exact ⟨by simp, h⟩
  · split
    · simp
    · simp only [List.length_take, List.length_drop]; omega

theorem w_nat {n : Nat} (h : n ≤ 9223372036854775807) : IntKind.i64.wrap (n : Int) = n := w64 _ (by omega) (by omega)

theorem entry_Read_con (l : List Nat) (e : Nat) (hl : ∀ c ∈ l, c < 256) (hb : l.length ≤ 140737488355328) : Con Try.prog 16 [.c (.bp 0 0)] [Rd l e] (.tup [.agg (entC (readE l e).i (readE l e).t (readE l e).k (readE l e).d), B (readE l e).ok]) [Rd (readE l e).l (readE l e).e] := by
  generalize hr : readE l e = r
  unfold readE at hr
  have m1 := numR_mem (most := 1099511627776) (e := e) hl
  have n1 := numR_len (most := 1099511627776) (l := l) (e := e)
  have w1 := w_nat (n := (numR 1099511627776 l e).1) (by have := numR_le (most := 1099511627776) (l := l) (e := e); omega)
  have c1 := pack_Reader_Num_con l e 1099511627776 hl hb
  generalize numR 1099511627776 l e = a at hr m1 n1 w1 c1
  obtain ⟨a, l1, e1⟩ := a
  simp only at hr m1 n1 w1 c1
  have m2 := numR_mem (most := 1099511627776) (e := e1) m1
  have n2 := numR_len (most := 1099511627776) (l := l1) (e := e1)
  have w2 := w_nat (n := (numR 1099511627776 l1 e1).1) (by have := numR_le (most := 1099511627776) (l := l1) (e := e1); omega)
  have c2 := pack_Reader_Num_con l1 e1 1099511627776 m1 (by omega)
  generalize numR 1099511627776 l1 e1 = b at hr m2 n2 w2 c2
  obtain ⟨b, l2, e2⟩ := b
  simp only at hr m2 n2 w2 c2
  have m3 := numR_mem (most := 2) (e := e2) m2
  have n3 := numR_len (most := 2) (l := l2) (e := e2)
  have w3 := w_nat (n := (numR 2 l2 e2).1) (by have := numR_le (most := 2) (l := l2) (e := e2); omega)
  have c3 := pack_Reader_Num_con l2 e2 2 m2 (by omega)
  generalize numR 2 l2 e2 = c at hr m3 n3 w3 c3
  obtain ⟨c, l3, e3⟩ := c
  simp only at hr m3 n3 w3 c3
  have c4 := pack_Reader_Lump_con l3 e3 32767 m3 (by omega) (by omega)
  generalize lumpR 32767 l3 e3 = d at hr c4
  obtain ⟨d, l4, e4⟩ := d
  simp only at hr c4
  refine C_entry_Read (Nat.le_of_ble_eq_true rfl) (Nat.le_of_ble_eq_true rfl) ?_
  simp only [A_entry_Read, argL, objL, List.length_nil, List.length_cons, Nat.zero_add, x_seq]
  refine aw_reg 16 (RG.go fun Q hQ => ?_)
  simp only [RX, eff, ev_k, lkE_cons, lkE_nil, setS_cons, setS_nil, setE_cons, setE_nil, AOp.isCall, setD, setEs, presOf, AOp.needs, idsOf, AOp.rds, AOp.ops, List.map_cons, List.map_nil, List.nil_append, true_and, Bool.false_eq_true, reduceCtorEq, Nat.reduceAdd, Nat.reduceEqDiff, ↓reduceIte]
  refine hQ _ _ _ _ _ (RG.nil ?_)
  simp only [x_seq, x_tn]
  refine aw_reg 160 (RG.go fun Q hQ => ?_)
  simp only [RX, eff, ev_t, lk_cons, setS_cons, setS_nil, AOp.isCall, setD, setEs, presOf, AOp.needs, SV.one?, SV.pre, idsOf, AOp.rds, AOp.ops, SV.ids, C.ids0, List.map_nil, List.nil_append, List.cons_append, true_and, and_self, Bool.false_eq_true, reduceCtorEq, Nat.reduceAdd, Nat.reduceEqDiff, ↓reduceIte, List.append_nil]
  refine hQ _ _ _ _ _ (RG.nil ?_)
  simp only [x_tn]
  refine aw_cond _ rfl trivial (fun ht => by cases ht) (fun hf => ?_)
  simp only [x_seq, x_skip, x_tn]
  refine aw_reg 320 (RG.go fun Q hQ => ?_)
  simp only [RX, eff, ev_t, lk_cons, setS_cons, setS_nil, AOp.isCall, setD, setEs, presOf, AOp.needs, idsOf, AOp.rds, List.map_nil, List.nil_append, true_and, Bool.false_eq_true, reduceCtorEq, Nat.reduceAdd, Nat.reduceEqDiff, ↓reduceIte]
  refine hQ _ _ _ _ _ ?_
  refine RG.callo [0] [] (c1) (.mk (tr_cons (tr_bp rfl) (tr_cons tr_v tr_nil)) (by simp only [TrL, TrC, TrC0, TrEnt, lkE_cons, ↓reduceIte, and_self, exists_eq_left', Option.some.injEq, isDRows]) (by simp) (by simp) (trivial) (by simp [lkE_cons, lkE_nil]) (by simp [Ent.pure]) (by simp) (by simp)) ?_
  refine RG.go fun Q hQ => ?_
  simp only [RX, eff, ev_t, lk_cons, lkE_cons, lkE_nil, setS_cons, setS_nil, setE_cons, AOp.isCall, setD, setEs, presOf, AOp.needs, SV.one?, SV.pre, idsOf, AOp.rds, AOp.ops, SV.ids, C.ids0, List.drop_succ_cons, List.drop_zero, List.length_cons, List.length_nil, List.map_cons, List.map_nil, List.nil_append, true_and, and_self, Bool.false_eq_true, reduceCtorEq, Nat.reduceAdd, Nat.reduceEqDiff, ↓reduceIte, Nat.zero_add, renSV, renSV1, renC, renC0, renEnt, backUps, List.zip_nil_right, List.zip_cons_cons, List.zipIdx_nil, List.filterMap_nil, List.append_nil, List.range_zero, Nat.sub_self]
  refine hQ _ _ _ _ _ ?_
  refine RG.callo [0] [] (c2) (.mk (tr_cons (tr_bp rfl) (tr_cons tr_v tr_nil)) (by simp only [TrL, TrC, TrC0, TrEnt, lkE_cons, ↓reduceIte, and_self, exists_eq_left', Option.some.injEq, isDRows]) (by simp) (by simp) (trivial) (by simp [lkE_cons, lkE_nil]) (by simp [Ent.pure]) (by simp) (by simp)) ?_
  refine RG.go fun Q hQ => ?_
  simp only [RX, eff, ev_t, lk_cons, lkE_cons, lkE_nil, setS_cons, setS_nil, setE_cons, AOp.isCall, setD, setEs, presOf, AOp.needs, SV.one?, SV.pre, idsOf, AOp.rds, AOp.ops, SV.ids, C.ids0, List.drop_succ_cons, List.drop_zero, List.length_cons, List.length_nil, List.map_cons, List.map_nil, List.nil_append, true_and, and_self, Bool.false_eq_true, reduceCtorEq, Nat.reduceAdd, Nat.reduceEqDiff, ↓reduceIte, Nat.zero_add, renSV, renSV1, renC, renC0, renEnt, backUps, List.zip_nil_right, List.zip_cons_cons, List.zipIdx_nil, List.filterMap_nil, List.append_nil, List.range_zero, Nat.sub_self]
  refine hQ _ _ _ _ _ ?_
  refine RG.callo [0] [] (c3) (.mk (tr_cons (tr_bp rfl) (tr_cons tr_v tr_nil)) (by simp only [TrL, TrC, TrC0, TrEnt, lkE_cons, ↓reduceIte, and_self, exists_eq_left', Option.some.injEq, isDRows]) (by simp) (by simp) (trivial) (by simp [lkE_cons, lkE_nil]) (by simp [Ent.pure]) (by simp) (by simp)) ?_
  refine RG.go fun Q hQ => ?_
  simp only [RX, eff, ev_t, lk_cons, lkE_cons, lkE_nil, setS_cons, setS_nil, setE_cons, AOp.isCall, setD, setEs, presOf, AOp.needs, SV.one?, SV.pre, idsOf, AOp.rds, AOp.ops, SV.ids, C.ids0, List.drop_succ_cons, List.drop_zero, List.length_cons, List.length_nil, List.map_cons, List.map_nil, List.nil_append, true_and, and_self, Bool.false_eq_true, reduceCtorEq, Nat.reduceAdd, Nat.reduceEqDiff, ↓reduceIte, Nat.zero_add, renSV, renSV1, renC, renC0, renEnt, backUps, List.zip_nil_right, List.zip_cons_cons, List.zipIdx_nil, List.filterMap_nil, List.append_nil, List.range_zero, Nat.sub_self]
  refine hQ _ _ _ _ _ ?_
  refine RG.callo [0] [] (c4) (.mk (tr_cons (tr_bp rfl) (tr_cons tr_v tr_nil)) (by simp only [TrL, TrC, TrC0, TrEnt, lkE_cons, ↓reduceIte, and_self, exists_eq_left', Option.some.injEq, isDRows]) (by simp) (by simp) (trivial) (by simp [lkE_cons, lkE_nil]) (by simp [Ent.pure]) (by simp) (by simp)) ?_
  refine RG.go fun Q hQ => ?_
  simp only [RX, eff, ev_t, lk_cons, lkE_cons, lkE_nil, setS_cons, setS_nil, setE_cons, setE_nil, AOp.isCall, setD, setEs, presOf, AOp.needs, SV.one?, SV.pre, SV.cells, idsOf, AOp.rds, AOp.ops, SV.ids, C.ids0, bldFold, splice, List.take_succ_cons, List.take_zero, List.drop_succ_cons, List.drop_zero, List.length_cons, List.length_nil, Option.map_some, List.map_cons, List.map_nil, List.nil_append, List.cons_append, true_and, and_self, Bool.false_eq_true, reduceCtorEq, Nat.reduceAdd, Nat.reduceEqDiff, Nat.reduceLeDiff, ↓reduceIte, Nat.zero_add, Nat.le_refl, renSV, renSV1, renC, renC0, renEnt, backUps, List.zip_nil_right, List.zip_cons_cons, List.zipIdx_nil, List.filterMap_nil, List.append_nil, List.range_zero, Nat.sub_self]
  simp only [w1, w2, w3]
  refine hQ _ _ _ _ _ (RG.nil ?_)
  simp only [x_seq, x_tn]
  refine aw_reg 800 (RG.go fun Q hQ => ?_)
  simp only [RX, eff, ev_t, lk_cons, setS_cons, setS_nil, AOp.isCall, setD, setEs, presOf, AOp.needs, SV.one?, SV.pre, idsOf, AOp.rds, AOp.ops, SV.ids, C.ids0, List.map_nil, List.nil_append, List.cons_append, true_and, and_self, Bool.false_eq_true, reduceCtorEq, Nat.reduceAdd, Nat.reduceEqDiff, ↓reduceIte, List.append_nil, Nat.add_zero]
  refine hQ _ _ _ _ _ ?_
  refine RG.callo [0] [] (pack_rest_Err_con (l4.map brow) e4) (.mk (tr_cons (tr_bp rfl) tr_nil) (by simp only [TrL, TrC, TrC0, TrEnt, lkE_cons, ↓reduceIte, and_self, exists_eq_left', Option.some.injEq, isDRows]) (by simp) (by simp) (trivial) (by simp [lkE_cons, lkE_nil]) (by simp [Ent.pure]) (by simp) (by simp)) ?_
  refine RG.go fun Q hQ => ?_
  simp only [RX, eff, ev_t, ev_k, lk_cons, lkE_cons, lkE_nil, setS_cons, setS_nil, setE_cons, AOp.isCall, setD, setEs, presOf, AOp.needs, SV.one?, SV.pre, gval, binV, idsOf, AOp.rds, AOp.ops, SV.ids, C.ids0, List.take_succ_cons, List.take_zero, List.drop_succ_cons, List.drop_zero, List.length_cons, List.length_nil, Option.map_some, List.map_cons, List.map_nil, List.nil_append, List.cons_append, true_and, and_self, Bool.true_and, Bool.false_eq_true, beq_false, implies_true, reduceCtorEq, Nat.reduceAdd, Nat.reduceEqDiff, ↓reduceIte, Nat.zero_add, Nat.le_refl, renSV, renSV1, renC, renC0, renEnt, backUps, List.zip_nil_right, List.zip_cons_cons, List.zipIdx_nil, List.filterMap_nil, List.append_nil, List.range_zero, Nat.sub_self]
  refine hQ _ _ _ _ _ ?_
  refine RG.callg _ _ [] rfl (fun hg => ⟨_, entry_Right_con a b c d, tr_cons (tr_opt (by simpa using hg) (by simp only [TrL, TrSV, TrC, TrC0, and_self])) tr_nil, trivial, .inl trivial⟩) ?_
  refine RG.go fun Q hQ => ?_
  simp only [RX, eff, ev_t, ev_k, lk_cons, setS_cons, setS_nil, AOp.isCall, setD, setEs, presOf, AOp.needs, SV.one?, SV.pre, gval, unV, idsOf, AOp.rds, AOp.ops, SV.ids, C.ids0, Option.map_some, List.map_nil, List.nil_append, and_true, true_and, and_self, Bool.true_and, Bool.false_eq_true, beq_false, implies_true, imp_self, Bool.if_true_left, Bool.decide_eq_true, reduceCtorEq, Nat.reduceAdd, Nat.reduceEqDiff, ↓reduceIte, List.append_nil]
  refine ⟨fun h => by rw [h]; rfl, hQ _ _ _ _ _ (RG.nil ?_)⟩
  simp only [x_tn]
  refine aw_cond _ rfl trivial (fun ht => ?_) (fun hf => ?_)
  · have hn : ¬ (e4 = 0 ∧ entryRight a b c d = true) := by
      rintro ⟨h1, h2⟩; rw [h2] at ht; simp at ht; omega
    rw [if_neg hn] at hr
    subst hr
    simp only [x_seq]
    refine aw_reg 1200 (RG.go fun Q hQ => ?_)
    simp only [RX, eff, ev_t, ev_k, lk_cons, lkE_cons, setS_cons, setS_nil, setE_cons, AOp.isCall, setD, setEs, presOf, AOp.needs, SV.one?, SV.pre, SV.cells, idsOf, AOp.rds, AOp.ops, SV.ids, C.ids0, bldFold, splice, List.take_zero, List.drop_succ_cons, List.drop_zero, List.length_cons, List.length_nil, Option.map_some, List.map_cons, List.map_nil, List.nil_append, List.cons_append, true_and, and_self, Bool.false_eq_true, reduceCtorEq, Nat.reduceAdd, Nat.reduceEqDiff, ↓reduceIte, Nat.zero_add, Nat.le_refl, List.append_nil]
    refine hQ _ _ _ _ _ (RG.nil ?_)
    simp only [x_ret, x_tn, x_tr]
    refine Fin.objs [] [] (.inr rfl) rfl (by first | exact trivial | exact ⟨trivial, trivial⟩ | exact ⟨trivial, trivial, trivial⟩) ?_ ?_ (by simp [objL, rlook]) (by simp [objL, rlook])
    · simp only [Int.cast_ofNat_Int, mkSt_sl, lk_cons, lkE_cons, lkE_nil, WkSV, WkSV1, WkC, WkC0, TrL, rlook, frzEs, objL, Nat.reduceEqDiff, ↓reduceIte, reduceCtorEq, and_true, ne_eq]
      simp [entC, TrL, WkC, WkC0]
    · simp only [allL, lkE_cons, lkE_nil, WkC, WkC0, WkEnt, TrL, rlook, frzEs, objL, isDRows, Option.some.injEq, ↓reduceIte, and_true, exists_eq_left', ne_eq]
  have hn : e4 = 0 ∧ entryRight a b c d = true := by simp at hf; exact ⟨by omega, hf.2⟩
  rw [if_pos hn] at hr
  subst hr
  simp only [x_seq, x_skip, x_tn]
  refine aw_reg 1200 (RG.go fun Q hQ => ?_)
  simp only [RX, eff, ev_t, ev_k, lk_cons, lkE_cons, setS_cons, setS_nil, setE_cons, AOp.isCall, setD, setEs, presOf, AOp.needs, SV.one?, SV.pre, SV.cells, idsOf, AOp.rds, AOp.ops, SV.ids, C.ids0, splice, List.take_succ_cons, List.take_zero, List.drop_succ_cons, List.drop_zero, List.length_cons, List.length_nil, List.map_cons, List.map_nil, List.nil_append, List.cons_append, true_and, and_self, Bool.false_eq_true, reduceCtorEq, Nat.reduceAdd, Nat.reduceEqDiff, ↓reduceIte, Nat.zero_add, Nat.le_refl, List.append_nil]
  refine hQ _ _ _ _ _ (RG.nil ?_)
  simp only [x_ret, x_tn]
  refine Fin.objs [] [] (.inr rfl) rfl (by first | exact trivial | exact ⟨trivial, trivial⟩ | exact ⟨trivial, trivial, trivial⟩) ?_ ?_ (by simp [objL, rlook]) (by simp [objL, rlook])
  · simp only [mkSt_sl, lk_cons, lkE_cons, lkE_nil, WkSV, WkSV1, WkC, WkC0, TrL, rlook, frzEs, objL, Nat.reduceEqDiff, ↓reduceIte, reduceCtorEq, and_true, ne_eq]
    simp [entC, TrL, WkC, WkC0]
  · simp only [allL, lkE_cons, lkE_nil, WkC, WkC0, WkEnt, TrL, rlook, frzEs, objL, isDRows, Option.some.injEq, ↓reduceIte, and_true, exists_eq_left', ne_eq]

theorem entry_Read_nil_con : Con Try.prog 16 [.c (.v (.pointer none))] [] (.tup [.agg (entC 0 0 0 []), B false]) [] := by
  refine C_entry_Read (Nat.le_of_ble_eq_true rfl) (Nat.le_of_ble_eq_true rfl) ?_
  simp only [A_entry_Read, argL, objL, List.length_nil, x_seq]
  refine aw_reg 16 (RG.go fun Q hQ => ?_)
  simp only [RX, eff, ev_k, lkE_nil, setS_cons, setS_nil, setE_nil, AOp.isCall, setD, setEs, presOf, AOp.needs, idsOf, AOp.rds, AOp.ops, List.map_cons, List.map_nil, List.nil_append, true_and, Bool.false_eq_true, reduceCtorEq, Nat.reduceAdd, Nat.reduceEqDiff, ↓reduceIte]
  refine hQ _ _ _ _ _ (RG.nil ?_)
  simp only [x_seq, x_tn]
  refine aw_reg 160 (RG.go fun Q hQ => ?_)
  simp only [RX, eff, ev_t, lk_cons, setS_cons, setS_nil, AOp.isCall, setD, setEs, presOf, AOp.needs, SV.one?, SV.pre, idsOf, AOp.rds, AOp.ops, SV.ids, C.ids0, List.map_nil, List.nil_append, true_and, and_self, Bool.false_eq_true, Bool.not_false, reduceCtorEq, Nat.reduceAdd, Nat.reduceEqDiff, ↓reduceIte, List.append_nil]
  refine hQ _ _ _ _ _ (RG.nil ?_)
  simp only [x_tn]
  refine aw_cond _ rfl trivial (fun ht => ?_) (fun hf => by cases hf)
  simp only [x_seq]
  refine aw_reg 320 (RG.go fun Q hQ => ?_)
  simp only [RX, eff, ev_t, ev_k, lk_cons, lkE_cons, setS_cons, setS_nil, setE_cons, AOp.isCall, setD, setEs, presOf, AOp.needs, SV.one?, SV.pre, SV.cells, idsOf, AOp.rds, AOp.ops, SV.ids, C.ids0, bldFold, splice, List.take_zero, List.drop_succ_cons, List.drop_zero, List.length_cons, List.length_nil, Option.map_some, List.map_cons, List.map_nil, List.nil_append, List.cons_append, true_and, and_self, Bool.false_eq_true, reduceCtorEq, Nat.reduceAdd, Nat.reduceEqDiff, ↓reduceIte, Nat.zero_add, Nat.le_refl, List.append_nil]
  refine hQ _ _ _ _ _ (RG.nil ?_)
  simp only [x_ret, x_tn, x_tr]
  exact Fin.data [] (.inr rfl) rfl ⟨trivial, trivial⟩ ⟨⟨rfl, rfl, rfl, ⟨rfl, rfl⟩, trivial⟩, rfl, trivial⟩

theorem mementoref6_ReadEntry_con (l : List Nat) (e : Nat) (hl : ∀ c ∈ l, c < 256) (hb : l.length ≤ 140737488355328) : Con Try.prog 26 [.c (.bp 0 0)] [Rd l e] (.tup [.agg (entC (readE l e).i (readE l e).t (readE l e).k (readE l e).d), B (readE l e).ok]) [Rd (readE l e).l (readE l e).e] := by
  generalize hr : readE l e = r
  unfold readE at hr
  have m1 := numR_mem (most := 1099511627776) (e := e) hl
  have n1 := numR_len (most := 1099511627776) (l := l) (e := e)
  have w1 := w_nat (n := (numR 1099511627776 l e).1) (by have := numR_le (most := 1099511627776) (l := l) (e := e); omega)
  have c1 := mementoref1_Reader_Num_con l e 1099511627776 hl hb
  generalize numR 1099511627776 l e = a at hr m1 n1 w1 c1
  obtain ⟨a, l1, e1⟩ := a
  simp only at hr m1 n1 w1 c1
  have m2 := numR_mem (most := 1099511627776) (e := e1) m1
  have n2 := numR_len (most := 1099511627776) (l := l1) (e := e1)
  have w2 := w_nat (n := (numR 1099511627776 l1 e1).1) (by have := numR_le (most := 1099511627776) (l := l1) (e := e1); omega)
  have c2 := mementoref1_Reader_Num_con l1 e1 1099511627776 m1 (by omega)
  generalize numR 1099511627776 l1 e1 = b at hr m2 n2 w2 c2
  obtain ⟨b, l2, e2⟩ := b
  simp only at hr m2 n2 w2 c2
  have m3 := numR_mem (most := 2) (e := e2) m2
  have n3 := numR_len (most := 2) (l := l2) (e := e2)
  have w3 := w_nat (n := (numR 2 l2 e2).1) (by have := numR_le (most := 2) (l := l2) (e := e2); omega)
  have c3 := mementoref1_Reader_Num_con l2 e2 2 m2 (by omega)
  generalize numR 2 l2 e2 = c at hr m3 n3 w3 c3
  obtain ⟨c, l3, e3⟩ := c
  simp only at hr m3 n3 w3 c3
  have c4 := mementoref1_Reader_Lump_con l3 e3 32767 m3 (by omega) (by omega)
  generalize lumpR 32767 l3 e3 = d at hr c4
  obtain ⟨d, l4, e4⟩ := d
  simp only at hr c4
  refine C_mementoref6_ReadEntry (Nat.le_of_ble_eq_true rfl) (Nat.le_of_ble_eq_true rfl) ?_
  simp only [A_mementoref6_ReadEntry, argL, objL, List.length_nil, List.length_cons, Nat.zero_add, x_seq]
  refine aw_reg 16 (RG.go fun Q hQ => ?_)
  simp only [RX, eff, ev_k, lkE_cons, lkE_nil, setS_cons, setS_nil, setE_cons, setE_nil, AOp.isCall, setD, setEs, presOf, AOp.needs, idsOf, AOp.rds, AOp.ops, List.map_cons, List.map_nil, List.nil_append, true_and, Bool.false_eq_true, reduceCtorEq, Nat.reduceAdd, Nat.reduceEqDiff, ↓reduceIte]
  refine hQ _ _ _ _ _ (RG.nil ?_)
  simp only [x_seq, x_tn]
  refine aw_reg 160 (RG.go fun Q hQ => ?_)
  simp only [RX, eff, lkE_cons, lkE_nil, setS_cons, setS_nil, setE_cons, setE_nil, AOp.isCall, setD, setEs, presOf, AOp.needs, idsOf, AOp.rds, AOp.ops, List.map_cons, List.map_nil, List.nil_append, true_and, Bool.false_eq_true, reduceCtorEq, Nat.reduceAdd, Nat.reduceEqDiff, ↓reduceIte]
  refine hQ _ _ _ _ _ (RG.nil ?_)
  simp only [x_seq, x_tn]
  refine aw_reg 320 (RG.go fun Q hQ => ?_)
  simp only [RX, eff, ev_t, lk_cons, setS_cons, setS_nil, AOp.isCall, setD, setEs, presOf, AOp.needs, idsOf, AOp.rds, List.map_nil, List.nil_append, true_and, Bool.false_eq_true, reduceCtorEq, Nat.reduceAdd, Nat.reduceEqDiff, ↓reduceIte]
  refine hQ _ _ _ _ _ ?_
  refine RG.callo [0] [] (c1) (.mk (tr_cons (tr_bp rfl) (tr_cons tr_v tr_nil)) (by simp only [TrL, TrC, TrC0, TrEnt, lkE_cons, ↓reduceIte, and_self, exists_eq_left', Option.some.injEq, isDRows]) (by simp) (by simp) (trivial) (by simp [lkE_cons, lkE_nil]) (by simp [Ent.pure]) (by simp) (by simp)) ?_
  refine RG.go fun Q hQ => ?_
  simp only [RX, eff, ev_t, lk_cons, lkE_cons, lkE_nil, setS_cons, setS_nil, setE_cons, AOp.isCall, setD, setEs, presOf, AOp.needs, SV.one?, SV.pre, SV.cells, idsOf, AOp.rds, AOp.ops, SV.ids, C.ids0, splice, List.take_zero, List.drop_succ_cons, List.drop_zero, List.length_cons, List.length_nil, List.map_cons, List.map_nil, List.nil_append, List.cons_append, true_and, and_self, Bool.false_eq_true, reduceCtorEq, Nat.reduceAdd, Nat.reduceEqDiff, Nat.reduceLeDiff, ↓reduceIte, Nat.zero_add, renSV, renSV1, renC, renC0, renEnt, backUps, List.zip_nil_right, List.zip_cons_cons, List.zipIdx_nil, List.filterMap_nil, List.append_nil, List.range_zero, Nat.sub_self, Nat.add_zero]
  simp only [w1]
  refine hQ _ _ _ _ _ (RG.nil ?_)
  simp only [x_seq, x_tn]
  refine aw_reg 480 (RG.go fun Q hQ => ?_)
  simp only [RX, eff, ev_t, lk_cons, setS_cons, setS_nil, AOp.isCall, setD, setEs, presOf, AOp.needs, idsOf, AOp.rds, List.map_nil, List.nil_append, true_and, Bool.false_eq_true, reduceCtorEq, Nat.reduceAdd, Nat.reduceEqDiff, ↓reduceIte]
  refine hQ _ _ _ _ _ ?_
  refine RG.callo [0] [] (c2) (.mk (tr_cons (tr_bp rfl) (tr_cons tr_v tr_nil)) (by simp only [TrL, TrC, TrC0, TrEnt, lkE_cons, ↓reduceIte, and_self, exists_eq_left', Option.some.injEq, isDRows]) (by simp) (by simp) (trivial) (by simp [lkE_cons, lkE_nil]) (by simp [Ent.pure]) (by simp) (by simp)) ?_
  refine RG.go fun Q hQ => ?_
  simp only [RX, eff, ev_t, lk_cons, lkE_cons, lkE_nil, setS_cons, setS_nil, setE_cons, AOp.isCall, setD, setEs, presOf, AOp.needs, SV.one?, SV.pre, SV.cells, idsOf, AOp.rds, AOp.ops, SV.ids, C.ids0, splice, List.take_succ_cons, List.take_zero, List.drop_succ_cons, List.drop_zero, List.length_cons, List.length_nil, List.map_cons, List.map_nil, List.nil_append, List.cons_append, true_and, and_self, Bool.false_eq_true, reduceCtorEq, Nat.reduceAdd, Nat.reduceEqDiff, Nat.reduceLeDiff, ↓reduceIte, Nat.zero_add, renSV, renSV1, renC, renC0, renEnt, backUps, List.zip_nil_right, List.zip_cons_cons, List.zipIdx_nil, List.filterMap_nil, List.append_nil, List.range_zero, Nat.sub_self]
  simp only [w2]
  refine hQ _ _ _ _ _ (RG.nil ?_)
  simp only [x_seq, x_tn]
  refine aw_reg 640 (RG.go fun Q hQ => ?_)
  simp only [RX, eff, ev_t, lk_cons, setS_cons, setS_nil, AOp.isCall, setD, setEs, presOf, AOp.needs, idsOf, AOp.rds, List.map_nil, List.nil_append, true_and, Bool.false_eq_true, reduceCtorEq, Nat.reduceAdd, Nat.reduceEqDiff, ↓reduceIte]
  refine hQ _ _ _ _ _ ?_
  refine RG.callo [0] [] (c3) (.mk (tr_cons (tr_bp rfl) (tr_cons tr_v tr_nil)) (by simp only [TrL, TrC, TrC0, TrEnt, lkE_cons, ↓reduceIte, and_self, exists_eq_left', Option.some.injEq, isDRows]) (by simp) (by simp) (trivial) (by simp [lkE_cons, lkE_nil]) (by simp [Ent.pure]) (by simp) (by simp)) ?_
  refine RG.go fun Q hQ => ?_
  simp only [RX, eff, ev_t, lk_cons, lkE_cons, lkE_nil, setS_cons, setS_nil, setE_cons, AOp.isCall, setD, setEs, presOf, AOp.needs, SV.one?, SV.pre, SV.cells, idsOf, AOp.rds, AOp.ops, SV.ids, C.ids0, splice, List.take_succ_cons, List.take_zero, List.drop_succ_cons, List.drop_zero, List.length_cons, List.length_nil, List.map_cons, List.map_nil, List.nil_append, List.cons_append, true_and, and_self, Bool.false_eq_true, reduceCtorEq, Nat.reduceAdd, Nat.reduceEqDiff, Nat.reduceLeDiff, ↓reduceIte, Nat.zero_add, renSV, renSV1, renC, renC0, renEnt, backUps, List.zip_nil_right, List.zip_cons_cons, List.zipIdx_nil, List.filterMap_nil, List.append_nil, List.range_zero, Nat.sub_self]
  simp only [w3]
  refine hQ _ _ _ _ _ (RG.nil ?_)
  simp only [x_seq, x_tn]
  refine aw_reg 800 (RG.go fun Q hQ => ?_)
  simp only [RX, eff, ev_t, lk_cons, setS_cons, setS_nil, AOp.isCall, setD, setEs, presOf, AOp.needs, idsOf, AOp.rds, List.map_nil, List.nil_append, true_and, Bool.false_eq_true, reduceCtorEq, Nat.reduceAdd, Nat.reduceEqDiff, ↓reduceIte]
  refine hQ _ _ _ _ _ ?_
  refine RG.callo [0] [] (c4) (.mk (tr_cons (tr_bp rfl) (tr_cons tr_v tr_nil)) (by simp only [TrL, TrC, TrC0, TrEnt, lkE_cons, ↓reduceIte, and_self, exists_eq_left', Option.some.injEq, isDRows]) (by simp) (by simp) (trivial) (by simp [lkE_cons, lkE_nil]) (by simp [Ent.pure]) (by simp) (by simp)) ?_
  refine RG.go fun Q hQ => ?_
  simp only [RX, eff, ev_t, lk_cons, lkE_cons, lkE_nil, setS_cons, setS_nil, setE_cons, AOp.isCall, setD, setEs, presOf, AOp.needs, SV.one?, SV.pre, SV.cells, idsOf, AOp.rds, AOp.ops, SV.ids, C.ids0, splice, List.take_succ_cons, List.take_zero, List.drop_succ_cons, List.drop_zero, List.length_cons, List.length_nil, List.map_cons, List.map_nil, List.nil_append, List.cons_append, true_and, and_self, Bool.false_eq_true, reduceCtorEq, Nat.reduceAdd, Nat.reduceEqDiff, ↓reduceIte, Nat.zero_add, Nat.le_refl, renSV, renSV1, renC, renC0, renEnt, backUps, List.zip_nil_right, List.zip_cons_cons, List.zipIdx_nil, List.filterMap_nil, List.append_nil, List.range_zero, Nat.sub_self]
  refine hQ _ _ _ _ _ (RG.nil ?_)
  simp only [x_seq, x_tn]
  refine aw_reg 960 (RG.go fun Q hQ => ?_)
  simp only [RX, eff, ev_t, ev_k, lk_cons, lkE_cons, setS_cons, setS_nil, AOp.isCall, setD, setEs, presOf, AOp.needs, SV.one?, SV.pre, gval, binV, idsOf, AOp.rds, AOp.ops, SV.ids, C.ids0, List.take_succ_cons, List.take_zero, List.drop_zero, List.length_cons, List.length_nil, List.getElem?_cons_zero, List.getElem?_cons_succ, Option.map_some, List.map_nil, List.nil_append, List.cons_append, true_and, and_self, Bool.true_and, Bool.false_eq_true, beq_false, implies_true, reduceCtorEq, Nat.reduceAdd, Nat.reduceEqDiff, ↓reduceIte, Nat.zero_add, Nat.le_refl, List.append_nil]
  refine hQ _ _ _ _ _ ?_
  refine RG.callg _ _ [] rfl (fun hg => ⟨_, mementoref6_EntryRight_con a b c d, tr_cons (tr_opt (by simpa using hg) (by simp only [TrL, TrSV, TrC, TrC0, and_self])) tr_nil, trivial, .inl trivial⟩) ?_
  refine RG.go fun Q hQ => ?_
  simp only [RX, eff, ev_t, ev_k, lk_cons, setS_cons, setS_nil, AOp.isCall, setD, setEs, presOf, AOp.needs, SV.one?, SV.pre, gval, unV, idsOf, AOp.rds, AOp.ops, SV.ids, C.ids0, Option.map_some, List.map_nil, List.nil_append, and_true, true_and, and_self, Bool.true_and, Bool.false_eq_true, beq_false, implies_true, imp_self, Bool.if_true_left, Bool.decide_eq_true, reduceCtorEq, Nat.reduceAdd, Nat.reduceEqDiff, ↓reduceIte, List.append_nil]
  refine ⟨fun h => by rw [h]; rfl, hQ _ _ _ _ _ (RG.nil ?_)⟩
  simp only [x_tn]
  refine aw_cond _ rfl trivial (fun ht => ?_) (fun hf => ?_)
  · have hn : ¬ (e4 = 0 ∧ entryRight a b c d = true) := by
      rintro ⟨h1, h2⟩; rw [h2] at ht; simp at ht; omega
    rw [if_neg hn] at hr
    subst hr
    simp only [x_seq]
    refine aw_reg 1200 (RG.go fun Q hQ => ?_)
    simp only [RX, eff, ev_t, ev_k, lk_cons, lkE_cons, setS_cons, setS_nil, setE_cons, AOp.isCall, setD, setEs, presOf, AOp.needs, SV.one?, SV.pre, SV.cells, idsOf, AOp.rds, AOp.ops, SV.ids, C.ids0, bldFold, splice, List.take_zero, List.drop_succ_cons, List.drop_zero, List.length_cons, List.length_nil, Option.map_some, List.map_cons, List.map_nil, List.nil_append, List.cons_append, true_and, and_self, Bool.false_eq_true, reduceCtorEq, Nat.reduceAdd, Nat.reduceEqDiff, ↓reduceIte, Nat.zero_add, Nat.le_refl, List.append_nil]
    refine hQ _ _ _ _ _ (RG.nil ?_)
    simp only [x_ret, x_tn, x_tr]
    refine Fin.objs [] [] (.inr rfl) rfl (by first | exact trivial | exact ⟨trivial, trivial⟩ | exact ⟨trivial, trivial, trivial⟩) ?_ ?_ (by simp [objL, rlook]) (by simp [objL, rlook])
    · simp only [Int.cast_ofNat_Int, mkSt_sl, lk_cons, lkE_cons, lkE_nil, WkSV, WkSV1, WkC, WkC0, TrL, rlook, frzEs, objL, Nat.reduceEqDiff, ↓reduceIte, reduceCtorEq, and_true, ne_eq]
      simp [entC, TrL, WkC, WkC0]
    · simp only [allL, lkE_cons, lkE_nil, WkC, WkC0, WkEnt, TrL, rlook, frzEs, objL, isDRows, Option.some.injEq, ↓reduceIte, and_true, exists_eq_left', ne_eq]
  have hn : e4 = 0 ∧ entryRight a b c d = true := by simp at hf; exact ⟨by omega, hf.2⟩
  rw [if_pos hn] at hr
  subst hr
  simp only [x_seq, x_skip, x_tn]
  refine aw_reg 1200 (RG.go fun Q hQ => ?_)
  simp only [RX, eff, ev_t, ev_k, lk_cons, lkE_cons, setS_cons, setS_nil, setE_cons, AOp.isCall, setD, setEs, presOf, AOp.needs, SV.one?, SV.pre, SV.cells, idsOf, AOp.rds, AOp.ops, SV.ids, C.ids0, splice, List.take_succ_cons, List.take_zero, List.drop_succ_cons, List.drop_zero, List.length_cons, List.length_nil, List.map_cons, List.map_nil, List.nil_append, List.cons_append, true_and, and_self, Bool.false_eq_true, reduceCtorEq, Nat.reduceAdd, Nat.reduceEqDiff, ↓reduceIte, Nat.zero_add, Nat.le_refl, List.append_nil]
  refine hQ _ _ _ _ _ (RG.nil ?_)
  simp only [x_ret, x_tn]
  refine Fin.objs [] [] (.inr rfl) rfl (by first | exact trivial | exact ⟨trivial, trivial⟩ | exact ⟨trivial, trivial, trivial⟩) ?_ ?_ (by simp [objL, rlook]) (by simp [objL, rlook])
  · simp only [mkSt_sl, lk_cons, lkE_cons, lkE_nil, WkSV, WkSV1, WkC, WkC0, TrL, rlook, frzEs, objL, Nat.reduceEqDiff, ↓reduceIte, reduceCtorEq, and_true, ne_eq]
    simp [entC, TrL, WkC, WkC0]
  · simp only [allL, lkE_cons, lkE_nil, WkC, WkC0, WkEnt, TrL, rlook, frzEs, objL, isDRows, Option.some.injEq, ↓reduceIte, and_true, exists_eq_left', ne_eq]

end Go.Abs
