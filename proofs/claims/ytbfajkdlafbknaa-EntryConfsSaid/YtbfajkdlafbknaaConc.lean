/- What the functions that the law comes to do, part 3. No condition. -/
import Derived.Test.YtbfajkdlafbknaaConb
set_option linter.unusedVariables false
set_option linter.unusedSimpArgs false
set_option linter.unnecessarySimpa false
namespace Go.Abs
open Go Go.Proofs
set_option maxRecDepth 100000
set_option linter.unusedSimpArgs false

theorem EntryConfs_con (index term node add : Nat) (more : List Nat) (h1 : index < 65536) (h2 : term < 256) (h3 : node < 256) (h4 : add < 256) :
    Con Try.prog 3 [.c (.v (.int .u16 index)), .c (.v (.int .u8 term)), .c (.v (.int .u8 node)), .c (.v (.int .u8 add)), .c (.sl (more.map brow))] [] (B true) [] := by
  have w1 : IntKind.i64.wrap (index : Int) = index := w64 _ (by omega) (by omega)
  have w2 : IntKind.i64.wrap ((index : Int) + 1) = ((index + 1 : Nat) : Int) := w64 _ (by omega) (by omega)
  have w3 : IntKind.i64.wrap (term : Int) = term := w64 _ (by omega) (by omega)
  refine C_mementolaw8_EntryConfs (Nat.le_of_ble_eq_true rfl) (Nat.le_of_ble_eq_true rfl) ?_
  simp only [A_mementolaw8_EntryConfs, argL, objL, List.length_nil, Nat.reduceAdd, Nat.zero_add, x_seq]
  refine aw_reg 16 (RG.go fun Q hQ => ?_)
  simp only [RX, eff, ev_k, setS_cons, setS_nil, AOp.isCall, setD, setEs, presOf, AOp.needs, idsOf, AOp.rds, List.map_nil, List.nil_append, true_and, Bool.false_eq_true, reduceCtorEq, Nat.reduceAdd, Nat.reduceEqDiff, ↓reduceIte]
  refine hQ _ _ _ _ _ (RG.nil ?_)
  simp only [x_seq, x_tn]
  refine aw_reg 160 (RG.go fun Q hQ => ?_)
  simp only [RX, AOp.isCall, ↓reduceIte]
  refine hQ _ _ _ _ _ ?_
  refine RG.call [] (known_con) (tr_nil) (trivial) (.inl trivial) ?_
  refine RG.go fun Q hQ => ?_
  simp only [RX, eff, ev_t, lk_cons, setS_cons, setS_nil, AOp.isCall, setD, setEs, presOf, AOp.needs, SV.one?, SV.pre, unV, idsOf, AOp.rds, AOp.ops, SV.ids, C.ids0, Option.map_some, List.map_nil, List.nil_append, true_and, and_self, Bool.false_eq_true, Bool.not_true, reduceCtorEq, Nat.reduceAdd, Nat.reduceEqDiff, ↓reduceIte, List.append_nil]
  refine hQ _ _ _ _ _ (RG.nil ?_)
  simp only [x_tn]
  refine aw_cond _ rfl trivial (fun ht => by cases ht) (fun hf => ?_)
  simp only [x_seq, x_skip, x_tn]
  refine aw_reg 320 (RG.go fun Q hQ => ?_)
  simp only [RX, eff, ev_t, ev_k, lk_cons, setS_cons, setS_nil, AOp.isCall, setD, setEs, presOf, AOp.needs, SV.one?, SV.pre, binV, idsOf, AOp.rds, AOp.ops, SV.ids, C.ids0, rowsOf, Option.map_some, List.map_nil, List.nil_append, true_and, and_self, Bool.false_eq_true, reduceCtorEq, gt_iff_lt, Nat.reduceAdd, Nat.reduceEqDiff, ↓reduceIte, Option.bind_some, List.append_nil]
  refine hQ _ _ _ _ _ (RG.nil ?_)
  simp only [x_tn]
  refine aw_cond _ rfl trivial (fun ht => ?_) (fun hf => ?_)
  · skip
    simp only [x_seq]
    refine aw_reg 480 (RG.go fun Q hQ => ?_)
    simp only [RX, eff, ev_k, setS_cons, AOp.isCall, setD, setEs, presOf, AOp.needs, idsOf, AOp.rds, List.map_nil, List.nil_append, true_and, Bool.false_eq_true, reduceCtorEq, Nat.reduceAdd, Nat.reduceEqDiff, ↓reduceIte]
    refine hQ _ _ _ _ _ (RG.nil ?_)
    simp only [x_ret, x_tn, x_tr]
    exact Fin.scalar (.inr rfl) rfl trivial rfl trivial
  have hm : more.length ≤ 20 := by simp at hf; omega
  simp only [x_seq, x_skip, x_tn]
  refine aw_reg 480 (RG.go fun Q hQ => ?_)
  simp only [RX, eff, ev_t, ev_k, lk_cons, lkE_cons, lkE_nil, setS_cons, setS_nil, setE_cons, setE_nil, AOp.isCall, setD, setEs, presOf, AOp.needs, SV.one?, SV.pre, SV.cells, binV, idsOf, AOp.rds, AOp.ops, SV.ids, C.ids0, bldFold, bSRows, splice, List.take_succ_cons, List.take_zero, List.drop_succ_cons, List.drop_zero, List.length_cons, List.length_nil, Option.map_some, List.map_cons, List.map_nil, List.nil_append, List.cons_append, true_and, and_self, Bool.false_eq_true, reduceCtorEq, Nat.reduceAdd, Nat.reduceEqDiff, Nat.reduceLeDiff, ↓reduceIte, Nat.zero_add, Nat.le_refl, List.append_nil, w1, w2, w3]
  refine hQ _ _ _ _ _ (RG.nil ?_)
  simp only [x_seq, x_tn]
  refine aw_reg 800 (RG.go fun Q hQ => ?_)
  simp only [RX, eff, ev_t, ev_k, lk_cons, lkE_cons, lkE_nil, setS_cons, setS_nil, setE_cons, setE_nil, AOp.isCall, setD, setEs, presOf, AOp.needs, SV.one?, SV.pre, SV.cells, binV, idsOf, AOp.rds, AOp.ops, SV.ids, C.ids0, bldFold, splice, List.take_succ_cons, List.take_zero, List.drop_succ_cons, List.drop_zero, List.length_cons, List.length_nil, Option.map_some, List.map_cons, List.map_nil, List.nil_append, List.cons_append, true_and, and_self, Bool.false_eq_true, reduceCtorEq, Nat.reduceAdd, Nat.reduceEqDiff, Nat.reduceLeDiff, ↓reduceIte, Nat.zero_add, Nat.le_refl, List.append_nil, w1, w2]
  refine hQ _ _ _ _ _ (RG.nil ?_)
  simp only [x_seq, x_tn]
  refine aw_reg 1100 (RG.go fun Q hQ => ?_)
  simp only [RX, eff, ev_t, ev_k, lk_cons, lkE_cons, lkE_nil, setS_cons, setS_nil, setE_cons, setE_nil, AOp.isCall, setD, setEs, presOf, AOp.needs, SV.one?, SV.pre, SV.cells, idsOf, AOp.rds, AOp.ops, SV.ids, C.ids0, bldFold, splice, List.take_succ_cons, List.take_zero, List.drop_succ_cons, List.drop_zero, List.length_cons, List.length_nil, Option.map_some, List.map_cons, List.map_nil, List.nil_append, List.cons_append, true_and, and_self, Bool.false_eq_true, reduceCtorEq, Nat.reduceAdd, Nat.reduceEqDiff, Nat.reduceLeDiff, ↓reduceIte, Nat.zero_add, Nat.le_refl, List.append_nil, w1]
  refine hQ _ _ _ _ _ (RG.nil ?_)
  simp only [x_seq, x_tn]
  have wt : (add : Int).tmod 2 = ((add % 2 : Nat) : Int) := by rw [Int.tmod_eq_emod_of_nonneg (by omega)]; omega
  have wu : IntKind.i64.wrap ((add % 2 : Nat) : Int) = ((add % 2 : Nat) : Int) := w64 _ (by omega) (by omega)
  have wl : IntKind.i64.wrap (32767 + ((add % 2 : Nat) : Int)) = ((32767 + add % 2 : Nat) : Int) := by rw [w64 _ (by omega) (by omega)]; omega
  have wr : List.replicate ((32767 + add % 2 : Nat) : Int).toNat [C.v (Value.int IntKind.u8 0)] = (List.replicate (32767 + add % 2) 0).map brow := by rw [Int.toNat_natCast, List.map_replicate]; rfl
  refine aw_reg 1400 (RG.go fun Q hQ => ?_)
  simp only [RX, eff, ev_t, ev_k, lk_cons, lkE_cons, lkE_nil, setS_cons, setS_nil, setE_cons, setE_nil, AOp.isCall, setD, setEs, presOf, AOp.needs, SV.one?, SV.pre, SV.cells, binV, idsOf, AOp.rds, AOp.ops, SV.ids, C.ids0, bldFold, splice, List.take_succ_cons, List.take_zero, List.drop_succ_cons, List.drop_zero, List.length_cons, List.length_nil, Option.map_some, List.map_cons, List.map_nil, List.nil_append, List.cons_append, true_and, and_self, Bool.false_eq_true, reduceCtorEq, Nat.reduceAdd, Nat.reduceEqDiff, Nat.reduceLeDiff, ↓reduceIte, Nat.zero_add, Nat.le_refl, List.append_nil, Int.cast_ofNat_Int, wt, wu, wl, wr]
  refine ⟨by decide, ⟨by omega, by omega⟩, hQ _ _ _ _ _ (RG.nil ?_)⟩
  simp only [x_seq, x_tn]
  refine aw_reg 1700 (RG.go fun Q hQ => ?_)
  simp only [RX, eff, ev_t, lk_cons, lkE_cons, setS_cons, setS_nil, AOp.isCall, setD, setEs, presOf, AOp.needs, SV.one?, SV.pre, idsOf, AOp.rds, AOp.ops, SV.ids, C.ids0, List.take_succ_cons, List.take_zero, List.drop_zero, List.length_cons, List.length_nil, List.map_nil, List.nil_append, List.cons_append, true_and, and_self, Bool.false_eq_true, reduceCtorEq, Nat.reduceAdd, Nat.reduceEqDiff, ↓reduceIte, Nat.zero_add, Nat.le_refl, List.append_nil]
  have r1 : entryRight ((index + 1 : Nat) : Int) term 2 [node, add] = (decide ((node : Int) < 7) && decide ((add : Int) < 2)) := by
    rw [Bool.eq_iff_iff]; simp [entryRight, timeS]; omega
  have r2 : entryRight ((index + 1 : Nat) : Int) 0 0 more = ((((more.map brow).length : Nat) : Int) == 0) := by
    rw [Bool.eq_iff_iff]; simp [entryRight, timeS]; omega
  have r3 : entryRight (index : Int) 0 1 more = decide (0 < (index : Int)) := by
    rw [Bool.eq_iff_iff]; simp [entryRight, timeS]; omega
  have r4 : entryRight 1 0 1 (List.replicate (32767 + add % 2) 0) = (((add % 2 : Nat) : Int) == 0) := by
    rw [Bool.eq_iff_iff]; simp [entryRight, timeS]; omega
  refine hQ _ _ _ _ _ ?_
  refine RG.call [592] (entry_Right_con ((index + 1 : Nat) : Int) term 2 [node, add]) (tr_cons (tr_agg ⟨rfl, rfl, rfl, ⟨by simp, _, _, _, rfl, drows_brow [node, add]⟩, trivial⟩) tr_nil) (views1 rfl trivial) (.inl trivial) ?_
  refine RG.go fun Q hQ => ?_
  simp only [RX, eff, ev_t, ev_k, lk_cons, lkE_cons, setS_cons, setS_nil, AOp.isCall, setD, setEs, presOf, AOp.needs, SV.one?, SV.pre, gval, binV, idsOf, AOp.rds, AOp.ops, SV.ids, C.ids0, List.take_succ_cons, List.take_zero, List.drop_zero, List.length_cons, List.length_nil, Option.map_some, List.map_nil, List.nil_append, List.cons_append, and_true, true_and, and_self, Bool.true_and, Bool.false_eq_true, beq_true, implies_true, imp_self, Bool.if_false_right, Bool.decide_eq_true, reduceCtorEq, Nat.reduceAdd, Nat.reduceEqDiff, ↓reduceIte, Nat.zero_add, Nat.le_refl, List.append_nil]
  simp only [r1, BEq.rfl]
  refine hQ _ _ _ _ _ ?_
  refine RG.callg _ _ [] rfl (fun hg => ⟨_, entry_Right_con ((index + 1 : Nat) : Int) 0 0 more, tr_cons (tr_opt (by simpa using hg) (tr_agg ⟨rfl, rfl, rfl, rfl, trivial⟩)) tr_nil, trivial, .inl trivial⟩) ?_
  refine RG.go fun Q hQ => ?_
  simp only [RX, eff, ev_t, ev_k, lk_cons, lkE_cons, setS_cons, setS_nil, AOp.isCall, setD, setEs, presOf, AOp.needs, SV.one?, SV.pre, gval, binV, idsOf, AOp.rds, AOp.ops, SV.ids, C.ids0, rowsOf, List.take_succ_cons, List.take_zero, List.drop_zero, List.length_cons, List.length_nil, Option.map_some, List.map_nil, List.nil_append, List.cons_append, true_and, and_self, Bool.true_and, Bool.and_true, Bool.false_eq_true, beq_true, implies_true, reduceCtorEq, Nat.reduceAdd, Nat.reduceEqDiff, ↓reduceIte, Option.bind_some, Nat.zero_add, Nat.le_refl, BEq.rfl, List.append_nil]
  simp only [r2, BEq.rfl]
  refine hQ _ _ _ _ _ ?_
  refine RG.callg _ _ [] rfl (fun hg => ⟨_, entry_Right_con (index : Int) 0 1 more, tr_cons (tr_opt (by simpa using hg) (tr_agg ⟨rfl, rfl, rfl, rfl, trivial⟩)) tr_nil, trivial, .inl trivial⟩) ?_
  refine RG.go fun Q hQ => ?_
  simp only [RX, eff, ev_t, ev_k, lk_cons, lkE_cons, setS_cons, setS_nil, AOp.isCall, setD, setEs, presOf, AOp.needs, SV.one?, SV.pre, gval, binV, idsOf, AOp.rds, AOp.ops, SV.ids, C.ids0, List.take_succ_cons, List.take_zero, List.drop_zero, List.length_cons, List.length_nil, Option.map_some, List.map_nil, List.nil_append, List.cons_append, true_and, and_self, Bool.true_and, Bool.and_true, Bool.false_eq_true, beq_true, implies_true, reduceCtorEq, gt_iff_lt, Nat.reduceAdd, Nat.reduceEqDiff, ↓reduceIte, Nat.zero_add, Nat.le_refl, BEq.rfl, List.append_nil]
  simp only [r3, BEq.rfl]
  refine hQ _ _ _ _ _ ?_
  refine RG.callg _ _ [1464] rfl (fun hg => ⟨_, entry_Right_con 1 0 1 (List.replicate (32767 + add % 2) 0), tr_cons (tr_opt (by simpa using hg) (tr_agg ⟨rfl, rfl, rfl, ⟨by simp, _, _, _, rfl, drows_brow _⟩, trivial⟩)) tr_nil, views1 rfl trivial, .inl trivial⟩) ?_
  refine RG.go fun Q hQ => ?_
  simp only [RX, eff, ev_t, ev_k, lk_cons, setS_cons, setS_nil, AOp.isCall, setD, setEs, presOf, AOp.needs, SV.one?, SV.pre, gval, binV, idsOf, AOp.rds, AOp.ops, SV.ids, C.ids0, Option.map_some, List.map_nil, List.nil_append, and_true, true_and, and_self, Bool.and_true, Bool.false_eq_true, implies_true, true_implies, reduceCtorEq, Nat.reduceAdd, Nat.reduceEqDiff, ↓reduceIte, BEq.rfl, List.append_nil]
  simp only [wt, r4, BEq.rfl]
  refine ⟨by decide, hQ _ _ _ _ _ (RG.nil ?_)⟩
  simp only [x_ret, x_tn]
  exact Fin.b (.inr rfl) rfl trivial (by simp)

end Go.Abs
