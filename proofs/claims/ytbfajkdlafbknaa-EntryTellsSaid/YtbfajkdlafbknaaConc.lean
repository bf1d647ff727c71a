/- What the functions that the law comes to do, part 3. No condition. -/
import Derived.Test.YtbfajkdlafbknaaConb
set_option linter.unusedVariables false
set_option linter.unusedSimpArgs false
set_option linter.unnecessarySimpa false
namespace Go.Abs
open Go Go.Proofs
set_option maxRecDepth 100000
set_option linter.unusedSimpArgs false

structure EN where
  i : Int
  t : Int
  k : Int
  d : List Nat

def erow (e : EN) : List C := entC e.i e.t e.k e.d

def entAt (frm : Int) (n c : Nat) (t : Int) : EN :=
  if 230 < c then ⟨frm + n, t, 2, [c % 5, c / 5 % 2]⟩ else if c / 5 % 2 = 1 then ⟨frm + n, t, 1, [c, n % 256]⟩ else ⟨frm + n, t, 0, []⟩

def termT (l : List Nat) (k : Nat) : Nat := 1 + ((l.take k).map fun c => c % 5 / 4).sum

def entsN (frm : Int) (l : List Nat) (n : Nat) : List EN := (List.range n).map fun i => entAt frm i (l.getD i 0) (termT l (i + 1))

theorem entsN_succ (frm : Int) (l : List Nat) (n : Nat) : entsN frm l (n + 1) = entsN frm l n ++ [entAt frm n (l.getD n 0) (termT l (n + 1))] := by
  unfold entsN
  rw [List.range_succ, List.map_append]; rfl

theorem termT_succ (l : List Nat) (k : Nat) (hk : k < l.length) : termT l (k + 1) = termT l k + l[k] % 5 / 4 := by
  unfold termT
  rw [take_one l k hk, List.map_append, List.sum_append]
  simp; omega

theorem termT_le (l : List Nat) : ∀ k, termT l k ≤ 1 + k
  | 0 => by simp [termT]
  | k + 1 => by
    rcases Nat.lt_or_ge k l.length with h | h
    · rw [termT_succ l k h]; have := termT_le l k; omega
    · have : termT l (k + 1) = termT l k := by unfold termT; rw [List.take_of_length_le (by omega), List.take_of_length_le h]
      rw [this]; have := termT_le l k; omega

theorem erow_data (es : List EN) : isDRows (es.map erow) := by
  intro r hr c hc
  obtain ⟨e, _, rfl⟩ := List.mem_map.1 hr
  simp [erow, entC] at hc
  rcases hc with rfl | rfl | rfl | rfl <;> rfl

theorem erow_len (es : List EN) : ∀ r ∈ es.map erow, r.length = 4 := by
  intro r hr
  obtain ⟨e, _, rfl⟩ := List.mem_map.1 hr
  rfl

theorem entsN_len (frm : Int) (l : List Nat) (n : Nat) : (entsN frm l n).length = n := by simp [entsN]

theorem Entries_con (frm : Int) (l : List Nat) (h0 : 0 ≤ frm) (h1 : frm ≤ 1000000) (hb : l.length ≤ 1000) (hl : ∀ c ∈ l, c < 256) : Con Try.prog 8 [I frm, .c (.sl (l.map brow))] [] (.c (.osl 0)) [.arr 26 4 ((entsN frm l l.length).map erow) false] := by
  refine C_mementoseat_Entries (Nat.le_of_ble_eq_true rfl) (Nat.le_of_ble_eq_true rfl) ?_
  simp only [A_mementoseat_Entries, argL, objL, List.length_nil, Nat.zero_add, x_seq]
  refine aw_reg 16 (RG.go fun Q hQ => ?_)
  simp only [RX, eff, ev_k, setS_cons, setS_nil, AOp.isCall, setD, setEs, presOf, AOp.needs, idsOf, AOp.rds, List.map_nil, List.nil_append, true_and, Bool.false_eq_true, reduceCtorEq, Nat.reduceAdd, Nat.reduceEqDiff, ↓reduceIte]
  refine hQ _ _ _ _ _ (RG.nil ?_)
  simp only [x_seq, x_tn]
  refine aw_reg 160 (RG.go fun Q hQ => ?_)
  simp only [RX, eff, ev_k, setS_cons, setS_nil, AOp.isCall, setD, setEs, presOf, AOp.needs, idsOf, AOp.rds, List.map_nil, List.nil_append, true_and, Bool.false_eq_true, reduceCtorEq, Nat.reduceAdd, Nat.reduceEqDiff, ↓reduceIte]
  refine hQ _ _ _ _ _ (RG.nil ?_)
  simp only [x_seq, x_tn]
  refine aw_reg 320 (RG.go fun Q hQ => ?_)
  simp only [RX, eff, ev_k, setS_cons, setS_nil, AOp.isCall, setD, setEs, presOf, AOp.needs, idsOf, AOp.rds, List.map_nil, List.nil_append, true_and, Bool.false_eq_true, reduceCtorEq, Nat.reduceAdd, Nat.reduceEqDiff, ↓reduceIte]
  refine hQ _ _ _ _ _ (RG.nil ?_)
  simp only [x_seq, x_tn]
  refine aw_reg 480 (RG.go fun Q hQ => ?_)
  simp only [RX, eff, ev_k, setS_cons, setS_nil, AOp.isCall, setD, setEs, presOf, AOp.needs, idsOf, AOp.rds, List.map_nil, List.nil_append, true_and, Bool.false_eq_true, reduceCtorEq, Nat.reduceAdd, Nat.reduceEqDiff, ↓reduceIte]
  refine hQ _ _ _ _ _ (RG.nil ?_)
  simp only [x_block, x_tn]
  refine aw_loop (X := { i : Nat // i ≤ l.length }) (fun i => mkSt [(0, I frm), (1, .c (.sl (l.map brow))), (5, .c (.osl 1000)), (6, I (termT l i.1 : Nat)), (7, I i.1)] [(1000, .arr 26 4 ((entsN frm l i.1).map erow) false)]) (fun i => l.length - i.1) ⟨0, by omega⟩ ?_ ?_
  · refine (Le.own 5 1000 26 4 rfl rfl (by decide)).trans (Le.lit [] [] _ _ ?_ ?_ ?_ ?_)
    · skip
      simp only [Int.cast_ofNat_Int, allL, lk_cons, lkE_cons, lkE_nil, WkSV, WkSV1, WkC, WkC0, rlook, frzEs, setE_nil, setS_cons, Nat.reduceEqDiff, ↓reduceIte, reduceCtorEq, true_and, and_true, ne_eq, not_false_eq_true]
      simp [termT]
    · skip
      simp only [allL, lkE_cons, lkE_nil, WkEnt, rlook, frzEs, setE_nil, isDRows, Option.some.injEq, ↓reduceIte, reduceCtorEq, true_and, and_true, exists_eq_left', ne_eq, true_or]
      simp [entsN]
    · simp
    · simp
  rintro ⟨i, hi⟩
  have hel := entsN_len frm l i
  simp only [x_seq]
  refine aw_reg 640 (RG.go fun Q hQ => ?_)
  simp only [RX, eff, ev_t, lk_cons, setS_cons, setS_nil, AOp.isCall, setD, setEs, presOf, AOp.needs, SV.one?, SV.pre, binV, idsOf, AOp.rds, AOp.ops, SV.ids, C.ids0, rowsOf, Option.map_some, List.map_nil, List.nil_append, true_and, and_self, Bool.false_eq_true, reduceCtorEq, Nat.reduceAdd, Nat.reduceEqDiff, ↓reduceIte, Option.bind_some, List.append_nil]
  refine hQ _ _ _ _ _ (RG.nil ?_)
  simp only [x_tn]
  refine aw_cond _ rfl trivial (fun ht => ?_) (fun hf => ?_)
  rotate_left
  · have hi' : i = l.length := by simp at hf; omega
    subst hi'
    simp only [x_seq, x_exit, x_tn, x_tx, x_bx, x_lx, ↓reduceIte]
    refine aw_reg 800 (RG.go fun Q hQ => ?_)
    simp only [RX, eff, ev_t, lk_cons, setS_cons, setS_nil, AOp.isCall, setD, setEs, presOf, AOp.needs, idsOf, AOp.rds, List.map_nil, List.nil_append, true_and, Bool.false_eq_true, reduceCtorEq, Nat.reduceAdd, Nat.reduceEqDiff, ↓reduceIte]
    refine hQ _ _ _ _ _ (RG.nil ?_)
    simp only [x_ret, x_tn]
    refine Fin.objs [] [(0, 1000)] (.inr rfl) rfl (by first | exact trivial | exact ⟨trivial, trivial⟩ | exact ⟨trivial, trivial, trivial⟩) ?_ ?_ (by simp [objL, rlook]) (by simp [objL, rlook])
    · simp only [mkSt_sl, lk_cons, lkE_cons, lkE_nil, WkSV, WkSV1, WkC, WkC0, rlook, frzEs, objL, Nat.reduceEqDiff, ↓reduceIte, reduceCtorEq, and_true, ne_eq, not_false_eq_true]
    · simp only [allL, lkE_cons, lkE_nil, WkEnt, rlook, frzEs, objL, isDRows, Option.some.injEq, ↓reduceIte, reduceCtorEq, true_and, and_true, exists_eq_left', ne_eq, true_or]
      exact erow_data _
  have hi' : i < l.length := by simp at ht; omega
  have hr : (List.map brow l)[(i : Int).toNat]?.getD [] = [.v (.int .u8 l[i])] := by simp [hi', brow]
  have hc := hl _ (List.getElem_mem hi')
  have htl := termT_le l i
  have hts := termT_succ l i hi'
  have hes := entsN_succ frm l i
  rw [show l.getD i 0 = l[i] by simp [List.getD, hi']] at hes
  have hw1 : IntKind.i64.wrap ((i : Int) + 1) = ((i + 1 : Nat) : Int) := by rw [w64 _ (by omega) (by omega)]; rfl
  generalize hcc : l[i] = c at *
  have q1 : (c : Int).tmod 5 = ((c % 5 : Nat) : Int) := by rw [Int.tmod_eq_emod_of_nonneg (by omega)]; omega
  have q2 : IntKind.u8.wrap (((c % 5 : Nat) : Int).tdiv 4) = ((c % 5 / 4 : Nat) : Int) := by rw [Int.tdiv_eq_ediv_of_nonneg (by omega), w_u8]; omega
  have q3 : IntKind.i64.wrap ((c % 5 / 4 : Nat) : Int) = ((c % 5 / 4 : Nat) : Int) := w64 _ (by omega) (by omega)
  have q4 : IntKind.i64.wrap (((termT l i : Nat) : Int) + ((c % 5 / 4 : Nat) : Int)) = ((termT l (i + 1) : Nat) : Int) := by rw [hts, w64 _ (by omega) (by omega)]; omega
  have q5 : IntKind.i64.wrap (frm + (i : Int)) = frm + i := w64 _ (by omega) (by omega)
  have q6 : IntKind.u8.wrap ((c : Int).tdiv 5) = ((c / 5 : Nat) : Int) := by rw [Int.tdiv_eq_ediv_of_nonneg (by omega), w_u8]; omega
  have q7 : IntKind.i64.wrap ((c / 5 : Nat) : Int) = ((c / 5 : Nat) : Int) := w64 _ (by omega) (by omega)
  have q8 : ((c / 5 : Nat) : Int).tmod 2 = ((c / 5 % 2 : Nat) : Int) := by rw [Int.tmod_eq_emod_of_nonneg (by omega)]; omega
  have q9 : IntKind.u8.wrap (i : Int) = ((i % 256 : Nat) : Int) := by rw [w_u8]; omega
  simp only [x_seq, x_block, x_skip, x_tn]
  refine aw_reg 1000 (RG.go fun Q hQ => ?_)
  simp only [RX, eff, ev_t, ev_k, lk_cons, setS_cons, setS_nil, AOp.isCall, setD, setEs, presOf, AOp.needs, SV.one?, SV.pre, binV, idsOf, AOp.rds, AOp.ops, SV.ids, C.ids0, Option.getD_some, List.length_cons, List.length_nil, List.getElem?_cons_zero, Option.map_some, List.map_nil, List.nil_append, and_true, true_and, and_self, Bool.false_eq_true, reduceCtorEq, Nat.reduceAdd, Nat.reduceEqDiff, Nat.reduceLT, ↓reduceIte, Nat.zero_add, List.append_nil, C_default, hr, q1, q2, q3, q4]
  refine ⟨⟨by omega, by simp; omega⟩, by decide, by decide, hQ _ _ _ _ _ (RG.nil ?_)⟩
  simp only [x_seq, x_tn]
  refine aw_reg 1300 (RG.go fun Q hQ => ?_)
  simp only [RX, eff, ev_t, ev_k, lk_cons, lkE_cons, lkE_nil, setS_cons, setS_nil, setE_cons, setE_nil, AOp.isCall, setD, setEs, presOf, AOp.needs, SV.one?, SV.pre, SV.cells, binV, idsOf, AOp.rds, AOp.ops, SV.ids, C.ids0, Option.getD_some, bldFold, splice, List.take_succ_cons, List.take_zero, List.drop_succ_cons, List.drop_zero, List.length_cons, List.length_nil, List.getElem?_cons_zero, Option.map_some, List.map_cons, List.map_nil, List.nil_append, List.cons_append, and_true, true_and, and_self, Bool.false_eq_true, reduceCtorEq, Nat.reduceAdd, Nat.reduceEqDiff, Nat.reduceLeDiff, Nat.reduceLT, ↓reduceIte, Nat.zero_add, Nat.le_refl, List.append_nil, C_default, hr, q5, q6, q7, q8]
  refine ⟨⟨by omega, by simp; omega⟩, by decide, by decide, hQ _ _ _ _ _ (RG.nil ?_)⟩
  simp only [x_seq, x_tn]
  refine aw_reg 1700 (RG.go fun Q hQ => ?_)
  simp only [RX, eff, ev_t, ev_k, lk_cons, lkE_cons, setS_cons, setS_nil, AOp.isCall, setD, setEs, presOf, AOp.needs, SV.one?, SV.pre, binV, idsOf, AOp.rds, AOp.ops, SV.ids, C.ids0, List.getElem?_cons_zero, List.getElem?_cons_succ, Option.map_some, List.map_nil, List.nil_append, List.cons_append, true_and, and_self, Bool.false_eq_true, reduceCtorEq, Nat.reduceAdd, Nat.reduceEqDiff, ↓reduceIte, Nat.zero_add, List.append_nil]
  refine hQ _ _ _ _ _ (RG.nil ?_)
  simp only [x_tn]
  refine aw_cond _ rfl trivial (fun ht1 => ?_) (fun hf1 => ?_)
  · have hk : c / 5 % 2 = 1 := by simp at ht1; omega
    refine aw_reg 1900 (RG.go fun Q hQ => ?_)
    simp only [RX, eff, ev_t, lk_cons, lkE_cons, lkE_nil, setS_cons, setS_nil, setE_cons, setE_nil, AOp.isCall, setD, setEs, presOf, AOp.needs, SV.one?, SV.pre, SV.cells, idsOf, AOp.rds, AOp.ops, SV.ids, C.ids0, Option.getD_some, bSRows, splice, List.take_succ_cons, List.take_zero, List.drop_succ_cons, List.drop_zero, List.length_cons, List.length_nil, List.getElem?_cons_zero, List.map_cons, List.map_nil, List.nil_append, List.cons_append, and_true, true_and, and_self, Bool.false_eq_true, reduceCtorEq, Nat.reduceAdd, Nat.reduceEqDiff, Nat.reduceLT, ↓reduceIte, Nat.zero_add, Nat.le_refl, List.append_nil, C_default, hr, q9]
    refine ⟨⟨by omega, by simp; omega⟩, hQ _ _ _ _ _ (RG.nil ?_)⟩
    simp only [x_seq, x_tn]
    refine aw_reg 2100 (RG.go fun Q hQ => ?_)
    simp only [RX, eff, ev_t, ev_k, lk_cons, setS_cons, setS_nil, AOp.isCall, setD, setEs, presOf, AOp.needs, SV.one?, SV.pre, binV, idsOf, AOp.rds, AOp.ops, SV.ids, C.ids0, Option.getD_some, List.length_cons, List.length_nil, List.getElem?_cons_zero, Option.map_some, List.map_nil, List.nil_append, and_true, true_and, and_self, Bool.false_eq_true, reduceCtorEq, gt_iff_lt, Nat.reduceAdd, Nat.reduceEqDiff, Nat.reduceLT, ↓reduceIte, Nat.zero_add, List.append_nil, C_default, hr]
    refine ⟨⟨by omega, by simp; omega⟩, hQ _ _ _ _ _ (RG.nil ?_)⟩
    simp only [x_tn]
    refine aw_cond _ rfl trivial (fun ht2 => ?_) (fun hf2 => ?_)
    · have hg : 230 < c := by simp at ht2; omega
      have hea : entAt frm i c (termT l (i + 1)) = ⟨frm + i, (termT l (i + 1) : Nat), 2, [c % 5, c / 5 % 2]⟩ := by unfold entAt; rw [if_pos hg]
      refine aw_draw 2300 (RG.go fun Q hQ => ?_)
      simp only [RX, eff, ev_t, ev_k, lk_cons, lkE_cons, lkE_nil, setS_cons, setS_nil, setE_cons, setE_nil, AOp.isCall, setD, setEs, presOf, AOp.needs, SV.one?, SV.pre, SV.cells, binV, idsOf, AOp.rds, AOp.ops, SV.ids, C.ids0, Option.getD_some, bSRows, splice, List.take_succ_cons, List.take_zero, List.drop_succ_cons, List.drop_zero, List.length_cons, List.length_nil, List.getElem?_cons_zero, Option.map_some, List.map_cons, List.map_nil, List.nil_append, List.cons_append, and_true, true_and, and_self, Bool.false_eq_true, reduceCtorEq, Nat.reduceAdd, Nat.reduceEqDiff, Nat.reduceLeDiff, Nat.reduceLT, ↓reduceIte, Nat.zero_add, Nat.le_refl, List.append_nil, C_default, hr, q1, q6, q8]
      refine ⟨⟨by omega, by simp; omega⟩, by decide, ⟨by omega, by simp; omega⟩, by decide, by decide, ?_⟩
      refine hQ _ _ _ _ _ (RG.nil ⟨by decide, ?_⟩)
      simp only [x_tn]
      refine aw_reg 3000 (RG.go fun Q hQ => ?_)
      simp only [RX, eff, ev_t, lk_cons, lkE_cons, lkE_nil, setS_cons, setS_nil, setE_cons, setE_nil, AOp.isCall, setD, setEs, presOf, AOp.needs, SV.one?, SV.pre, SV.cells, idsOf, AOp.rds, AOp.ops, SV.ids, C.ids0, rowsOf, srcOf, bSRows, List.take_succ_cons, List.take_zero, List.drop_zero, List.length_cons, List.length_nil, Option.map_some, List.map_cons, List.map_nil, List.nil_append, List.cons_append, true_and, and_self, Bool.false_eq_true, reduceCtorEq, Nat.reduceAdd, Nat.reduceEqDiff, ↓reduceIte, Nat.zero_add, Nat.le_refl, List.append_nil]
      refine ⟨⟨by simp, by simp; omega⟩, hQ _ _ _ _ _ (RG.nil ?_)⟩
      simp only [x_tn, x_bn]
      refine aw_reg 3200 (RG.go fun Q hQ => ?_)
      simp only [RX, eff, ev_t, ev_k, lk_cons, setS_cons, setS_nil, AOp.isCall, setD, setEs, presOf, AOp.needs, SV.one?, SV.pre, binV, idsOf, AOp.rds, AOp.ops, SV.ids, C.ids0, Option.map_some, List.map_nil, List.nil_append, true_and, and_self, Bool.false_eq_true, reduceCtorEq, Nat.reduceAdd, Nat.reduceEqDiff, ↓reduceIte, List.append_nil, hw1]
      refine hQ _ _ _ _ _ (RG.nil ?_)
      simp only [x_ln]
      refine ⟨⟨i + 1, hi'⟩, ?_, by simp; omega⟩
      refine (Le.tell [2476] 3048 26 4 _ ((entsN frm l (i + 1)).map erow) false rfl (by rw [hes, List.map_append, hea]; refine tell_app ?_ _; exact ⟨⟨.inl rfl, .inl rfl, .inl rfl, .inr (.inr ⟨_, _, _, _, rfl, rfl, rfl, drows_brow [c % 5, c / 5 % 2]⟩), trivial⟩, trivial⟩)).trans (Le.lit [] [(1000, 3048)] _ _ ?_ ?_ ?_ ?_)
      · skip
        simp only [allL, lk_cons, lkE_cons, lkE_nil, WkSV, WkSV1, WkC, WkC0, rlook, frzEs, frzE, setE_cons, Nat.reduceEqDiff, ↓reduceIte, reduceCtorEq, and_true, ne_eq, not_false_eq_true]
      · skip
        simp only [allL, lkE_cons, lkE_nil, WkEnt, rlook, frzEs, frzE, setE_cons, isDRows, Option.some.injEq, Nat.reduceEqDiff, ↓reduceIte, reduceCtorEq, true_and, and_true, exists_eq_left', ne_eq, true_or]
        exact erow_data _
      · simp
      · simp
    have hg : ¬ 230 < c := by simp at hf2; omega
    have hea : entAt frm i c (termT l (i + 1)) = ⟨frm + i, (termT l (i + 1) : Nat), 1, [c, i % 256]⟩ := by unfold entAt; rw [if_neg hg, if_pos hk]
    simp only [x_skip, x_tn]
    refine aw_reg 3000 (RG.go fun Q hQ => ?_)
    simp only [RX, eff, ev_t, lk_cons, lkE_cons, lkE_nil, setS_cons, setS_nil, setE_cons, setE_nil, AOp.isCall, setD, setEs, presOf, AOp.needs, SV.one?, SV.pre, SV.cells, idsOf, AOp.rds, AOp.ops, SV.ids, C.ids0, rowsOf, srcOf, bSRows, List.take_succ_cons, List.take_zero, List.drop_zero, List.length_cons, List.length_nil, Option.map_some, List.map_cons, List.map_nil, List.nil_append, List.cons_append, true_and, and_self, Bool.false_eq_true, reduceCtorEq, Nat.reduceAdd, Nat.reduceEqDiff, ↓reduceIte, Nat.zero_add, Nat.le_refl, List.append_nil]
    refine ⟨⟨by simp, by simp; omega⟩, hQ _ _ _ _ _ (RG.nil ?_)⟩
    simp only [x_tn, x_bn]
    refine aw_reg 3200 (RG.go fun Q hQ => ?_)
    simp only [RX, eff, ev_t, ev_k, lk_cons, setS_cons, setS_nil, AOp.isCall, setD, setEs, presOf, AOp.needs, SV.one?, SV.pre, binV, idsOf, AOp.rds, AOp.ops, SV.ids, C.ids0, Option.map_some, List.map_nil, List.nil_append, true_and, and_self, Bool.false_eq_true, reduceCtorEq, Nat.reduceAdd, Nat.reduceEqDiff, ↓reduceIte, List.append_nil, hw1]
    refine hQ _ _ _ _ _ (RG.nil ?_)
    simp only [x_ln]
    refine ⟨⟨i + 1, hi'⟩, ?_, by simp; omega⟩
    refine (Le.tell [1996] 3048 26 4 _ ((entsN frm l (i + 1)).map erow) false rfl (by rw [hes, List.map_append, hea]; refine tell_app ?_ _; exact ⟨⟨.inl rfl, .inl rfl, .inl (by rw [hk]; rfl), .inr (.inr ⟨_, _, _, _, rfl, rfl, rfl, drows_brow [c, i % 256]⟩), trivial⟩, trivial⟩)).trans (Le.lit [] [(1000, 3048)] _ _ ?_ ?_ ?_ ?_)
    · skip
      simp only [allL, lk_cons, lkE_cons, lkE_nil, WkSV, WkSV1, WkC, WkC0, rlook, frzEs, frzE, setE_cons, Nat.reduceEqDiff, ↓reduceIte, reduceCtorEq, and_true, ne_eq, not_false_eq_true]
    · skip
      simp only [allL, lkE_cons, lkE_nil, WkEnt, rlook, frzEs, frzE, setE_cons, isDRows, Option.some.injEq, Nat.reduceEqDiff, ↓reduceIte, reduceCtorEq, true_and, and_true, exists_eq_left', ne_eq, true_or]
      exact erow_data _
    · simp
    · simp
  have hk : ¬ c / 5 % 2 = 1 := by simp at hf1; omega
  have hk0 : c / 5 % 2 = 0 := by omega
  simp only [x_seq, x_skip, x_tn]
  refine aw_reg 2100 (RG.go fun Q hQ => ?_)
  simp only [RX, eff, ev_t, ev_k, lk_cons, setS_cons, setS_nil, AOp.isCall, setD, setEs, presOf, AOp.needs, SV.one?, SV.pre, binV, idsOf, AOp.rds, AOp.ops, SV.ids, C.ids0, Option.getD_some, List.length_cons, List.length_nil, List.getElem?_cons_zero, Option.map_some, List.map_nil, List.nil_append, and_true, true_and, and_self, Bool.false_eq_true, reduceCtorEq, gt_iff_lt, Nat.reduceAdd, Nat.reduceEqDiff, Nat.reduceLT, ↓reduceIte, Nat.zero_add, List.append_nil, C_default, hr]
  refine ⟨⟨by omega, by simp; omega⟩, hQ _ _ _ _ _ (RG.nil ?_)⟩
  simp only [x_tn]
  refine aw_cond _ rfl trivial (fun ht2 => ?_) (fun hf2 => ?_)
  · have hg : 230 < c := by simp at ht2; omega
    have hea : entAt frm i c (termT l (i + 1)) = ⟨frm + i, (termT l (i + 1) : Nat), 2, [c % 5, c / 5 % 2]⟩ := by unfold entAt; rw [if_pos hg]
    refine aw_draw 2300 (RG.go fun Q hQ => ?_)
    simp only [RX, eff, ev_t, ev_k, lk_cons, lkE_cons, lkE_nil, setS_cons, setS_nil, setE_cons, setE_nil, AOp.isCall, setD, setEs, presOf, AOp.needs, SV.one?, SV.pre, SV.cells, binV, idsOf, AOp.rds, AOp.ops, SV.ids, C.ids0, Option.getD_some, bSRows, splice, List.take_succ_cons, List.take_zero, List.drop_succ_cons, List.drop_zero, List.length_cons, List.length_nil, List.getElem?_cons_zero, Option.map_some, List.map_cons, List.map_nil, List.nil_append, List.cons_append, and_true, true_and, and_self, Bool.false_eq_true, reduceCtorEq, Nat.reduceAdd, Nat.reduceEqDiff, Nat.reduceLeDiff, Nat.reduceLT, ↓reduceIte, Nat.zero_add, Nat.le_refl, List.append_nil, C_default, hr, q1, q6, q8]
    refine ⟨⟨by omega, by simp; omega⟩, by decide, ⟨by omega, by simp; omega⟩, by decide, by decide, ?_⟩
    refine hQ _ _ _ _ _ (RG.nil ⟨by decide, ?_⟩)
    simp only [x_tn]
    refine aw_reg 3000 (RG.go fun Q hQ => ?_)
    simp only [RX, eff, ev_t, lk_cons, lkE_cons, lkE_nil, setS_cons, setS_nil, setE_cons, setE_nil, AOp.isCall, setD, setEs, presOf, AOp.needs, SV.one?, SV.pre, SV.cells, idsOf, AOp.rds, AOp.ops, SV.ids, C.ids0, rowsOf, srcOf, bSRows, List.take_succ_cons, List.take_zero, List.drop_zero, List.length_cons, List.length_nil, Option.map_some, List.map_cons, List.map_nil, List.nil_append, List.cons_append, true_and, and_self, Bool.false_eq_true, reduceCtorEq, Nat.reduceAdd, Nat.reduceEqDiff, ↓reduceIte, Nat.zero_add, Nat.le_refl, List.append_nil]
    refine ⟨⟨by simp, by simp; omega⟩, hQ _ _ _ _ _ (RG.nil ?_)⟩
    simp only [x_tn, x_bn]
    refine aw_reg 3200 (RG.go fun Q hQ => ?_)
    simp only [RX, eff, ev_t, ev_k, lk_cons, setS_cons, setS_nil, AOp.isCall, setD, setEs, presOf, AOp.needs, SV.one?, SV.pre, binV, idsOf, AOp.rds, AOp.ops, SV.ids, C.ids0, Option.map_some, List.map_nil, List.nil_append, true_and, and_self, Bool.false_eq_true, reduceCtorEq, Nat.reduceAdd, Nat.reduceEqDiff, ↓reduceIte, List.append_nil, hw1]
    refine hQ _ _ _ _ _ (RG.nil ?_)
    simp only [x_ln]
    refine ⟨⟨i + 1, hi'⟩, ?_, by simp; omega⟩
    refine (Le.tell [2476] 3048 26 4 _ ((entsN frm l (i + 1)).map erow) false rfl (by rw [hes, List.map_append, hea]; refine tell_app ?_ _; exact ⟨⟨.inl rfl, .inl rfl, .inl rfl, .inr (.inr ⟨_, _, _, _, rfl, rfl, rfl, drows_brow [c % 5, c / 5 % 2]⟩), trivial⟩, trivial⟩)).trans (Le.lit [] [(1000, 3048)] _ _ ?_ ?_ ?_ ?_)
    · skip
      simp only [allL, lk_cons, lkE_cons, lkE_nil, WkSV, WkSV1, WkC, WkC0, rlook, frzEs, frzE, setE_cons, Nat.reduceEqDiff, ↓reduceIte, reduceCtorEq, and_true, ne_eq, not_false_eq_true]
    · skip
      simp only [allL, lkE_cons, lkE_nil, WkEnt, rlook, frzEs, frzE, setE_cons, isDRows, Option.some.injEq, Nat.reduceEqDiff, ↓reduceIte, reduceCtorEq, true_and, and_true, exists_eq_left', ne_eq, true_or]
      exact erow_data _
    · simp
    · simp
  have hg : ¬ 230 < c := by simp at hf2; omega
  have hea : entAt frm i c (termT l (i + 1)) = ⟨frm + i, (termT l (i + 1) : Nat), 0, []⟩ := by unfold entAt; rw [if_neg hg, if_neg hk]
  simp only [x_skip, x_tn]
  refine aw_reg 3000 (RG.go fun Q hQ => ?_)
  simp only [RX, eff, ev_t, lk_cons, lkE_cons, lkE_nil, setS_cons, setS_nil, setE_cons, setE_nil, AOp.isCall, setD, setEs, presOf, AOp.needs, SV.one?, SV.pre, SV.cells, idsOf, AOp.rds, AOp.ops, SV.ids, C.ids0, rowsOf, srcOf, bSRows, List.take_succ_cons, List.take_zero, List.drop_zero, List.length_cons, List.length_nil, Option.map_some, List.map_cons, List.map_nil, List.nil_append, List.cons_append, true_and, and_self, Bool.false_eq_true, reduceCtorEq, Nat.reduceAdd, Nat.reduceEqDiff, ↓reduceIte, Nat.zero_add, Nat.le_refl, List.append_nil]
  refine ⟨⟨by simp, by simp; omega⟩, hQ _ _ _ _ _ (RG.nil ?_)⟩
  simp only [x_tn, x_bn]
  refine aw_reg 3200 (RG.go fun Q hQ => ?_)
  simp only [RX, eff, ev_t, ev_k, lk_cons, setS_cons, setS_nil, AOp.isCall, setD, setEs, presOf, AOp.needs, SV.one?, SV.pre, binV, idsOf, AOp.rds, AOp.ops, SV.ids, C.ids0, Option.map_some, List.map_nil, List.nil_append, true_and, and_self, Bool.false_eq_true, reduceCtorEq, Nat.reduceAdd, Nat.reduceEqDiff, ↓reduceIte, List.append_nil, hw1]
  refine hQ _ _ _ _ _ (RG.nil ?_)
  simp only [x_ln]
  refine ⟨⟨i + 1, hi'⟩, ?_, by simp; omega⟩
  refine (Le.tell [] 3048 26 4 _ ((entsN frm l (i + 1)).map erow) false rfl (by rw [hes, List.map_append, hea]; refine tell_app ?_ _; exact ⟨⟨.inl rfl, .inl rfl, .inl (by rw [hk0]; rfl), .inr (.inl ⟨rfl, rfl⟩), trivial⟩, trivial⟩)).trans (Le.lit [] [(1000, 3048)] _ _ ?_ ?_ ?_ ?_)
  · skip
    simp only [allL, lk_cons, lkE_cons, lkE_nil, WkSV, WkSV1, WkC, WkC0, rlook, frzEs, setE_cons, Nat.reduceEqDiff, ↓reduceIte, reduceCtorEq, and_true, ne_eq, not_false_eq_true]
  · skip
    simp only [allL, lkE_cons, lkE_nil, WkEnt, rlook, frzEs, setE_cons, isDRows, Option.some.injEq, Nat.reduceEqDiff, ↓reduceIte, reduceCtorEq, true_and, and_true, exists_eq_left', ne_eq, true_or]
    exact erow_data _
  · simp
  · simp

end Go.Abs
namespace Go.Abs
open Go Go.Proofs
set_option maxRecDepth 100000
set_option linter.unusedSimpArgs false

theorem readE_mem {l : List Nat} {e : Nat} (hl : ∀ c ∈ l, c < 256) : (∀ c ∈ (readE l e).d, c < 256) ∧ (∀ c ∈ (readE l e).l, c < 256) ∧ (readE l e).l.length ≤ l.length := by
  have m1 := numR_mem (most := 1099511627776) (e := e) hl
  have n1 := numR_len (most := 1099511627776) (l := l) (e := e)
  unfold readE
  generalize numR 1099511627776 l e = a at *
  have m2 := numR_mem (most := 1099511627776) (e := a.2.2) m1
  have n2 := numR_len (most := 1099511627776) (l := a.2.1) (e := a.2.2)
  simp only
  generalize numR 1099511627776 a.2.1 a.2.2 = b at *
  have m3 := numR_mem (most := 2) (e := b.2.2) m2
  have n3 := numR_len (most := 2) (l := b.2.1) (e := b.2.2)
  generalize numR 2 b.2.1 b.2.2 = c at *
  have m4 := lumpR_mem (most := 32767) (e := c.2.2) m3
  have n4 := lumpR_len (most := 32767) (l := c.2.1) (e := c.2.2)
  generalize lumpR 32767 c.2.1 c.2.2 = d at *
  split
  · exact ⟨m4.1, m4.2, by simp only; omega⟩
  · exact ⟨by simp, m4.2, by simp only; omega⟩

theorem readB_mem {most : Nat} {l : List Nat} {e : Nat} (hl : ∀ c ∈ l, c < 256) : (∀ c ∈ (readB most l e).d, c < 256) ∧ (∀ c ∈ (readB most l e).l, c < 256) ∧ (readB most l e).l.length ≤ l.length ∧ (readB most l e).c.length ≤ 7 := by
  have m1 := numR_mem (most := 1099511627776) (e := e) hl
  have n1 := numR_len (most := 1099511627776) (l := l) (e := e)
  unfold readB
  generalize numR 1099511627776 l e = a at *
  have m2 := numR_mem (most := 1099511627776) (e := a.2.2) m1
  have n2 := numR_len (most := 1099511627776) (l := a.2.1) (e := a.2.2)
  simp only
  generalize numR 1099511627776 a.2.1 a.2.2 = b at *
  have m3 := numR_mem (most := 7) (e := b.2.2) m2
  have n3 := numR_len (most := 7) (l := b.2.1) (e := b.2.2)
  have k3 := numR_le (most := 7) (l := b.2.1) (e := b.2.2)
  generalize numR 7 b.2.1 b.2.2 = c at *
  obtain ⟨f1, f2, f3, f4⟩ := numsR_facts (most := most) (e := c.2.2) m3 c.1
  generalize numsR most c.2.1 c.2.2 c.1 = q at *
  have m4 := lumpR_mem (most := 32767) (e := q.2.2) f3
  have n4 := lumpR_len (most := 32767) (l := q.2.1) (e := q.2.2)
  generalize lumpR 32767 q.2.1 q.2.2 = d at *
  split
  · exact ⟨m4.1, m4.2, by simp only; omega, by simp; omega⟩
  · exact ⟨by simp, m4.2, by simp only; omega, by simp⟩

theorem numsR_agree (most : Nat) (hm : 7 ≤ most) (l : List Nat) (e : Nat) : ∀ k, numsR 7 l e k = numsR most l e k ∨ ((numsR 7 l e k).2.2 ≠ 0 ∧ ∃ n ∈ (numsR most l e k).1, 7 < n)
  | 0 => .inl rfl
  | k + 1 => by
    rcases numsR_agree most hm l e k with h | ⟨h1, n, hn, h7⟩
    · have e7 : ∀ most' : Nat, numsR most' l e (k + 1) = ((numsR most' l e k).1 ++ [(numR most' (numsR most' l e k).2.1 (numsR most' l e k).2.2).1], (numR most' (numsR most' l e k).2.1 (numsR most' l e k).2.2).2.1, (numR most' (numsR most' l e k).2.1 (numsR most' l e k).2.2).2.2) := fun _ => rfl
      rw [e7, e7, h]
      generalize numsR most l e k = q
      obtain ⟨qs, lq, eq⟩ := q
      simp only
      unfold numR
      by_cases h0 : eq = 0
      · subst h0
        simp only [ne_eq, not_true_eq_false, if_false]
        by_cases h1 : (rdN 0 0 lq).2.2 = 0
        · simp only [h1, not_true_eq_false, if_false]
          by_cases h2 : 7 < (rdN 0 0 lq).1
          · by_cases h3 : most < (rdN 0 0 lq).1
            · left; simp [h2, h3]
            · right; simp only [h2, h3, if_true, if_false]; exact ⟨by simp, _, by simp, h2⟩
          · left; simp [h2, show ¬ most < (rdN 0 0 lq).1 by omega]
        · left; simp [h1]
      · left; simp [h0]
    · right
      refine ⟨?_, n, by simp [numsR, hn], h7⟩
      simp only [numsR]
      unfold numR
      simp [h1]

theorem readB_agree (most : Nat) (hm : 7 ≤ most) (l : List Nat) (e : Nat) : (readB most l e).i = (readB 7 l e).i ∧ (readB most l e).t = (readB 7 l e).t ∧ (readB most l e).c = (readB 7 l e).c ∧ (readB most l e).d = (readB 7 l e).d ∧ (readB most l e).ok = (readB 7 l e).ok ∧ ((readB 7 l e).ok = true → (readB most l e).l = (readB 7 l e).l) := by
  unfold readB
  simp only
  generalize numR 1099511627776 l e = a
  generalize numR 1099511627776 a.2.1 a.2.2 = b
  generalize numR 7 b.2.1 b.2.2 = c
  rcases numsR_agree most hm c.2.1 c.2.2 c.1 with h | ⟨h1, n, hn, h7⟩
  · rw [h]; exact ⟨rfl, rfl, rfl, rfl, rfl, fun _ => rfl⟩
  · have hr : rightS ((numsR most c.2.1 c.2.2 c.1).1.map fun (k : Nat) => (k : Int)) = false := by
      cases hh : rightS ((numsR most c.2.1 c.2.2 c.1).1.map fun (k : Nat) => (k : Int)) with
      | false => rfl
      | true =>
        have := (rightS_facts hh).2.2 (n : Int) (List.mem_map.2 ⟨n, hn, rfl⟩)
        omega
    have e1 : ¬ ((lumpR 32767 (numsR most c.2.1 c.2.2 c.1).2.1 (numsR most c.2.1 c.2.2 c.1).2.2).2.2 = 0 ∧ baseRight a.1 b.1 ((numsR most c.2.1 c.2.2 c.1).1.map fun (k : Nat) => (k : Int)) (lumpR 32767 (numsR most c.2.1 c.2.2 c.1).2.1 (numsR most c.2.1 c.2.2 c.1).2.2).1 = true) := by
      rintro ⟨_, h⟩
      unfold baseRight at h
      rw [hr] at h
      simp at h
    have e2 : ¬ ((lumpR 32767 (numsR 7 c.2.1 c.2.2 c.1).2.1 (numsR 7 c.2.1 c.2.2 c.1).2.2).2.2 = 0 ∧ baseRight a.1 b.1 ((numsR 7 c.2.1 c.2.2 c.1).1.map fun (k : Nat) => (k : Int)) (lumpR 32767 (numsR 7 c.2.1 c.2.2 c.1).2.1 (numsR 7 c.2.1 c.2.2 c.1).2.2).1 = true) := by
      rintro ⟨h, _⟩
      unfold lumpR numR at h
      simp [h1] at h
    rw [if_neg e1, if_neg e2]
    exact ⟨rfl, rfl, rfl, rfl, rfl, fun h => by cases h⟩

theorem sameE_self (i t k : Int) (d : List Nat) : sameE i t k d i t k d = true := by simp [sameE]
theorem sameB_self (i t : Int) (c : List Int) (d : List Nat) : sameB i t c d i t c d = true := by simp [sameB]

/-- A byte turned by another one. -/
def xorB (a b : Nat) : Nat := (bitsI .xor .u8 a b).toNat

theorem xorB_eq (a b : Nat) : bitsI .xor .u8 (a : Int) (b : Int) = ((xorB a b : Nat) : Int) ∧ xorB a b < 256 := by
  have h : ∀ n : Int, 0 ≤ IntKind.u8.wrap n ∧ IntKind.u8.wrap n < 256 := fun n => by rw [w_u8]; omega
  have h1 : 0 ≤ bitsI .xor .u8 (a : Int) (b : Int) ∧ bitsI .xor .u8 (a : Int) (b : Int) < 256 := h _
  unfold xorB
  omega

end Go.Abs
namespace Go.Abs
open Go Go.Proofs
set_option maxRecDepth 100000
set_option linter.unusedSimpArgs false

def okB (p : List Nat) : Prop := (∀ c ∈ p, c < 256) ∧ p.length ≤ 100000

theorem prow_data (all : List (List Nat)) : isDRows (all.map prow) := by
  intro r hr c hc
  obtain ⟨p, _, rfl⟩ := List.mem_map.1 hr
  simp only [prow, List.mem_singleton] at hc
  subst hc; rfl

theorem prow_len (all : List (List Nat)) : ∀ r ∈ all.map prow, r.length = 1 := by
  intro r hr
  obtain ⟨p, _, rfl⟩ := List.mem_map.1 hr
  rfl

theorem set_byte {l : List Nat} (hl : okB l) {k : Nat} {n : Nat} (hn : n < 256) : okB (l.set k n) :=
  ⟨fun c hc => by rcases List.mem_or_eq_of_mem_set hc with h | h; exact hl.1 c h; omega, by simpa using hl.2⟩

theorem entsN_data (frm : Int) (l : List Nat) (hl : ∀ c ∈ l, c < 256) (n : Nat) : ∀ e ∈ entsN frm l n, (∀ c ∈ e.d, c < 256) ∧ e.d.length ≤ 2 := by
  intro e he
  unfold entsN at he
  obtain ⟨i, _, rfl⟩ := List.mem_map.1 he
  have hc : l.getD i 0 < 256 := by
    rcases Nat.lt_or_ge i l.length with h | h
    · rw [show l.getD i 0 = l[i] by simp [List.getD, h]]; exact hl _ (List.getElem_mem h)
    · simp [List.getD, List.getElem?_eq_none h]
  generalize l.getD i 0 = c at *
  unfold entAt
  split
  · exact ⟨by simp; omega, by simp⟩
  · split
    · exact ⟨by simp; omega, by simp⟩
    · exact ⟨by simp, by simp⟩

set_option maxHeartbeats 4000000 in
theorem EntryReads_con (raw l : List Nat) (at' x : Nat) (hraw : ∀ c ∈ raw, c < 256) (hl : ∀ c ∈ l, c < 256) (hat : at' < 65536) (hx : x < 256) :
    Con Try.prog 5 [.c (.sl (raw.map brow)), .c (.sl (l.map brow)), .c (.v (.int .u16 at')), .c (.v (.int .u8 x))] [] (B true) [] := by
  refine C_mementolaw8_EntryReads (Nat.le_of_ble_eq_true rfl) (Nat.le_of_ble_eq_true rfl) ?_
  simp only [A_mementolaw8_EntryReads, argL, objL, List.length_nil, Nat.reduceAdd, Nat.zero_add, x_seq]
  refine aw_reg 16 (RG.go fun Q hQ => ?_)
  simp only [RX, eff, ev_k, setS_cons, setS_nil, AOp.isCall, setD, setEs, presOf, AOp.needs, idsOf, AOp.rds, List.map_nil, List.nil_append, true_and, Bool.false_eq_true, reduceCtorEq, Nat.reduceAdd, Nat.reduceEqDiff, ↓reduceIte]
  refine hQ _ _ _ _ _ (RG.nil ?_)
  simp only [x_seq, x_tn]
  refine aw_reg 160 (RG.go fun Q hQ => ?_)
  simp only [RX, AOp.isCall, ↓reduceIte]
  refine hQ _ _ _ _ _ ?_
  refine RG.call [] (known_con) (tr_nil) (trivial) (.inl trivial) ?_
  refine RG.go fun Q hQ => ?_
  simp only [RX, eff, ev_t, lk_cons, setS_cons, setS_nil, AOp.isCall, setD, setEs, presOf, AOp.needs, SV.one?, SV.pre, unV, idsOf, AOp.rds, AOp.ops, SV.ids, C.ids0, Option.map_some, List.map_nil, List.nil_append, true_and, and_self, Bool.false_eq_true, Bool.not_true, reduceCtorEq, Nat.reduceAdd, Nat.reduceEqDiff, ↓reduceIte, List.append_nil]
  refine hQ _ _ _ _ _ (RG.nil ?_)
  simp only [x_tn]
  refine aw_cond _ rfl trivial (fun ht => by cases ht) (fun hf => ?_)
  simp only [x_seq, x_skip, x_tn]
  refine aw_reg 320 (RG.go fun Q hQ => ?_)
  simp only [RX, eff, ev_t, ev_k, lk_cons, setS_cons, setS_nil, AOp.isCall, setD, setEs, presOf, AOp.needs, SV.one?, SV.pre, gval, binV, idsOf, AOp.rds, AOp.ops, SV.ids, C.ids0, rowsOf, Option.map_some, List.map_nil, List.nil_append, and_true, true_and, and_self, Bool.true_and, Bool.false_eq_true, beq_false, implies_true, imp_self, Bool.if_true_left, Bool.decide_eq_true, reduceCtorEq, gt_iff_lt, Nat.reduceAdd, Nat.reduceEqDiff, ↓reduceIte, Option.bind_some, List.append_nil]
  refine ⟨fun h => by rw [h]; rfl, hQ _ _ _ _ _ (RG.nil ?_)⟩
  simp only [x_tn]
  refine aw_cond _ rfl trivial (fun ht => ?_) (fun hf => ?_)
  · skip
    simp only [x_seq]
    refine aw_reg 480 (RG.go fun Q hQ => ?_)
    simp only [RX, eff, ev_k, setS_cons, AOp.isCall, setD, setEs, presOf, AOp.needs, idsOf, AOp.rds, List.map_nil, List.nil_append, true_and, Bool.false_eq_true, reduceCtorEq, Nat.reduceAdd, Nat.reduceEqDiff, ↓reduceIte]
    refine hQ _ _ _ _ _ (RG.nil ?_)
    simp only [x_ret, x_tn, x_tr]
    exact Fin.scalar (.inr rfl) rfl trivial rfl trivial
  have hbr : raw.length ≤ 60 ∧ l.length ≤ 6 := by simp at hf; omega
  simp only [x_seq, x_skip, x_tn]
  refine aw_reg 480 (RG.go fun Q hQ => ?_)
  simp only [RX, eff, ev_k, setS_cons, setS_nil, AOp.isCall, setD, setEs, presOf, AOp.needs, idsOf, AOp.rds, List.map_nil, List.nil_append, true_and, Bool.false_eq_true, reduceCtorEq, Nat.reduceAdd, Nat.reduceEqDiff, ↓reduceIte]
  refine hQ _ _ _ _ _ (RG.nil ?_)
  simp only [x_seq, x_tn]
  refine aw_reg 640 (RG.go fun Q hQ => ?_)
  simp only [RX, eff, ev_t, lk_cons, setS_cons, setS_nil, AOp.isCall, setD, setEs, presOf, AOp.needs, idsOf, AOp.rds, List.map_nil, List.nil_append, true_and, Bool.false_eq_true, reduceCtorEq, Nat.reduceAdd, Nat.reduceEqDiff, ↓reduceIte]
  refine hQ _ _ _ _ _ ?_
  refine RG.callo [] [] ((Entries_con 1 l (by omega) (by omega) (by omega) hl).rows (erow_data _)) (.mk (tr_cons tr_v (tr_cons tr_sl tr_nil)) (trivial) (by simp) (by simp) (trivial) (by simp [lkE_nil]) (by simp) (by simp) (by simp)) ?_
  refine RG.go fun Q hQ => ?_
  simp only [RX, eff, ev_t, lk_cons, lkE_nil, setS_cons, setS_nil, AOp.isCall, setD, setEs, presOf, AOp.needs, idsOf, AOp.rds, List.drop_zero, List.length_nil, List.map_nil, List.nil_append, true_and, Bool.false_eq_true, reduceCtorEq, Nat.reduceAdd, Nat.reduceEqDiff, ↓reduceIte, renSV, renSV1, renC, renC0, renEnt, backUps, List.zip_nil_right, List.zipIdx_nil, List.filterMap_nil, List.append_nil, List.range_zero, Nat.sub_self]
  refine hQ _ _ _ _ _ (RG.nil ?_)
  simp only [x_seq, x_tn]
  refine aw_reg 800 (RG.go fun Q hQ => ?_)
  simp only [RX, eff, ev_k, setS_cons, setS_nil, AOp.isCall, setD, setEs, presOf, AOp.needs, idsOf, AOp.rds, List.map_nil, List.nil_append, true_and, Bool.false_eq_true, reduceCtorEq, Nat.reduceAdd, Nat.reduceEqDiff, ↓reduceIte]
  refine hQ _ _ _ _ _ (RG.nil ?_)
  simp only [x_block, x_tn]
  have hel := entsN_len 1 l l.length
  have hed := entsN_data 1 l hl l.length
  generalize entsN 1 l l.length = ents at *
  refine aw_loop (X := { p : Nat × List (List Nat) // p.1 ≤ ents.length ∧ (∀ q ∈ p.2, okB q) ∧ p.2.length ≤ 3 * p.1 }) (fun p => mkSt [(0, .c (.sl (raw.map brow))), (1, .c (.sl (l.map brow))), (2, .c (.v (.int .u16 at'))), (3, .c (.v (.int .u8 x))), (9, .c (.osl 1000)), (10, .c (.sl (ents.map erow))), (11, I p.1.1)] [(1000, .arr 23 1 (p.1.2.map prow) false)]) (fun p => ents.length - p.1.1) ⟨(0, []), by simp⟩ ?_ ?_
  · refine (Le.own 9 1000 23 1 rfl rfl (by decide)).trans (Le.lit [] [] _ _ ?_ ?_ ?_ ?_)
    · skip
      simp only [Int.cast_ofNat_Int, allL, lk_cons, lkE_cons, lkE_nil, WkSV, WkSV1, WkC, WkC0, rlook, frzEs, setE_nil, setS_cons, List.map_nil, Nat.reduceEqDiff, ↓reduceIte, reduceCtorEq, and_true, ne_eq, not_false_eq_true]
    · skip
      simp only [allL, lkE_cons, lkE_nil, WkEnt, rlook, frzEs, setE_nil, isDRows, Option.some.injEq, List.map_nil, ↓reduceIte, reduceCtorEq, true_and, and_true, exists_eq_left', ne_eq, true_or]
      simp
    · simp
    · simp
  rintro ⟨⟨i, all⟩, hi, hall, hal⟩
  simp only at hi hall hal
  simp only [x_seq]
  refine aw_reg 1000 (RG.go fun Q hQ => ?_)
  simp only [RX, eff, ev_t, lk_cons, setS_cons, setS_nil, AOp.isCall, setD, setEs, presOf, AOp.needs, SV.one?, SV.pre, binV, idsOf, AOp.rds, AOp.ops, SV.ids, C.ids0, rowsOf, Option.map_some, List.map_nil, List.nil_append, true_and, and_self, Bool.false_eq_true, reduceCtorEq, Nat.reduceAdd, Nat.reduceEqDiff, ↓reduceIte, Option.bind_some, List.append_nil]
  refine hQ _ _ _ _ _ (RG.nil ?_)
  simp only [x_tn]
  refine aw_cond _ rfl trivial (fun ht => ?_) (fun hf => ?_)
  · have hi' : i < ents.length := by simpa using ht
    have hr : (List.map erow ents)[(i : Int).toNat]?.getD [] = entC ents[i].i ents[i].t ents[i].k ents[i].d := by simp [hi', erow]
    have hw1 : IntKind.i64.wrap ((i : Int) + 1) = ((i + 1 : Nat) : Int) := by rw [w64 _ (by omega) (by omega)]; rfl
    obtain ⟨hd1, hd2⟩ := hed _ (List.getElem_mem hi')
    generalize ents[i] = en at *
    have hpl := putE_len (i := en.i) (t := en.t) (k := en.k) (d := en.d)
    have hpm := putE_mem (i := en.i) (t := en.t) (k := en.k) hd1
    simp only [x_seq, x_block, x_skip, x_tn]
    refine aw_reg 1200 (RG.go fun Q hQ => ?_)
    simp only [RX, eff, ev_t, lk_cons, setS_cons, setS_nil, AOp.isCall, setD, setEs, presOf, AOp.needs, SV.one?, SV.pre, idsOf, AOp.rds, AOp.ops, SV.ids, C.ids0, List.take_succ_cons, List.take_zero, List.length_cons, List.length_nil, List.map_nil, List.nil_append, and_true, true_and, and_self, Bool.false_eq_true, reduceCtorEq, Nat.reduceAdd, Nat.reduceEqDiff, ↓reduceIte, Nat.zero_add, Nat.le_refl, List.append_nil, hr]
    refine ⟨⟨by omega, by simp; omega⟩, ?_⟩
    refine hQ _ _ _ _ _ ?_
    refine RG.call [] (mementoref6_PutEntry_con en.i en.t en.k en.d) (tr_cons (tr_agg ⟨rfl, rfl, rfl, rfl, trivial⟩) tr_nil) (trivial) (.inr ⟨rfl, trivial⟩) ?_
    refine RG.go fun Q hQ => ?_
    simp only [RX, eff, ev_t, lk_cons, setS_cons, setS_nil, AOp.isCall, setD, setEs, presOf, AOp.needs, idsOf, AOp.rds, List.map_nil, List.nil_append, true_and, Bool.false_eq_true, reduceCtorEq, Nat.reduceAdd, Nat.reduceEqDiff, ↓reduceIte]
    refine hQ _ _ _ _ _ (RG.nil ?_)
    simp only [x_seq, x_tn]
    generalize putE en.i en.t en.k en.d = b at *
    refine aw_reg 1400 (RG.go fun Q hQ => ?_)
    simp only [RX, eff, ev_t, ev_k, lk_cons, setS_cons, setS_nil, AOp.isCall, setD, setEs, presOf, AOp.needs, SV.one?, SV.pre, binV, idsOf, AOp.rds, AOp.ops, SV.ids, C.ids0, rowsOf, Option.map_some, List.map_nil, List.nil_append, true_and, and_self, Bool.false_eq_true, reduceCtorEq, gt_iff_lt, Nat.reduceAdd, Nat.reduceEqDiff, ↓reduceIte, Option.bind_some, List.append_nil]
    refine hQ _ _ _ _ _ (RG.nil ?_)
    simp only [x_tn]
    refine aw_cond _ rfl trivial (fun ht2 => ?_) (fun hf2 => ?_)
    · have hb0 : 0 < b.length := by simp at ht2; exact ht2
      have hk : at' % b.length < b.length := Nat.mod_lt _ hb0
      have hq : ((at' : Int)).tmod (((b.map brow).length : Nat) : Int) = ((at' % b.length : Nat) : Int) := by
        rw [Int.tmod_eq_emod_of_nonneg (by omega), List.length_map]; rfl
      have hwa : IntKind.i64.wrap (at' : Int) = at' := w64 _ (by omega) (by omega)
      obtain ⟨hx1, hx2⟩ := xorB_eq b[at' % b.length] x
      have hr2 : (List.map brow b)[((at' % b.length : Nat) : Int).toNat]?.getD [] = [.v (.int .u8 b[at' % b.length])] := by
        rw [Int.toNat_natCast, List.getElem?_map, List.getElem?_eq_getElem hk]; rfl
      have hs1 : (List.map brow b).set ((at' % b.length : Nat) : Int).toNat [C.v (Value.int IntKind.u8 ((xorB b[at' % b.length] x : Nat) : Int))] = (b.set (at' % b.length) (xorB b[at' % b.length] x)).map brow := by rw [List.map_set, Int.toNat_natCast]; rfl
      have hs2 : List.take ((at' % b.length : Nat) : Int).toNat (List.map brow b) = (b.take (at' % b.length)).map brow := by rw [Int.toNat_natCast, List.map_take]
      simp only [x_seq]
      refine aw_reg 1600 (RG.go fun Q hQ => ?_)
      simp only [RX, eff, ev_t, ev_k, lk_cons, lkE_cons, lkE_nil, setS_cons, setS_nil, setE_cons, setE_nil, AOp.isCall, setD, setEs, presOf, AOp.needs, SV.one?, SV.pre, idsOf, AOp.rds, AOp.ops, SV.ids, C.ids0, rowsOf, srcOf, Option.map_some, List.map_cons, List.map_nil, List.nil_append, true_and, and_self, Bool.false_eq_true, reduceCtorEq, Nat.reduceAdd, Nat.reduceEqDiff, ↓reduceIte, List.append_nil]
      refine ⟨⟨brow_len _, by simp; omega⟩, hQ _ _ _ _ _ (RG.nil ?_)⟩
      simp only [x_seq, x_tn]
      refine aw_reg 1800 (RG.go fun Q hQ => ?_)
      simp only [RX, eff, ev_t, lk_cons, lkE_cons, setS_cons, setS_nil, setE_cons, AOp.isCall, setD, setEs, presOf, AOp.needs, SV.one?, SV.pre, SV.cells, binV, idsOf, AOp.rds, AOp.ops, SV.ids, C.ids0, rowsOf, Option.getD_some, splice, List.take_zero, List.drop_succ_cons, List.drop_zero, List.length_cons, List.length_nil, List.getElem?_cons_zero, Option.map_some, List.map_cons, List.map_nil, List.nil_append, List.cons_append, and_true, true_and, and_self, Bool.false_eq_true, reduceCtorEq, Nat.reduceAdd, Nat.reduceEqDiff, Nat.reduceLT, ↓reduceIte, Option.bind_some, Nat.zero_add, Nat.le_refl, List.append_nil, C_default, hwa, hq, hr2, hx1, hs1]
      refine ⟨by rw [List.length_map]; omega, ⟨by omega, by simp; omega⟩, by simp; omega, ⟨by omega, by simp; omega⟩, by simp; omega, ?_⟩
      refine hQ _ _ _ _ _ (RG.nil ?_)
      simp only [x_tn]
      refine aw_reg 2000 (RG.go fun Q hQ => ?_)
      simp only [RX, eff, Nat.reduceMod, Nat.zero_ne_one, ev_t, lk_cons, lkE_cons, lkE_nil, setS_cons, setS_nil, setE_cons, setE_nil, AOp.isCall, setD, setEs, presOf, AOp.needs, SV.one?, SV.pre, SV.cells, binV, idsOf, AOp.rds, AOp.ops, SV.ids, C.ids0, sliceTo, rowsOf, srcOf, bnd, bnd', Option.getD_some, bSRows, List.drop_zero, List.length_cons, List.length_nil, Option.map_some, List.map_cons, List.map_nil, List.nil_append, List.cons_append, true_and, and_self, Bool.false_eq_true, reduceCtorEq, Nat.reduceAdd, Nat.reduceEqDiff, Int.reduceToNat, ↓reduceIte, Option.bind_some, Nat.zero_add, List.append_nil, Option.toList_some, Option.toList_none, Int.reduceLE, hwa, hq, hs2]
      refine ⟨by rw [List.length_map]; omega, ⟨by omega, by simp; omega, brow_len _⟩, ⟨by simp, by simp; omega⟩, ?_⟩
      refine hQ _ _ _ _ _ (RG.nil ?_)
      simp only [x_tn, x_bn]
      refine aw_reg 2400 (RG.go fun Q hQ => ?_)
      simp only [RX, eff, ev_t, ev_k, lk_cons, setS_cons, setS_nil, AOp.isCall, setD, setEs, presOf, AOp.needs, SV.one?, SV.pre, binV, idsOf, AOp.rds, AOp.ops, SV.ids, C.ids0, Option.map_some, List.map_nil, List.nil_append, true_and, and_self, Bool.false_eq_true, reduceCtorEq, Nat.reduceAdd, Nat.reduceEqDiff, ↓reduceIte, List.append_nil, hw1]
      refine hQ _ _ _ _ _ (RG.nil ?_)
      simp only [x_ln]
      have hbk : okB b := ⟨hpm, by omega⟩
      refine ⟨⟨(i + 1, all ++ [b, b.set (at' % b.length) (xorB b[at' % b.length] x), b.take (at' % b.length)]), hi', ?_, by simp; omega⟩, ?_, by simp; omega⟩
      · intro q hq
        rcases List.mem_append.1 hq with h | h
        · exact hall q h
        · simp only [List.mem_cons, List.not_mem_nil, or_false] at h
          rcases h with h | h | h <;> rw [h]
          · exact hbk
          · exact set_byte hbk hx2
          · exact ⟨fun c hc => hbk.1 c (List.mem_of_mem_take hc), by have := hbk.2; simp; omega⟩
      refine (Le.tell [1616] 2176 23 1 _ ((all ++ [b, b.set (at' % b.length) (xorB b[at' % b.length] x), b.take (at' % b.length)]).map prow) false rfl (by rw [List.map_append]; refine tell_app ?_ _; exact ⟨⟨.inl rfl, trivial⟩, ⟨.inr (.inr ⟨_, _, _, _, rfl, rfl, rfl, drows_brow _⟩), trivial⟩, ⟨.inl rfl, trivial⟩, trivial⟩)).trans (Le.lit [] [(1000, 2176)] _ _ ?_ ?_ ?_ ?_)
      · skip
        simp only [allL, lk_cons, lkE_cons, lkE_nil, WkSV, WkSV1, WkC, WkC0, rlook, frzEs, frzE, setE_cons, Nat.reduceEqDiff, ↓reduceIte, reduceCtorEq, and_true, ne_eq, not_false_eq_true]
      · skip
        simp only [allL, lkE_cons, lkE_nil, WkEnt, rlook, frzEs, frzE, setE_cons, isDRows, Option.some.injEq, Nat.reduceEqDiff, ↓reduceIte, reduceCtorEq, true_and, and_true, exists_eq_left', ne_eq, true_or]
        exact prow_data _
      · simp
      · simp
    simp only [x_skip, x_tn, x_bn]
    refine aw_reg 2400 (RG.go fun Q hQ => ?_)
    simp only [RX, eff, ev_t, ev_k, lk_cons, setS_cons, setS_nil, AOp.isCall, setD, setEs, presOf, AOp.needs, SV.one?, SV.pre, binV, idsOf, AOp.rds, AOp.ops, SV.ids, C.ids0, Option.map_some, List.map_nil, List.nil_append, true_and, and_self, Bool.false_eq_true, reduceCtorEq, Nat.reduceAdd, Nat.reduceEqDiff, ↓reduceIte, List.append_nil, hw1]
    refine hQ _ _ _ _ _ (RG.nil ?_)
    simp only [x_ln]
    refine ⟨⟨(i + 1, all), hi', hall, by simp only; omega⟩, ?_, by simp; omega⟩
    refine Le.lit [] [] _ _ ?_ ?_ ?_ ?_
    · skip
      simp only [allL, lk_cons, lkE_cons, lkE_nil, WkSV, WkSV1, WkC, WkC0, rlook, frzEs, Nat.reduceEqDiff, ↓reduceIte, reduceCtorEq, and_true, ne_eq, not_false_eq_true]
    · skip
      simp only [allL, lkE_cons, lkE_nil, WkEnt, rlook, frzEs, isDRows, Option.some.injEq, ↓reduceIte, reduceCtorEq, true_and, and_true, exists_eq_left', ne_eq, true_or]
      exact prow_data _
    · simp
    · simp
  have hi' : i = ents.length := by simp at hf; omega
  have hl6 : all.length ≤ 18 := by omega
  simp only [x_seq, x_exit, x_tn, x_tx, x_bx, x_lx, ↓reduceIte]
  refine aw_reg 3000 (RG.go fun Q hQ => ?_)
  simp only [RX, eff, ev_t, ev_k, lk_cons, lkE_cons, lkE_nil, setS_cons, setS_nil, setE_cons, setE_nil, AOp.isCall, setD, setEs, presOf, AOp.needs, SV.one?, SV.pre, SV.cells, idsOf, AOp.rds, AOp.ops, SV.ids, C.ids0, bldFold, bSRows, splice, List.take_succ_cons, List.take_zero, List.drop_succ_cons, List.drop_zero, List.length_cons, List.length_nil, Option.map_some, List.map_cons, List.map_nil, List.nil_append, List.cons_append, true_and, and_self, Bool.false_eq_true, reduceCtorEq, Nat.reduceAdd, Nat.reduceEqDiff, Nat.reduceLeDiff, ↓reduceIte, Nat.zero_add, Nat.le_refl, List.append_nil]
  refine hQ _ _ _ _ _ ?_
  have hwx : IntKind.i64.wrap (x : Int) = x := w64 _ (by omega) (by omega)
  have hwa : IntKind.i64.wrap (at' : Int) = at' := w64 _ (by omega) (by omega)
  simp only [hwx]
  refine RG.callo [] [3032] (mementoref6_PutBase_con 5 x [0, 1, 4] l (by decide)) (.mk (tr_cons (tr_agg ⟨rfl, rfl, ⟨by simp, _, _, _, rfl, drows_nrow [0, 1, 4]⟩, rfl, trivial⟩) tr_nil) (trivial) (by simp) (by simp) (views1 rfl trivial) (by simp [lkE_cons, lkE_nil]) (by simp) (by simp) (by simp)) ?_
  refine RG.go fun Q hQ => ?_
  simp only [RX, eff, ev_t, lk_cons, lkE_cons, lkE_nil, setS_cons, setS_nil, setE_cons, AOp.isCall, setD, setEs, presOf, AOp.needs, idsOf, AOp.rds, List.drop_zero, List.length_nil, List.map_cons, List.map_nil, List.nil_append, true_and, Bool.false_eq_true, reduceCtorEq, Nat.reduceAdd, Nat.reduceEqDiff, ↓reduceIte, renSV, renSV1, renC, renC0, renEnt, backUps, List.zip_nil_right, List.zipIdx_nil, List.filterMap_cons, List.filterMap_nil, List.append_nil, List.range_zero, Nat.sub_self]
  refine hQ _ _ _ _ _ (RG.nil ?_)
  simp only [x_seq, x_tn]
  have hrb : baseRight 5 x [0, 1, 4] l = true := by
    have h1 : rightS [0, 1, 4] = true := by decide
    simp [baseRight, timeS, h1]; omega
  have hb0 : 0 < (putB 5 x [0, 1, 4] l).length := by
    unfold putB
    rw [if_pos hrb]
    have := num7_pos l.length
    simp only [List.length_append]; omega
  have hpl := putB_len (i := 5) (t := (x : Int)) (c := [0, 1, 4]) (d := l)
  have hpm := putB_mem (i := 5) (t := (x : Int)) (c := [0, 1, 4]) hl
  generalize putB 5 x [0, 1, 4] l = b at *
  have hk : at' % b.length < b.length := Nat.mod_lt _ hb0
  have hq : ((at' : Int)).tmod (((b.map brow).length : Nat) : Int) = ((at' % b.length : Nat) : Int) := by
    rw [Int.tmod_eq_emod_of_nonneg (by omega), List.length_map]; rfl
  obtain ⟨hx1, hx2⟩ := xorB_eq b[at' % b.length] x
  have hr2 : (List.map brow b)[((at' % b.length : Nat) : Int).toNat]?.getD [] = [.v (.int .u8 b[at' % b.length])] := by
    rw [Int.toNat_natCast, List.getElem?_map, List.getElem?_eq_getElem hk]; rfl
  have hs1 : (List.map brow b).set ((at' % b.length : Nat) : Int).toNat [C.v (Value.int IntKind.u8 ((xorB b[at' % b.length] x : Nat) : Int))] = (b.set (at' % b.length) (xorB b[at' % b.length] x)).map brow := by rw [List.map_set, Int.toNat_natCast]; rfl
  refine aw_reg 3300 (RG.go fun Q hQ => ?_)
  simp only [RX, eff, ev_t, ev_k, lk_cons, lkE_cons, lkE_nil, setS_cons, setS_nil, setE_cons, setE_nil, AOp.isCall, setD, setEs, presOf, AOp.needs, SV.one?, SV.pre, idsOf, AOp.rds, AOp.ops, SV.ids, C.ids0, rowsOf, srcOf, Option.map_some, List.map_cons, List.map_nil, List.nil_append, true_and, and_self, Bool.false_eq_true, reduceCtorEq, Nat.reduceAdd, Nat.reduceEqDiff, ↓reduceIte, List.append_nil]
  refine ⟨⟨brow_len _, by simp; omega⟩, hQ _ _ _ _ _ (RG.nil ?_)⟩
  simp only [x_seq, x_tn]
  refine aw_reg 3500 (RG.go fun Q hQ => ?_)
  simp only [RX, eff, ev_t, lk_cons, lkE_cons, setS_cons, setS_nil, setE_cons, AOp.isCall, setD, setEs, presOf, AOp.needs, SV.one?, SV.pre, SV.cells, binV, idsOf, AOp.rds, AOp.ops, SV.ids, C.ids0, rowsOf, Option.getD_some, splice, List.take_zero, List.drop_succ_cons, List.drop_zero, List.length_cons, List.length_nil, List.getElem?_cons_zero, Option.map_some, List.map_cons, List.map_nil, List.nil_append, List.cons_append, and_true, true_and, and_self, Bool.false_eq_true, reduceCtorEq, Nat.reduceAdd, Nat.reduceEqDiff, Nat.reduceLT, ↓reduceIte, Option.bind_some, Nat.zero_add, Nat.le_refl, List.append_nil, C_default, hwa, hq, hr2, hx1, hs1]
  refine ⟨by rw [List.length_map]; omega, ⟨by omega, by simp; omega⟩, by simp; omega, ⟨by omega, by simp; omega⟩, by simp; omega, ?_⟩
  refine hQ _ _ _ _ _ (RG.nil ?_)
  simp only [x_seq, x_tn]
  refine aw_reg 4000 (RG.go fun Q hQ => ?_)
  simp only [RX, eff, ev_t, lk_cons, lkE_cons, lkE_nil, setS_cons, setS_nil, setE_cons, setE_nil, AOp.isCall, setD, setEs, presOf, AOp.needs, SV.one?, SV.pre, SV.cells, idsOf, AOp.rds, AOp.ops, SV.ids, C.ids0, rowsOf, srcOf, bSRows, List.length_cons, List.length_nil, Option.map_some, List.map_cons, List.map_nil, List.nil_append, List.cons_append, true_and, and_self, Bool.false_eq_true, reduceCtorEq, Nat.reduceAdd, Nat.reduceEqDiff, ↓reduceIte, Nat.zero_add, List.append_nil]
  refine ⟨⟨by simp, by simp; omega⟩, hQ _ _ _ _ _ (RG.nil ?_)⟩
  simp only [x_seq, x_tn]
  refine aw_reg 4300 (RG.go fun Q hQ => ?_)
  simp only [RX, eff, ev_k, setS_cons, setS_nil, AOp.isCall, setD, setEs, presOf, AOp.needs, idsOf, AOp.rds, List.map_nil, List.nil_append, true_and, Bool.false_eq_true, reduceCtorEq, Nat.reduceAdd, Nat.reduceEqDiff, ↓reduceIte]
  refine hQ _ _ _ _ _ (RG.nil ?_)
  simp only [x_block, x_tn]
  obtain ⟨all2, hall2e, hall2, hal2⟩ : ∃ all2, all2 = all ++ [raw, b, b.set (at' % b.length) (xorB b[at' % b.length] x)] ∧ (∀ q ∈ all2, okB q) ∧ all2.length ≤ 100 := by
    have hbk : okB b := ⟨hpm, by omega⟩
    refine ⟨_, rfl, ?_, by simp; omega⟩
    intro q hq
    rcases List.mem_append.1 hq with h | h
    · exact hall q h
    · simp only [List.mem_cons, List.not_mem_nil, or_false] at h
      rcases h with h | h | h <;> rw [h]
      · exact ⟨hraw, by omega⟩
      · exact hbk
      · exact set_byte hbk hx2
  refine aw_loop (X := { i : Nat // i ≤ all2.length }) (fun i => mkSt [(9, .c (.osl 1000)), (16, I i.1)] [(1000, .arr 23 1 (all2.map prow) false)]) (fun i => all2.length - i.1) ⟨0, by omega⟩ ?_ ?_
  · refine (Le.tell [3316] 4080 23 1 _ (all2.map prow) false rfl (by rw [hall2e, List.map_append]; refine tell_app ?_ _; exact ⟨⟨.inl rfl, trivial⟩, ⟨.inl rfl, trivial⟩, ⟨.inr (.inr ⟨_, _, _, _, rfl, rfl, rfl, drows_brow _⟩), trivial⟩, trivial⟩)).trans (Le.lit [] [(1000, 4080)] _ _ ?_ ?_ ?_ ?_)
    · skip
      simp only [Int.cast_ofNat_Int, allL, lk_cons, lkE_cons, lkE_nil, WkSV, WkSV1, WkC, WkC0, rlook, frzEs, frzE, setE_cons, Nat.reduceEqDiff, ↓reduceIte, reduceCtorEq, and_true, ne_eq, not_false_eq_true]
    · skip
      simp only [allL, lkE_cons, lkE_nil, WkEnt, rlook, frzEs, frzE, setE_cons, isDRows, Option.some.injEq, Nat.reduceEqDiff, ↓reduceIte, reduceCtorEq, true_and, and_true, exists_eq_left', ne_eq, true_or]
      exact prow_data _
    · simp
    · simp
  clear hall2e
  rintro ⟨j, hj⟩
  simp only [x_seq]
  refine aw_reg 5000 (RG.go fun Q hQ => ?_)
  simp only [RX, eff, ev_t, lk_cons, lkE_cons, setS_cons, setS_nil, AOp.isCall, setD, setEs, presOf, AOp.needs, SV.one?, SV.pre, binV, idsOf, AOp.rds, AOp.ops, SV.ids, C.ids0, rowsOf, Option.map_some, List.map_nil, List.nil_append, List.cons_append, true_and, and_self, Bool.false_eq_true, Nat.reduceAdd, Nat.reduceEqDiff, ↓reduceIte, Option.bind_some, List.append_nil]
  refine hQ _ _ _ _ _ (RG.nil ?_)
  simp only [x_tn]
  refine aw_cond _ rfl trivial (fun ht => ?_) (fun hf => ?_)
  rotate_left
  · skip
    simp only [x_seq, x_exit, x_tn, x_tx, x_bx, x_lx, ↓reduceIte]
    refine aw_reg 5200 (RG.go fun Q hQ => ?_)
    simp only [RX, eff, ev_k, setS_cons, setS_nil, AOp.isCall, setD, setEs, presOf, AOp.needs, idsOf, AOp.rds, List.map_nil, List.nil_append, true_and, Bool.false_eq_true, Nat.reduceAdd, Nat.reduceEqDiff, ↓reduceIte]
    refine hQ _ _ _ _ _ (RG.nil ?_)
    simp only [x_ret, x_tn]
    exact Fin.scalar (.inr rfl) rfl trivial rfl trivial
  have hj' : j < all2.length := by simpa using ht
  have hw1 : IntKind.i64.wrap ((j : Int) + 1) = ((j + 1 : Nat) : Int) := by rw [w64 _ (by omega) (by omega)]; rfl
  obtain ⟨hm1, hm2⟩ := hall2 _ (List.getElem_mem hj')
  have hr : (List.map prow all2)[(j : Int).toNat]?.getD [] = [.sl (all2[j].map brow)] := by simp [hj', prow]
  generalize all2[j] = v at *
  have cE := entry_Read_con v 0 hm1 (by omega)
  have cF := mementoref6_ReadEntry_con v 0 hm1 (by omega)
  obtain ⟨hE1, hE2, hE3⟩ := readE_mem (e := 0) hm1
  have cS := mementoref6_SameEntry_con (readE v 0).i (readE v 0).t (readE v 0).k (readE v 0).d (readE v 0).i (readE v 0).t (readE v 0).k (readE v 0).d hE1 hE1
  rw [sameE_self] at cS
  generalize readE v 0 = r at *
  obtain ⟨ri, rt, rk, rd, rok, rl, re⟩ := r
  simp only at cE cF cS hE1 hE2 hE3
  have cG := entry_ReadBase_con v 0 hm1 (by omega)
  have cH := mementoref6_ReadBase_con v 0 hm1 (by omega)
  obtain ⟨hB1, hB2, hB3, hB4⟩ := readB_mem (most := 7) (e := 0) hm1
  obtain ⟨hB5, hB6, hB7, _⟩ := readB_mem (most := 9223372036854775807) (e := 0) hm1
  obtain ⟨a1, a2, a3, a4, a5, a6⟩ := readB_agree 9223372036854775807 (by omega) v 0
  have cT := mementoref6_SameBase_con (readB 7 v 0).i (readB 7 v 0).t (readB 7 v 0).c (readB 7 v 0).d (readB 7 v 0).i (readB 7 v 0).t (readB 7 v 0).c (readB 7 v 0).d (by omega) hB1 hB1
  rw [sameB_self] at cT
  rw [a1, a2, a3, a4, a5] at cG
  generalize readB 9223372036854775807 v 0 = s' at *
  obtain ⟨_, _, _, _, _, sl', se'⟩ := s'
  simp only at cG a6 hB6 hB7
  generalize readB 7 v 0 = s at *
  obtain ⟨si, st, sc, sd, sok, sl, se⟩ := s
  simp only at cG cH cT hB1 hB2 hB3 hB4 a6
  simp only [x_seq, x_block, x_skip, x_tn]
  cases rok
  · skip
    refine aw_draw 5300 (RG.go fun Q hQ => ?_)
    simp only [RX, eff, ev_t, lk_cons, lkE_cons, setS_cons, setS_nil, AOp.isCall, setD, setEs, presOf, AOp.needs, SV.one?, SV.pre, idsOf, AOp.rds, AOp.ops, SV.ids, C.ids0, Option.getD_some, List.getElem?_cons_zero, List.map_nil, List.nil_append, List.cons_append, and_true, true_and, and_self, Bool.false_eq_true, Nat.reduceAdd, Nat.reduceEqDiff, Nat.reduceLT, ↓reduceIte, List.append_nil, C_default, hr]
    refine ⟨⟨by omega, by simp; omega⟩, by simp; omega, hQ _ _ _ _ _ ?_⟩
    refine RG.callo [] [] (pack_New_con (v.map brow) (drows_brow _) (brow_len _) (by simp; omega)) (.mk (tr_cons tr_sl tr_nil) (trivial) (by simp) (by simp) (trivial) (by simp [lkE_cons, lkE_nil]) (by simp [Ent.pure]) (by simp) (by simp)) ?_
    refine RG.go fun Q hQ => ?_
    simp only [RX, eff, ev_t, lk_cons, lkE_cons, lkE_nil, setS_cons, setS_nil, setE_cons, setE_nil, AOp.isCall, setD, setEs, presOf, AOp.needs, SV.one?, SV.pre, SV.cells, idsOf, AOp.rds, AOp.ops, SV.ids, C.ids0, bldFold, splice, List.take_zero, List.drop_succ_cons, List.drop_zero, List.length_cons, List.length_nil, Option.map_some, List.map_cons, List.map_nil, List.nil_append, List.cons_append, and_true, true_and, and_self, Bool.false_eq_true, Nat.reduceAdd, Nat.reduceEqDiff, Nat.reduceLeDiff, Nat.reduceLT, ↓reduceIte, Nat.zero_add, renSV, renSV1, renC, renC0, rn, renEnt, backUps, List.zip_nil_left, List.zipIdx_cons, List.zipIdx_nil, List.filterMap_nil, List.append_nil, List.getElem?_nil, Nat.sub_self, Nat.sub_zero, Nat.add_zero, C_default]
    simp only [hr, List.getElem?_cons_zero, Option.getD_some]
    refine ⟨⟨by omega, by simp; omega⟩, by simp; omega, ?_⟩
    refine hQ _ _ _ _ _ (RG.nil ⟨by decide, ?_⟩)
    simp only [x_seq, x_tn]
    refine aw_reg 5600 (RG.go fun Q hQ => ?_)
    simp only [RX, eff, ev_t, lk_cons, setS_cons, setS_nil, AOp.isCall, setD, setEs, presOf, AOp.needs, idsOf, AOp.rds, List.map_nil, List.nil_append, true_and, Bool.false_eq_true, Nat.reduceAdd, Nat.reduceEqDiff, ↓reduceIte]
    refine hQ _ _ _ _ _ ?_
    refine RG.callo [5364] [] (cE) (.mk (tr_cons (tr_bp rfl) tr_nil) (by simp only [Int.cast_ofNat_Int, TrL, TrC, TrC0, TrEnt, lkE_cons, Nat.reduceEqDiff, ↓reduceIte, and_self, exists_eq_left', Option.some.injEq, isDRows]) (by simp) (by simp) (trivial) (by simp [lkE_cons, lkE_nil]) (by simp [Ent.pure]) (by simp) (by simp)) ?_
    refine RG.go fun Q hQ => ?_
    simp only [RX, eff, ev_t, lk_cons, lkE_cons, lkE_nil, setS_cons, setS_nil, setE_cons, setE_nil, AOp.isCall, setD, setEs, presOf, AOp.needs, SV.one?, SV.pre, SV.core, SV.cells, idsOf, AOp.rds, AOp.ops, SV.ids, C.ids0, splice, List.take_zero, List.drop_succ_cons, List.drop_zero, List.length_cons, List.length_nil, List.getElem?_cons_zero, List.getElem?_cons_succ, Option.map_some, List.map_cons, List.map_nil, List.nil_append, List.cons_append, true_and, and_self, Bool.false_eq_true, Nat.reduceAdd, Nat.reduceEqDiff, ↓reduceIte, Nat.zero_add, Nat.le_refl, renSV, renSV1, renC, renC0, renEnt, backUps, List.zip_nil_right, List.zip_cons_cons, List.zipIdx_nil, List.filterMap_nil, List.append_nil, List.range_zero, Nat.sub_self]
    refine hQ _ _ _ _ _ (RG.nil ?_)
    simp only [x_seq, x_tn]
    refine aw_reg 5900 (RG.go fun Q hQ => ?_)
    simp only [RX, eff, ev_t, lk_cons, setS_cons, setS_nil, AOp.isCall, setD, setEs, presOf, AOp.needs, idsOf, AOp.rds, List.map_nil, List.nil_append, true_and, Bool.false_eq_true, Nat.reduceAdd, Nat.reduceEqDiff, ↓reduceIte]
    refine hQ _ _ _ _ _ ?_
    refine RG.callo [5460] [] (cF) (.mk (tr_cons (tr_bp rfl) tr_nil) (by simp only [Int.cast_ofNat_Int, TrL, TrC, TrC0, TrEnt, lkE_cons, Nat.reduceEqDiff, ↓reduceIte, and_self, exists_eq_left', Option.some.injEq, isDRows]) (by simp) (by simp) (trivial) (by simp [lkE_cons, lkE_nil]) (by simp [Ent.pure]) (by simp) (by simp)) ?_
    refine RG.go fun Q hQ => ?_
    simp only [RX, eff, ev_t, lk_cons, lkE_cons, lkE_nil, setS_cons, setS_nil, setE_cons, setE_nil, AOp.isCall, setD, setEs, presOf, AOp.needs, SV.one?, SV.pre, SV.core, SV.cells, idsOf, AOp.rds, AOp.ops, SV.ids, C.ids0, splice, List.take_zero, List.drop_succ_cons, List.drop_zero, List.length_cons, List.length_nil, List.getElem?_cons_zero, List.getElem?_cons_succ, Option.map_some, List.map_cons, List.map_nil, List.nil_append, List.cons_append, true_and, and_self, Bool.false_eq_true, Nat.reduceAdd, Nat.reduceEqDiff, ↓reduceIte, Nat.zero_add, Nat.le_refl, renSV, renSV1, renC, renC0, renEnt, backUps, List.zip_nil_right, List.zip_cons_cons, List.zipIdx_nil, List.filterMap_nil, List.append_nil, List.range_zero, Nat.sub_self]
    refine hQ _ _ _ _ _ (RG.nil ?_)
    simp only [x_seq, x_tn]
    refine aw_draw 6200 (RG.go fun Q hQ => ?_)
    simp only [RX, eff, ev_t, lk_cons, lkE_cons, setS_cons, setS_nil, AOp.isCall, setD, setEs, presOf, AOp.needs, SV.one?, SV.pre, gval, binV, idsOf, AOp.rds, AOp.ops, SV.ids, C.ids0, List.take_succ_cons, List.take_zero, List.drop_zero, List.length_cons, List.length_nil, Option.map_some, List.map_nil, List.nil_append, List.cons_append, true_and, and_self, Bool.and_true, Bool.false_eq_true, Bool.not_true, implies_true, Nat.reduceAdd, Nat.reduceEqDiff, ↓reduceIte, Nat.zero_add, Nat.le_refl, BEq.rfl, List.append_nil]
    refine hQ _ _ _ _ _ ?_
    refine RG.callg _ _ [] rfl (fun hg => ⟨_, cS, tr_cons (tr_opt (by simpa using hg) (tr_agg ⟨rfl, rfl, rfl, rfl, trivial⟩)) (tr_cons (tr_opt (by simpa using hg) (tr_agg ⟨rfl, rfl, rfl, rfl, trivial⟩)) tr_nil), trivial, .inl trivial⟩) ?_
    refine RG.go fun Q hQ => ?_
    simp only [RX, eff, ev_t, ev_k, lk_cons, setS_cons, setS_nil, AOp.isCall, setD, setEs, presOf, AOp.needs, SV.one?, SV.pre, gval, unV, idsOf, AOp.rds, AOp.ops, SV.ids, C.ids0, Option.map_some, List.map_nil, List.nil_append, List.cons_append, and_true, true_and, and_self, Bool.and_true, Bool.and_false, Bool.false_eq_true, beq_true, Bool.not_true, implies_true, imp_self, Nat.reduceAdd, Nat.reduceEqDiff, ↓reduceIte, BEq.rfl, List.append_nil, Nat.add_zero]
    refine hQ _ _ _ _ _ ?_
    refine RG.callg (res := B false) _ _ [] rfl (fun hg => absurd hg (by simp)) ?_
    refine RG.go fun Q hQ => ?_
    simp only [RX, eff, ev_t, ev_k, lk_cons, lkE_cons, setS_cons, setS_nil, AOp.isCall, setD, setEs, presOf, AOp.needs, SV.one?, SV.pre, gval, binV, idsOf, AOp.rds, AOp.ops, SV.ids, C.ids0, rowsOf, List.getElem?_cons_zero, Option.map_some, Option.map_none, List.map_nil, List.nil_append, List.cons_append, and_true, true_and, and_self, Bool.and_true, Bool.and_false, Bool.false_eq_true, beq_true, implies_true, imp_self, Nat.reduceAdd, Nat.reduceEqDiff, ↓reduceIte, Option.bind_some, BEq.rfl, List.append_nil, Nat.add_zero]
    refine hQ _ _ _ _ _ (RG.nil ⟨by decide, ?_⟩)
    simp only [x_tn]
    refine aw_cond _ rfl trivial (fun ht => by cases ht) (fun hf => ?_)
    simp only [x_seq, x_skip, x_tn]
    cases sok
    · skip
      refine aw_draw 7000 (RG.go fun Q hQ => ?_)
      simp only [RX, eff, ev_t, lk_cons, lkE_cons, setS_cons, setS_nil, AOp.isCall, setD, setEs, presOf, AOp.needs, SV.one?, SV.pre, idsOf, AOp.rds, AOp.ops, SV.ids, C.ids0, Option.getD_some, List.getElem?_cons_zero, List.map_nil, List.nil_append, List.cons_append, and_true, true_and, and_self, Bool.false_eq_true, Nat.reduceAdd, Nat.reduceEqDiff, Nat.reduceLT, ↓reduceIte, List.append_nil, C_default, hr]
      refine ⟨⟨by omega, by simp; omega⟩, by simp; omega, hQ _ _ _ _ _ ?_⟩
      refine RG.callo [] [] (pack_New_con (v.map brow) (drows_brow _) (brow_len _) (by simp; omega)) (.mk (tr_cons tr_sl tr_nil) (trivial) (by simp) (by simp) (trivial) (by simp [lkE_cons, lkE_nil]) (by simp [Ent.pure]) (by simp) (by simp)) ?_
      refine RG.go fun Q hQ => ?_
      simp only [RX, eff, ev_t, lk_cons, lkE_cons, lkE_nil, setS_cons, setS_nil, setE_cons, setE_nil, AOp.isCall, setD, setEs, presOf, AOp.needs, SV.one?, SV.pre, SV.cells, idsOf, AOp.rds, AOp.ops, SV.ids, C.ids0, bldFold, splice, List.take_zero, List.drop_succ_cons, List.drop_zero, List.length_cons, List.length_nil, Option.map_some, List.map_cons, List.map_nil, List.nil_append, List.cons_append, and_true, true_and, and_self, Bool.false_eq_true, Nat.reduceAdd, Nat.reduceEqDiff, Nat.reduceLeDiff, Nat.reduceLT, ↓reduceIte, Nat.zero_add, renSV, renSV1, renC, renC0, rn, renEnt, backUps, List.zip_nil_left, List.zipIdx_cons, List.zipIdx_nil, List.filterMap_nil, List.append_nil, List.getElem?_nil, Nat.sub_self, Nat.sub_zero, Nat.add_zero, C_default]
      simp only [hr, List.getElem?_cons_zero, Option.getD_some]
      refine ⟨⟨by omega, by simp; omega⟩, by simp; omega, ?_⟩
      refine hQ _ _ _ _ _ (RG.nil ⟨by decide, ?_⟩)
      simp only [x_seq, x_tn]
      refine aw_reg 7300 (RG.go fun Q hQ => ?_)
      simp only [RX, eff, ev_t, lk_cons, setS_cons, setS_nil, AOp.isCall, setD, setEs, presOf, AOp.needs, idsOf, AOp.rds, List.map_nil, List.nil_append, true_and, Bool.false_eq_true, Nat.reduceAdd, Nat.reduceEqDiff, ↓reduceIte]
      refine hQ _ _ _ _ _ ?_
      refine RG.callo [7064] [] (cG) (.mk (tr_cons (tr_bp rfl) tr_nil) (by simp only [Int.cast_ofNat_Int, TrL, TrC, TrC0, TrEnt, lkE_cons, Nat.reduceEqDiff, ↓reduceIte, and_self, exists_eq_left', Option.some.injEq, isDRows]) (by simp) (by simp) (trivial) (by simp [lkE_cons, lkE_nil]) (by simp [Ent.pure]) (by simp) (by simp)) ?_
      refine RG.go fun Q hQ => ?_
      simp only [RX, eff, ev_t, lk_cons, lkE_cons, lkE_nil, setS_cons, setS_nil, setE_cons, setE_nil, AOp.isCall, setD, setEs, presOf, AOp.needs, SV.one?, SV.pre, SV.core, SV.cells, idsOf, AOp.rds, AOp.ops, SV.ids, C.ids0, splice, List.take_zero, List.drop_succ_cons, List.drop_zero, List.length_cons, List.length_nil, List.getElem?_cons_zero, List.getElem?_cons_succ, Option.map_some, List.map_cons, List.map_nil, List.nil_append, List.cons_append, true_and, and_self, Bool.false_eq_true, Nat.reduceAdd, Nat.reduceEqDiff, ↓reduceIte, Nat.zero_add, Nat.le_refl, renSV, renSV1, renC, renC0, renEnt, backUps, List.zip_nil_right, List.zip_cons_cons, List.zipIdx_nil, List.filterMap_nil, List.append_nil, List.range_zero, Nat.sub_self]
      refine hQ _ _ _ _ _ (RG.nil ?_)
      simp only [x_seq, x_tn]
      refine aw_reg 7600 (RG.go fun Q hQ => ?_)
      simp only [RX, eff, ev_t, lk_cons, setS_cons, setS_nil, AOp.isCall, setD, setEs, presOf, AOp.needs, idsOf, AOp.rds, List.map_nil, List.nil_append, true_and, Bool.false_eq_true, Nat.reduceAdd, Nat.reduceEqDiff, ↓reduceIte]
      refine hQ _ _ _ _ _ ?_
      refine RG.callo [7160] [] (cH) (.mk (tr_cons (tr_bp rfl) tr_nil) (by simp only [Int.cast_ofNat_Int, TrL, TrC, TrC0, TrEnt, lkE_cons, Nat.reduceEqDiff, ↓reduceIte, and_self, exists_eq_left', Option.some.injEq, isDRows]) (by simp) (by simp) (trivial) (by simp [lkE_cons, lkE_nil]) (by simp [Ent.pure]) (by simp) (by simp)) ?_
      refine RG.go fun Q hQ => ?_
      simp only [RX, eff, ev_t, lk_cons, lkE_cons, lkE_nil, setS_cons, setS_nil, setE_cons, setE_nil, AOp.isCall, setD, setEs, presOf, AOp.needs, SV.one?, SV.pre, SV.core, SV.cells, idsOf, AOp.rds, AOp.ops, SV.ids, C.ids0, splice, List.take_zero, List.drop_succ_cons, List.drop_zero, List.length_cons, List.length_nil, List.getElem?_cons_zero, List.getElem?_cons_succ, Option.map_some, List.map_cons, List.map_nil, List.nil_append, List.cons_append, true_and, and_self, Bool.false_eq_true, Nat.reduceAdd, Nat.reduceEqDiff, ↓reduceIte, Nat.zero_add, Nat.le_refl, renSV, renSV1, renC, renC0, renEnt, backUps, List.zip_nil_right, List.zip_cons_cons, List.zipIdx_nil, List.filterMap_nil, List.append_nil, List.range_zero, Nat.sub_self]
      refine hQ _ _ _ _ _ (RG.nil ?_)
      simp only [x_seq, x_tn]
      refine aw_draw 7900 (RG.go fun Q hQ => ?_)
      simp only [RX, eff, ev_t, lk_cons, lkE_cons, setS_cons, setS_nil, AOp.isCall, setD, setEs, presOf, AOp.needs, SV.one?, SV.pre, gval, binV, idsOf, AOp.rds, AOp.ops, SV.ids, C.ids0, List.take_succ_cons, List.take_zero, List.drop_zero, List.length_cons, List.length_nil, Option.map_some, List.map_nil, List.nil_append, List.cons_append, true_and, and_self, Bool.and_true, Bool.false_eq_true, Bool.not_true, implies_true, Nat.reduceAdd, Nat.reduceEqDiff, ↓reduceIte, Nat.zero_add, Nat.le_refl, BEq.rfl, List.append_nil]
      refine hQ _ _ _ _ _ ?_
      refine RG.callg _ _ [] rfl (fun hg => ⟨_, cT, tr_cons (tr_opt (by simpa using hg) (tr_agg ⟨rfl, rfl, rfl, rfl, trivial⟩)) (tr_cons (tr_opt (by simpa using hg) (tr_agg ⟨rfl, rfl, rfl, rfl, trivial⟩)) tr_nil), trivial, .inl trivial⟩) ?_
      refine RG.go fun Q hQ => ?_
      simp only [RX, eff, ev_t, ev_k, lk_cons, setS_cons, setS_nil, AOp.isCall, setD, setEs, presOf, AOp.needs, SV.one?, SV.pre, gval, unV, idsOf, AOp.rds, AOp.ops, SV.ids, C.ids0, Option.map_some, List.map_nil, List.nil_append, List.cons_append, and_true, true_and, and_self, Bool.and_true, Bool.and_false, Bool.false_eq_true, beq_true, Bool.not_true, implies_true, imp_self, Nat.reduceAdd, Nat.reduceEqDiff, ↓reduceIte, BEq.rfl, List.append_nil, Nat.add_zero]
      refine hQ _ _ _ _ _ ?_
      refine RG.callg (res := B false) _ _ [] rfl (fun hg => absurd hg (by simp)) ?_
      refine RG.go fun Q hQ => ?_
      simp only [RX, eff, ev_t, ev_k, lk_cons, lkE_cons, setS_cons, setS_nil, AOp.isCall, setD, setEs, presOf, AOp.needs, SV.one?, SV.pre, gval, binV, idsOf, AOp.rds, AOp.ops, SV.ids, C.ids0, rowsOf, List.getElem?_cons_zero, Option.map_some, Option.map_none, List.map_nil, List.nil_append, List.cons_append, and_true, true_and, and_self, Bool.and_true, Bool.and_false, Bool.false_eq_true, beq_true, implies_true, imp_self, Nat.reduceAdd, Nat.reduceEqDiff, ↓reduceIte, Option.bind_some, BEq.rfl, List.append_nil, Nat.add_zero]
      refine hQ _ _ _ _ _ (RG.nil ⟨by decide, ?_⟩)
      simp only [x_tn]
      refine aw_cond _ rfl trivial (fun ht => by cases ht) (fun hf => ?_)
      simp only [x_skip, x_tn, x_bn]
      refine aw_reg 9000 (RG.go fun Q hQ => ?_)
      simp only [RX, eff, ev_t, ev_k, lk_cons, setS_cons, setS_nil, AOp.isCall, setD, setEs, presOf, AOp.needs, SV.one?, SV.pre, binV, idsOf, AOp.rds, AOp.ops, SV.ids, C.ids0, Option.map_some, List.map_nil, List.nil_append, true_and, and_self, Bool.false_eq_true, Nat.reduceAdd, Nat.reduceEqDiff, ↓reduceIte, List.append_nil, hw1]
      refine hQ _ _ _ _ _ (RG.nil ?_)
      simp only [x_ln]
      refine ⟨⟨j + 1, hj'⟩, ?_, by simp; omega⟩
      refine Le.lit [] [] _ _ ?_ ?_ ?_ ?_
      · skip
        simp only [allL, lk_cons, lkE_cons, lkE_nil, WkSV, WkSV1, WkC, WkC0, rlook, frzEs, Nat.reduceEqDiff, ↓reduceIte, reduceCtorEq, and_true, ne_eq, not_false_eq_true]
      · skip
        simp only [allL, lkE_cons, lkE_nil, WkEnt, rlook, frzEs, isDRows, Option.some.injEq, ↓reduceIte, reduceCtorEq, true_and, and_true, exists_eq_left', ne_eq, true_or]
        exact prow_data _
      · simp
      · simp
    · skip
      have a7 := a6 rfl
      subst a7
      refine aw_draw 7000 (RG.go fun Q hQ => ?_)
      simp only [RX, eff, ev_t, lk_cons, lkE_cons, setS_cons, setS_nil, AOp.isCall, setD, setEs, presOf, AOp.needs, SV.one?, SV.pre, idsOf, AOp.rds, AOp.ops, SV.ids, C.ids0, Option.getD_some, List.getElem?_cons_zero, List.map_nil, List.nil_append, List.cons_append, and_true, true_and, and_self, Bool.false_eq_true, Nat.reduceAdd, Nat.reduceEqDiff, Nat.reduceLT, ↓reduceIte, List.append_nil, C_default, hr]
      refine ⟨⟨by omega, by simp; omega⟩, by simp; omega, hQ _ _ _ _ _ ?_⟩
      refine RG.callo [] [] (pack_New_con (v.map brow) (drows_brow _) (brow_len _) (by simp; omega)) (.mk (tr_cons tr_sl tr_nil) (trivial) (by simp) (by simp) (trivial) (by simp [lkE_cons, lkE_nil]) (by simp [Ent.pure]) (by simp) (by simp)) ?_
      refine RG.go fun Q hQ => ?_
      simp only [RX, eff, ev_t, lk_cons, lkE_cons, lkE_nil, setS_cons, setS_nil, setE_cons, setE_nil, AOp.isCall, setD, setEs, presOf, AOp.needs, SV.one?, SV.pre, SV.cells, idsOf, AOp.rds, AOp.ops, SV.ids, C.ids0, bldFold, splice, List.take_zero, List.drop_succ_cons, List.drop_zero, List.length_cons, List.length_nil, Option.map_some, List.map_cons, List.map_nil, List.nil_append, List.cons_append, and_true, true_and, and_self, Bool.false_eq_true, Nat.reduceAdd, Nat.reduceEqDiff, Nat.reduceLeDiff, Nat.reduceLT, ↓reduceIte, Nat.zero_add, renSV, renSV1, renC, renC0, rn, renEnt, backUps, List.zip_nil_left, List.zipIdx_cons, List.zipIdx_nil, List.filterMap_nil, List.append_nil, List.getElem?_nil, Nat.sub_self, Nat.sub_zero, Nat.add_zero, C_default]
      simp only [hr, List.getElem?_cons_zero, Option.getD_some]
      refine ⟨⟨by omega, by simp; omega⟩, by simp; omega, ?_⟩
      refine hQ _ _ _ _ _ (RG.nil ⟨by decide, ?_⟩)
      simp only [x_seq, x_tn]
      refine aw_reg 7300 (RG.go fun Q hQ => ?_)
      simp only [RX, eff, ev_t, lk_cons, setS_cons, setS_nil, AOp.isCall, setD, setEs, presOf, AOp.needs, idsOf, AOp.rds, List.map_nil, List.nil_append, true_and, Bool.false_eq_true, Nat.reduceAdd, Nat.reduceEqDiff, ↓reduceIte]
      refine hQ _ _ _ _ _ ?_
      refine RG.callo [7064] [] (cG) (.mk (tr_cons (tr_bp rfl) tr_nil) (by simp only [Int.cast_ofNat_Int, TrL, TrC, TrC0, TrEnt, lkE_cons, Nat.reduceEqDiff, ↓reduceIte, and_self, exists_eq_left', Option.some.injEq, isDRows]) (by simp) (by simp) (trivial) (by simp [lkE_cons, lkE_nil]) (by simp [Ent.pure]) (by simp) (by simp)) ?_
      refine RG.go fun Q hQ => ?_
      simp only [RX, eff, ev_t, lk_cons, lkE_cons, lkE_nil, setS_cons, setS_nil, setE_cons, setE_nil, AOp.isCall, setD, setEs, presOf, AOp.needs, SV.one?, SV.pre, SV.core, SV.cells, idsOf, AOp.rds, AOp.ops, SV.ids, C.ids0, splice, List.take_zero, List.drop_succ_cons, List.drop_zero, List.length_cons, List.length_nil, List.getElem?_cons_zero, List.getElem?_cons_succ, Option.map_some, List.map_cons, List.map_nil, List.nil_append, List.cons_append, true_and, and_self, Bool.false_eq_true, Nat.reduceAdd, Nat.reduceEqDiff, ↓reduceIte, Nat.zero_add, Nat.le_refl, renSV, renSV1, renC, renC0, renEnt, backUps, List.zip_nil_right, List.zip_cons_cons, List.zipIdx_nil, List.filterMap_nil, List.append_nil, List.range_zero, Nat.sub_self]
      refine hQ _ _ _ _ _ (RG.nil ?_)
      simp only [x_seq, x_tn]
      refine aw_reg 7600 (RG.go fun Q hQ => ?_)
      simp only [RX, eff, ev_t, lk_cons, setS_cons, setS_nil, AOp.isCall, setD, setEs, presOf, AOp.needs, idsOf, AOp.rds, List.map_nil, List.nil_append, true_and, Bool.false_eq_true, Nat.reduceAdd, Nat.reduceEqDiff, ↓reduceIte]
      refine hQ _ _ _ _ _ ?_
      refine RG.callo [7160] [] (cH) (.mk (tr_cons (tr_bp rfl) tr_nil) (by simp only [Int.cast_ofNat_Int, TrL, TrC, TrC0, TrEnt, lkE_cons, Nat.reduceEqDiff, ↓reduceIte, and_self, exists_eq_left', Option.some.injEq, isDRows]) (by simp) (by simp) (trivial) (by simp [lkE_cons, lkE_nil]) (by simp [Ent.pure]) (by simp) (by simp)) ?_
      refine RG.go fun Q hQ => ?_
      simp only [RX, eff, ev_t, lk_cons, lkE_cons, lkE_nil, setS_cons, setS_nil, setE_cons, setE_nil, AOp.isCall, setD, setEs, presOf, AOp.needs, SV.one?, SV.pre, SV.core, SV.cells, idsOf, AOp.rds, AOp.ops, SV.ids, C.ids0, splice, List.take_zero, List.drop_succ_cons, List.drop_zero, List.length_cons, List.length_nil, List.getElem?_cons_zero, List.getElem?_cons_succ, Option.map_some, List.map_cons, List.map_nil, List.nil_append, List.cons_append, true_and, and_self, Bool.false_eq_true, Nat.reduceAdd, Nat.reduceEqDiff, ↓reduceIte, Nat.zero_add, Nat.le_refl, renSV, renSV1, renC, renC0, renEnt, backUps, List.zip_nil_right, List.zip_cons_cons, List.zipIdx_nil, List.filterMap_nil, List.append_nil, List.range_zero, Nat.sub_self]
      refine hQ _ _ _ _ _ (RG.nil ?_)
      simp only [x_seq, x_tn]
      refine aw_draw 7900 (RG.go fun Q hQ => ?_)
      simp only [RX, eff, ev_t, lk_cons, lkE_cons, setS_cons, setS_nil, AOp.isCall, setD, setEs, presOf, AOp.needs, SV.one?, SV.pre, gval, binV, idsOf, AOp.rds, AOp.ops, SV.ids, C.ids0, List.take_succ_cons, List.take_zero, List.drop_zero, List.length_cons, List.length_nil, Option.map_some, List.map_nil, List.nil_append, List.cons_append, true_and, and_self, Bool.and_true, Bool.false_eq_true, Bool.not_true, implies_true, Nat.reduceAdd, Nat.reduceEqDiff, ↓reduceIte, Nat.zero_add, Nat.le_refl, BEq.rfl, List.append_nil]
      refine hQ _ _ _ _ _ ?_
      refine RG.callg _ _ [] rfl (fun hg => ⟨_, cT, tr_cons (tr_opt (by simpa using hg) (tr_agg ⟨rfl, rfl, rfl, rfl, trivial⟩)) (tr_cons (tr_opt (by simpa using hg) (tr_agg ⟨rfl, rfl, rfl, rfl, trivial⟩)) tr_nil), trivial, .inl trivial⟩) ?_
      refine RG.go fun Q hQ => ?_
      simp only [RX, eff, ev_t, ev_k, lk_cons, setS_cons, setS_nil, AOp.isCall, setD, setEs, presOf, AOp.needs, SV.one?, SV.pre, gval, unV, idsOf, AOp.rds, AOp.ops, SV.ids, C.ids0, Option.map_some, List.map_nil, List.nil_append, List.cons_append, true_and, and_self, Bool.and_true, Bool.false_eq_true, Bool.not_true, implies_true, Nat.reduceAdd, Nat.reduceEqDiff, ↓reduceIte, BEq.rfl, List.append_nil, Nat.add_zero]
      refine hQ _ _ _ _ _ ?_
      refine RG.callgo true true [7064] [] rfl rfl (pack_rest_Left_con (sl'.map brow) se') (.mk (tr_cons (tr_opt rfl (tr_bp rfl)) tr_nil) (by simp only [TrL, TrC, TrC0, TrEnt, lkE_cons, Nat.reduceEqDiff, ↓reduceIte, and_self, exists_eq_left', Option.some.injEq, isDRows]) (by simp) (by simp) trivial (by simp [lkE_cons, lkE_nil]) (by simp [Ent.pure]) (by simp) (by simp)) ?_
      refine RG.go fun Q hQ => ?_
      simp only [RX, eff, ev_t, ev_k, lk_cons, lkE_cons, lkE_nil, setS_cons, setS_nil, setE_cons, AOp.isCall, setD, setEs, presOf, AOp.needs, SV.one?, SV.pre, gval, binV, idsOf, AOp.rds, AOp.ops, SV.ids, C.ids0, rowsOf, List.drop_succ_cons, List.drop_zero, List.length_cons, List.length_nil, List.getElem?_cons_zero, Option.map_some, List.map_cons, List.map_nil, List.nil_append, List.cons_append, true_and, and_self, Bool.and_true, Bool.false_eq_true, implies_true, reduceCtorEq, Nat.reduceAdd, Nat.reduceEqDiff, ↓reduceIte, Option.bind_some, Nat.zero_add, BEq.rfl, renSV, renSV1, renC, renC0, renEnt, backUps, List.zip_nil_right, List.zip_cons_cons, List.zipIdx_nil, List.filterMap_nil, List.append_nil, List.range_zero, Nat.sub_self, Nat.add_zero]
      refine hQ _ _ _ _ _ (RG.nil ⟨by decide, ?_⟩)
      simp only [x_tn]
      refine aw_cond _ rfl trivial (fun ht => absurd ht (by simp)) (fun hf => ?_)
      simp only [x_skip, x_tn, x_bn]
      refine aw_reg 9000 (RG.go fun Q hQ => ?_)
      simp only [RX, eff, ev_t, ev_k, lk_cons, setS_cons, setS_nil, AOp.isCall, setD, setEs, presOf, AOp.needs, SV.one?, SV.pre, binV, idsOf, AOp.rds, AOp.ops, SV.ids, C.ids0, Option.map_some, List.map_nil, List.nil_append, true_and, and_self, Bool.false_eq_true, Nat.reduceAdd, Nat.reduceEqDiff, ↓reduceIte, List.append_nil, hw1]
      refine hQ _ _ _ _ _ (RG.nil ?_)
      simp only [x_ln]
      refine ⟨⟨j + 1, hj'⟩, ?_, by simp; omega⟩
      refine Le.lit [] [] _ _ ?_ ?_ ?_ ?_
      · skip
        simp only [allL, lk_cons, lkE_cons, lkE_nil, WkSV, WkSV1, WkC, WkC0, rlook, frzEs, Nat.reduceEqDiff, ↓reduceIte, reduceCtorEq, and_true, ne_eq, not_false_eq_true]
      · skip
        simp only [allL, lkE_cons, lkE_nil, WkEnt, rlook, frzEs, isDRows, Option.some.injEq, ↓reduceIte, reduceCtorEq, true_and, and_true, exists_eq_left', ne_eq, true_or]
        exact prow_data _
      · simp
      · simp
  · skip
    refine aw_draw 5300 (RG.go fun Q hQ => ?_)
    simp only [RX, eff, ev_t, lk_cons, lkE_cons, setS_cons, setS_nil, AOp.isCall, setD, setEs, presOf, AOp.needs, SV.one?, SV.pre, idsOf, AOp.rds, AOp.ops, SV.ids, C.ids0, Option.getD_some, List.getElem?_cons_zero, List.map_nil, List.nil_append, List.cons_append, and_true, true_and, and_self, Bool.false_eq_true, Nat.reduceAdd, Nat.reduceEqDiff, Nat.reduceLT, ↓reduceIte, List.append_nil, C_default, hr]
    refine ⟨⟨by omega, by simp; omega⟩, by simp; omega, hQ _ _ _ _ _ ?_⟩
    refine RG.callo [] [] (pack_New_con (v.map brow) (drows_brow _) (brow_len _) (by simp; omega)) (.mk (tr_cons tr_sl tr_nil) (trivial) (by simp) (by simp) (trivial) (by simp [lkE_cons, lkE_nil]) (by simp [Ent.pure]) (by simp) (by simp)) ?_
    refine RG.go fun Q hQ => ?_
    simp only [RX, eff, ev_t, lk_cons, lkE_cons, lkE_nil, setS_cons, setS_nil, setE_cons, setE_nil, AOp.isCall, setD, setEs, presOf, AOp.needs, SV.one?, SV.pre, SV.cells, idsOf, AOp.rds, AOp.ops, SV.ids, C.ids0, bldFold, splice, List.take_zero, List.drop_succ_cons, List.drop_zero, List.length_cons, List.length_nil, Option.map_some, List.map_cons, List.map_nil, List.nil_append, List.cons_append, and_true, true_and, and_self, Bool.false_eq_true, Nat.reduceAdd, Nat.reduceEqDiff, Nat.reduceLeDiff, Nat.reduceLT, ↓reduceIte, Nat.zero_add, renSV, renSV1, renC, renC0, rn, renEnt, backUps, List.zip_nil_left, List.zipIdx_cons, List.zipIdx_nil, List.filterMap_nil, List.append_nil, List.getElem?_nil, Nat.sub_self, Nat.sub_zero, Nat.add_zero, C_default]
    simp only [hr, List.getElem?_cons_zero, Option.getD_some]
    refine ⟨⟨by omega, by simp; omega⟩, by simp; omega, ?_⟩
    refine hQ _ _ _ _ _ (RG.nil ⟨by decide, ?_⟩)
    simp only [x_seq, x_tn]
    refine aw_reg 5600 (RG.go fun Q hQ => ?_)
    simp only [RX, eff, ev_t, lk_cons, setS_cons, setS_nil, AOp.isCall, setD, setEs, presOf, AOp.needs, idsOf, AOp.rds, List.map_nil, List.nil_append, true_and, Bool.false_eq_true, Nat.reduceAdd, Nat.reduceEqDiff, ↓reduceIte]
    refine hQ _ _ _ _ _ ?_
    refine RG.callo [5364] [] (cE) (.mk (tr_cons (tr_bp rfl) tr_nil) (by simp only [Int.cast_ofNat_Int, TrL, TrC, TrC0, TrEnt, lkE_cons, Nat.reduceEqDiff, ↓reduceIte, and_self, exists_eq_left', Option.some.injEq, isDRows]) (by simp) (by simp) (trivial) (by simp [lkE_cons, lkE_nil]) (by simp [Ent.pure]) (by simp) (by simp)) ?_
    refine RG.go fun Q hQ => ?_
    simp only [RX, eff, ev_t, lk_cons, lkE_cons, lkE_nil, setS_cons, setS_nil, setE_cons, setE_nil, AOp.isCall, setD, setEs, presOf, AOp.needs, SV.one?, SV.pre, SV.core, SV.cells, idsOf, AOp.rds, AOp.ops, SV.ids, C.ids0, splice, List.take_zero, List.drop_succ_cons, List.drop_zero, List.length_cons, List.length_nil, List.getElem?_cons_zero, List.getElem?_cons_succ, Option.map_some, List.map_cons, List.map_nil, List.nil_append, List.cons_append, true_and, and_self, Bool.false_eq_true, Nat.reduceAdd, Nat.reduceEqDiff, ↓reduceIte, Nat.zero_add, Nat.le_refl, renSV, renSV1, renC, renC0, renEnt, backUps, List.zip_nil_right, List.zip_cons_cons, List.zipIdx_nil, List.filterMap_nil, List.append_nil, List.range_zero, Nat.sub_self]
    refine hQ _ _ _ _ _ (RG.nil ?_)
    simp only [x_seq, x_tn]
    refine aw_reg 5900 (RG.go fun Q hQ => ?_)
    simp only [RX, eff, ev_t, lk_cons, setS_cons, setS_nil, AOp.isCall, setD, setEs, presOf, AOp.needs, idsOf, AOp.rds, List.map_nil, List.nil_append, true_and, Bool.false_eq_true, Nat.reduceAdd, Nat.reduceEqDiff, ↓reduceIte]
    refine hQ _ _ _ _ _ ?_
    refine RG.callo [5460] [] (cF) (.mk (tr_cons (tr_bp rfl) tr_nil) (by simp only [Int.cast_ofNat_Int, TrL, TrC, TrC0, TrEnt, lkE_cons, Nat.reduceEqDiff, ↓reduceIte, and_self, exists_eq_left', Option.some.injEq, isDRows]) (by simp) (by simp) (trivial) (by simp [lkE_cons, lkE_nil]) (by simp [Ent.pure]) (by simp) (by simp)) ?_
    refine RG.go fun Q hQ => ?_
    simp only [RX, eff, ev_t, lk_cons, lkE_cons, lkE_nil, setS_cons, setS_nil, setE_cons, setE_nil, AOp.isCall, setD, setEs, presOf, AOp.needs, SV.one?, SV.pre, SV.core, SV.cells, idsOf, AOp.rds, AOp.ops, SV.ids, C.ids0, splice, List.take_zero, List.drop_succ_cons, List.drop_zero, List.length_cons, List.length_nil, List.getElem?_cons_zero, List.getElem?_cons_succ, Option.map_some, List.map_cons, List.map_nil, List.nil_append, List.cons_append, true_and, and_self, Bool.false_eq_true, Nat.reduceAdd, Nat.reduceEqDiff, ↓reduceIte, Nat.zero_add, Nat.le_refl, renSV, renSV1, renC, renC0, renEnt, backUps, List.zip_nil_right, List.zip_cons_cons, List.zipIdx_nil, List.filterMap_nil, List.append_nil, List.range_zero, Nat.sub_self]
    refine hQ _ _ _ _ _ (RG.nil ?_)
    simp only [x_seq, x_tn]
    refine aw_draw 6200 (RG.go fun Q hQ => ?_)
    simp only [RX, eff, ev_t, lk_cons, lkE_cons, setS_cons, setS_nil, AOp.isCall, setD, setEs, presOf, AOp.needs, SV.one?, SV.pre, gval, binV, idsOf, AOp.rds, AOp.ops, SV.ids, C.ids0, List.take_succ_cons, List.take_zero, List.drop_zero, List.length_cons, List.length_nil, Option.map_some, List.map_nil, List.nil_append, List.cons_append, true_and, and_self, Bool.and_true, Bool.false_eq_true, Bool.not_true, implies_true, Nat.reduceAdd, Nat.reduceEqDiff, ↓reduceIte, Nat.zero_add, Nat.le_refl, BEq.rfl, List.append_nil]
    refine hQ _ _ _ _ _ ?_
    refine RG.callg _ _ [] rfl (fun hg => ⟨_, cS, tr_cons (tr_opt (by simpa using hg) (tr_agg ⟨rfl, rfl, rfl, rfl, trivial⟩)) (tr_cons (tr_opt (by simpa using hg) (tr_agg ⟨rfl, rfl, rfl, rfl, trivial⟩)) tr_nil), trivial, .inl trivial⟩) ?_
    refine RG.go fun Q hQ => ?_
    simp only [RX, eff, ev_t, ev_k, lk_cons, setS_cons, setS_nil, AOp.isCall, setD, setEs, presOf, AOp.needs, SV.one?, SV.pre, gval, unV, idsOf, AOp.rds, AOp.ops, SV.ids, C.ids0, Option.map_some, List.map_nil, List.nil_append, List.cons_append, true_and, and_self, Bool.and_true, Bool.false_eq_true, Bool.not_true, implies_true, Nat.reduceAdd, Nat.reduceEqDiff, ↓reduceIte, BEq.rfl, List.append_nil, Nat.add_zero]
    refine hQ _ _ _ _ _ ?_
    refine RG.callgo true true [5364] [] rfl rfl (pack_rest_Left_con (rl.map brow) re) (.mk (tr_cons (tr_opt rfl (tr_bp rfl)) tr_nil) (by simp only [TrL, TrC, TrC0, TrEnt, lkE_cons, Nat.reduceEqDiff, ↓reduceIte, and_self, exists_eq_left', Option.some.injEq, isDRows]) (by simp) (by simp) trivial (by simp [lkE_cons, lkE_nil]) (by simp [Ent.pure]) (by simp) (by simp)) ?_
    refine RG.go fun Q hQ => ?_
    simp only [RX, eff, ev_t, ev_k, lk_cons, lkE_cons, lkE_nil, setS_cons, setS_nil, setE_cons, AOp.isCall, setD, setEs, presOf, AOp.needs, SV.one?, SV.pre, gval, binV, idsOf, AOp.rds, AOp.ops, SV.ids, C.ids0, rowsOf, List.drop_succ_cons, List.drop_zero, List.length_cons, List.length_nil, List.getElem?_cons_zero, Option.map_some, List.map_cons, List.map_nil, List.nil_append, List.cons_append, true_and, and_self, Bool.and_true, Bool.false_eq_true, implies_true, reduceCtorEq, Nat.reduceAdd, Nat.reduceEqDiff, ↓reduceIte, Option.bind_some, Nat.zero_add, BEq.rfl, renSV, renSV1, renC, renC0, renEnt, backUps, List.zip_nil_right, List.zip_cons_cons, List.zipIdx_nil, List.filterMap_nil, List.append_nil, List.range_zero, Nat.sub_self, Nat.add_zero]
    refine hQ _ _ _ _ _ (RG.nil ⟨by decide, ?_⟩)
    simp only [x_tn]
    refine aw_cond _ rfl trivial (fun ht => absurd ht (by simp)) (fun hf => ?_)
    simp only [x_seq, x_skip, x_tn]
    cases sok
    · skip
      refine aw_draw 7000 (RG.go fun Q hQ => ?_)
      simp only [RX, eff, ev_t, lk_cons, lkE_cons, setS_cons, setS_nil, AOp.isCall, setD, setEs, presOf, AOp.needs, SV.one?, SV.pre, idsOf, AOp.rds, AOp.ops, SV.ids, C.ids0, Option.getD_some, List.getElem?_cons_zero, List.map_nil, List.nil_append, List.cons_append, and_true, true_and, and_self, Bool.false_eq_true, Nat.reduceAdd, Nat.reduceEqDiff, Nat.reduceLT, ↓reduceIte, List.append_nil, C_default, hr]
      refine ⟨⟨by omega, by simp; omega⟩, by simp; omega, hQ _ _ _ _ _ ?_⟩
      refine RG.callo [] [] (pack_New_con (v.map brow) (drows_brow _) (brow_len _) (by simp; omega)) (.mk (tr_cons tr_sl tr_nil) (trivial) (by simp) (by simp) (trivial) (by simp [lkE_cons, lkE_nil]) (by simp [Ent.pure]) (by simp) (by simp)) ?_
      refine RG.go fun Q hQ => ?_
      simp only [RX, eff, ev_t, lk_cons, lkE_cons, lkE_nil, setS_cons, setS_nil, setE_cons, setE_nil, AOp.isCall, setD, setEs, presOf, AOp.needs, SV.one?, SV.pre, SV.cells, idsOf, AOp.rds, AOp.ops, SV.ids, C.ids0, bldFold, splice, List.take_zero, List.drop_succ_cons, List.drop_zero, List.length_cons, List.length_nil, Option.map_some, List.map_cons, List.map_nil, List.nil_append, List.cons_append, and_true, true_and, and_self, Bool.false_eq_true, Nat.reduceAdd, Nat.reduceEqDiff, Nat.reduceLeDiff, Nat.reduceLT, ↓reduceIte, Nat.zero_add, renSV, renSV1, renC, renC0, rn, renEnt, backUps, List.zip_nil_left, List.zipIdx_cons, List.zipIdx_nil, List.filterMap_nil, List.append_nil, List.getElem?_nil, Nat.sub_self, Nat.sub_zero, Nat.add_zero, C_default]
      simp only [hr, List.getElem?_cons_zero, Option.getD_some]
      refine ⟨⟨by omega, by simp; omega⟩, by simp; omega, ?_⟩
      refine hQ _ _ _ _ _ (RG.nil ⟨by decide, ?_⟩)
      simp only [x_seq, x_tn]
      refine aw_reg 7300 (RG.go fun Q hQ => ?_)
      simp only [RX, eff, ev_t, lk_cons, setS_cons, setS_nil, AOp.isCall, setD, setEs, presOf, AOp.needs, idsOf, AOp.rds, List.map_nil, List.nil_append, true_and, Bool.false_eq_true, Nat.reduceAdd, Nat.reduceEqDiff, ↓reduceIte]
      refine hQ _ _ _ _ _ ?_
      refine RG.callo [7064] [] (cG) (.mk (tr_cons (tr_bp rfl) tr_nil) (by simp only [Int.cast_ofNat_Int, TrL, TrC, TrC0, TrEnt, lkE_cons, Nat.reduceEqDiff, ↓reduceIte, and_self, exists_eq_left', Option.some.injEq, isDRows]) (by simp) (by simp) (trivial) (by simp [lkE_cons, lkE_nil]) (by simp [Ent.pure]) (by simp) (by simp)) ?_
      refine RG.go fun Q hQ => ?_
      simp only [RX, eff, ev_t, lk_cons, lkE_cons, lkE_nil, setS_cons, setS_nil, setE_cons, setE_nil, AOp.isCall, setD, setEs, presOf, AOp.needs, SV.one?, SV.pre, SV.core, SV.cells, idsOf, AOp.rds, AOp.ops, SV.ids, C.ids0, splice, List.take_zero, List.drop_succ_cons, List.drop_zero, List.length_cons, List.length_nil, List.getElem?_cons_zero, List.getElem?_cons_succ, Option.map_some, List.map_cons, List.map_nil, List.nil_append, List.cons_append, true_and, and_self, Bool.false_eq_true, Nat.reduceAdd, Nat.reduceEqDiff, ↓reduceIte, Nat.zero_add, Nat.le_refl, renSV, renSV1, renC, renC0, renEnt, backUps, List.zip_nil_right, List.zip_cons_cons, List.zipIdx_nil, List.filterMap_nil, List.append_nil, List.range_zero, Nat.sub_self]
      refine hQ _ _ _ _ _ (RG.nil ?_)
      simp only [x_seq, x_tn]
      refine aw_reg 7600 (RG.go fun Q hQ => ?_)
      simp only [RX, eff, ev_t, lk_cons, setS_cons, setS_nil, AOp.isCall, setD, setEs, presOf, AOp.needs, idsOf, AOp.rds, List.map_nil, List.nil_append, true_and, Bool.false_eq_true, Nat.reduceAdd, Nat.reduceEqDiff, ↓reduceIte]
      refine hQ _ _ _ _ _ ?_
      refine RG.callo [7160] [] (cH) (.mk (tr_cons (tr_bp rfl) tr_nil) (by simp only [Int.cast_ofNat_Int, TrL, TrC, TrC0, TrEnt, lkE_cons, Nat.reduceEqDiff, ↓reduceIte, and_self, exists_eq_left', Option.some.injEq, isDRows]) (by simp) (by simp) (trivial) (by simp [lkE_cons, lkE_nil]) (by simp [Ent.pure]) (by simp) (by simp)) ?_
      refine RG.go fun Q hQ => ?_
      simp only [RX, eff, ev_t, lk_cons, lkE_cons, lkE_nil, setS_cons, setS_nil, setE_cons, setE_nil, AOp.isCall, setD, setEs, presOf, AOp.needs, SV.one?, SV.pre, SV.core, SV.cells, idsOf, AOp.rds, AOp.ops, SV.ids, C.ids0, splice, List.take_zero, List.drop_succ_cons, List.drop_zero, List.length_cons, List.length_nil, List.getElem?_cons_zero, List.getElem?_cons_succ, Option.map_some, List.map_cons, List.map_nil, List.nil_append, List.cons_append, true_and, and_self, Bool.false_eq_true, Nat.reduceAdd, Nat.reduceEqDiff, ↓reduceIte, Nat.zero_add, Nat.le_refl, renSV, renSV1, renC, renC0, renEnt, backUps, List.zip_nil_right, List.zip_cons_cons, List.zipIdx_nil, List.filterMap_nil, List.append_nil, List.range_zero, Nat.sub_self]
      refine hQ _ _ _ _ _ (RG.nil ?_)
      simp only [x_seq, x_tn]
      refine aw_draw 7900 (RG.go fun Q hQ => ?_)
      simp only [RX, eff, ev_t, lk_cons, lkE_cons, setS_cons, setS_nil, AOp.isCall, setD, setEs, presOf, AOp.needs, SV.one?, SV.pre, gval, binV, idsOf, AOp.rds, AOp.ops, SV.ids, C.ids0, List.take_succ_cons, List.take_zero, List.drop_zero, List.length_cons, List.length_nil, Option.map_some, List.map_nil, List.nil_append, List.cons_append, true_and, and_self, Bool.and_true, Bool.false_eq_true, Bool.not_true, implies_true, Nat.reduceAdd, Nat.reduceEqDiff, ↓reduceIte, Nat.zero_add, Nat.le_refl, BEq.rfl, List.append_nil]
      refine hQ _ _ _ _ _ ?_
      refine RG.callg _ _ [] rfl (fun hg => ⟨_, cT, tr_cons (tr_opt (by simpa using hg) (tr_agg ⟨rfl, rfl, rfl, rfl, trivial⟩)) (tr_cons (tr_opt (by simpa using hg) (tr_agg ⟨rfl, rfl, rfl, rfl, trivial⟩)) tr_nil), trivial, .inl trivial⟩) ?_
      refine RG.go fun Q hQ => ?_
      simp only [RX, eff, ev_t, ev_k, lk_cons, setS_cons, setS_nil, AOp.isCall, setD, setEs, presOf, AOp.needs, SV.one?, SV.pre, gval, unV, idsOf, AOp.rds, AOp.ops, SV.ids, C.ids0, Option.map_some, List.map_nil, List.nil_append, List.cons_append, and_true, true_and, and_self, Bool.and_true, Bool.and_false, Bool.false_eq_true, beq_true, Bool.not_true, implies_true, imp_self, Nat.reduceAdd, Nat.reduceEqDiff, ↓reduceIte, BEq.rfl, List.append_nil, Nat.add_zero]
      refine hQ _ _ _ _ _ ?_
      refine RG.callg (res := B false) _ _ [] rfl (fun hg => absurd hg (by simp)) ?_
      refine RG.go fun Q hQ => ?_
      simp only [RX, eff, ev_t, ev_k, lk_cons, lkE_cons, setS_cons, setS_nil, AOp.isCall, setD, setEs, presOf, AOp.needs, SV.one?, SV.pre, gval, binV, idsOf, AOp.rds, AOp.ops, SV.ids, C.ids0, rowsOf, List.getElem?_cons_zero, Option.map_some, Option.map_none, List.map_nil, List.nil_append, List.cons_append, and_true, true_and, and_self, Bool.and_true, Bool.and_false, Bool.false_eq_true, beq_true, implies_true, imp_self, Nat.reduceAdd, Nat.reduceEqDiff, ↓reduceIte, Option.bind_some, BEq.rfl, List.append_nil, Nat.add_zero]
      refine hQ _ _ _ _ _ (RG.nil ⟨by decide, ?_⟩)
      simp only [x_tn]
      refine aw_cond _ rfl trivial (fun ht => by cases ht) (fun hf => ?_)
      simp only [x_skip, x_tn, x_bn]
      refine aw_reg 9000 (RG.go fun Q hQ => ?_)
      simp only [RX, eff, ev_t, ev_k, lk_cons, setS_cons, setS_nil, AOp.isCall, setD, setEs, presOf, AOp.needs, SV.one?, SV.pre, binV, idsOf, AOp.rds, AOp.ops, SV.ids, C.ids0, Option.map_some, List.map_nil, List.nil_append, true_and, and_self, Bool.false_eq_true, Nat.reduceAdd, Nat.reduceEqDiff, ↓reduceIte, List.append_nil, hw1]
      refine hQ _ _ _ _ _ (RG.nil ?_)
      simp only [x_ln]
      refine ⟨⟨j + 1, hj'⟩, ?_, by simp; omega⟩
      refine Le.lit [] [] _ _ ?_ ?_ ?_ ?_
      · skip
        simp only [allL, lk_cons, lkE_cons, lkE_nil, WkSV, WkSV1, WkC, WkC0, rlook, frzEs, Nat.reduceEqDiff, ↓reduceIte, reduceCtorEq, and_true, ne_eq, not_false_eq_true]
      · skip
        simp only [allL, lkE_cons, lkE_nil, WkEnt, rlook, frzEs, isDRows, Option.some.injEq, ↓reduceIte, reduceCtorEq, true_and, and_true, exists_eq_left', ne_eq, true_or]
        exact prow_data _
      · simp
      · simp
    · skip
      have a7 := a6 rfl
      subst a7
      refine aw_draw 7000 (RG.go fun Q hQ => ?_)
      simp only [RX, eff, ev_t, lk_cons, lkE_cons, setS_cons, setS_nil, AOp.isCall, setD, setEs, presOf, AOp.needs, SV.one?, SV.pre, idsOf, AOp.rds, AOp.ops, SV.ids, C.ids0, Option.getD_some, List.getElem?_cons_zero, List.map_nil, List.nil_append, List.cons_append, and_true, true_and, and_self, Bool.false_eq_true, Nat.reduceAdd, Nat.reduceEqDiff, Nat.reduceLT, ↓reduceIte, List.append_nil, C_default, hr]
      refine ⟨⟨by omega, by simp; omega⟩, by simp; omega, hQ _ _ _ _ _ ?_⟩
      refine RG.callo [] [] (pack_New_con (v.map brow) (drows_brow _) (brow_len _) (by simp; omega)) (.mk (tr_cons tr_sl tr_nil) (trivial) (by simp) (by simp) (trivial) (by simp [lkE_cons, lkE_nil]) (by simp [Ent.pure]) (by simp) (by simp)) ?_
      refine RG.go fun Q hQ => ?_
      simp only [RX, eff, ev_t, lk_cons, lkE_cons, lkE_nil, setS_cons, setS_nil, setE_cons, setE_nil, AOp.isCall, setD, setEs, presOf, AOp.needs, SV.one?, SV.pre, SV.cells, idsOf, AOp.rds, AOp.ops, SV.ids, C.ids0, bldFold, splice, List.take_zero, List.drop_succ_cons, List.drop_zero, List.length_cons, List.length_nil, Option.map_some, List.map_cons, List.map_nil, List.nil_append, List.cons_append, and_true, true_and, and_self, Bool.false_eq_true, Nat.reduceAdd, Nat.reduceEqDiff, Nat.reduceLeDiff, Nat.reduceLT, ↓reduceIte, Nat.zero_add, renSV, renSV1, renC, renC0, rn, renEnt, backUps, List.zip_nil_left, List.zipIdx_cons, List.zipIdx_nil, List.filterMap_nil, List.append_nil, List.getElem?_nil, Nat.sub_self, Nat.sub_zero, Nat.add_zero, C_default]
      simp only [hr, List.getElem?_cons_zero, Option.getD_some]
      refine ⟨⟨by omega, by simp; omega⟩, by simp; omega, ?_⟩
      refine hQ _ _ _ _ _ (RG.nil ⟨by decide, ?_⟩)
      simp only [x_seq, x_tn]
      refine aw_reg 7300 (RG.go fun Q hQ => ?_)
      simp only [RX, eff, ev_t, lk_cons, setS_cons, setS_nil, AOp.isCall, setD, setEs, presOf, AOp.needs, idsOf, AOp.rds, List.map_nil, List.nil_append, true_and, Bool.false_eq_true, Nat.reduceAdd, Nat.reduceEqDiff, ↓reduceIte]
      refine hQ _ _ _ _ _ ?_
      refine RG.callo [7064] [] (cG) (.mk (tr_cons (tr_bp rfl) tr_nil) (by simp only [Int.cast_ofNat_Int, TrL, TrC, TrC0, TrEnt, lkE_cons, Nat.reduceEqDiff, ↓reduceIte, and_self, exists_eq_left', Option.some.injEq, isDRows]) (by simp) (by simp) (trivial) (by simp [lkE_cons, lkE_nil]) (by simp [Ent.pure]) (by simp) (by simp)) ?_
      refine RG.go fun Q hQ => ?_
      simp only [RX, eff, ev_t, lk_cons, lkE_cons, lkE_nil, setS_cons, setS_nil, setE_cons, setE_nil, AOp.isCall, setD, setEs, presOf, AOp.needs, SV.one?, SV.pre, SV.core, SV.cells, idsOf, AOp.rds, AOp.ops, SV.ids, C.ids0, splice, List.take_zero, List.drop_succ_cons, List.drop_zero, List.length_cons, List.length_nil, List.getElem?_cons_zero, List.getElem?_cons_succ, Option.map_some, List.map_cons, List.map_nil, List.nil_append, List.cons_append, true_and, and_self, Bool.false_eq_true, Nat.reduceAdd, Nat.reduceEqDiff, ↓reduceIte, Nat.zero_add, Nat.le_refl, renSV, renSV1, renC, renC0, renEnt, backUps, List.zip_nil_right, List.zip_cons_cons, List.zipIdx_nil, List.filterMap_nil, List.append_nil, List.range_zero, Nat.sub_self]
      refine hQ _ _ _ _ _ (RG.nil ?_)
      simp only [x_seq, x_tn]
      refine aw_reg 7600 (RG.go fun Q hQ => ?_)
      simp only [RX, eff, ev_t, lk_cons, setS_cons, setS_nil, AOp.isCall, setD, setEs, presOf, AOp.needs, idsOf, AOp.rds, List.map_nil, List.nil_append, true_and, Bool.false_eq_true, Nat.reduceAdd, Nat.reduceEqDiff, ↓reduceIte]
      refine hQ _ _ _ _ _ ?_
      refine RG.callo [7160] [] (cH) (.mk (tr_cons (tr_bp rfl) tr_nil) (by simp only [Int.cast_ofNat_Int, TrL, TrC, TrC0, TrEnt, lkE_cons, Nat.reduceEqDiff, ↓reduceIte, and_self, exists_eq_left', Option.some.injEq, isDRows]) (by simp) (by simp) (trivial) (by simp [lkE_cons, lkE_nil]) (by simp [Ent.pure]) (by simp) (by simp)) ?_
      refine RG.go fun Q hQ => ?_
      simp only [RX, eff, ev_t, lk_cons, lkE_cons, lkE_nil, setS_cons, setS_nil, setE_cons, setE_nil, AOp.isCall, setD, setEs, presOf, AOp.needs, SV.one?, SV.pre, SV.core, SV.cells, idsOf, AOp.rds, AOp.ops, SV.ids, C.ids0, splice, List.take_zero, List.drop_succ_cons, List.drop_zero, List.length_cons, List.length_nil, List.getElem?_cons_zero, List.getElem?_cons_succ, Option.map_some, List.map_cons, List.map_nil, List.nil_append, List.cons_append, true_and, and_self, Bool.false_eq_true, Nat.reduceAdd, Nat.reduceEqDiff, ↓reduceIte, Nat.zero_add, Nat.le_refl, renSV, renSV1, renC, renC0, renEnt, backUps, List.zip_nil_right, List.zip_cons_cons, List.zipIdx_nil, List.filterMap_nil, List.append_nil, List.range_zero, Nat.sub_self]
      refine hQ _ _ _ _ _ (RG.nil ?_)
      simp only [x_seq, x_tn]
      refine aw_draw 7900 (RG.go fun Q hQ => ?_)
      simp only [RX, eff, ev_t, lk_cons, lkE_cons, setS_cons, setS_nil, AOp.isCall, setD, setEs, presOf, AOp.needs, SV.one?, SV.pre, gval, binV, idsOf, AOp.rds, AOp.ops, SV.ids, C.ids0, List.take_succ_cons, List.take_zero, List.drop_zero, List.length_cons, List.length_nil, Option.map_some, List.map_nil, List.nil_append, List.cons_append, true_and, and_self, Bool.and_true, Bool.false_eq_true, Bool.not_true, implies_true, Nat.reduceAdd, Nat.reduceEqDiff, ↓reduceIte, Nat.zero_add, Nat.le_refl, BEq.rfl, List.append_nil]
      refine hQ _ _ _ _ _ ?_
      refine RG.callg _ _ [] rfl (fun hg => ⟨_, cT, tr_cons (tr_opt (by simpa using hg) (tr_agg ⟨rfl, rfl, rfl, rfl, trivial⟩)) (tr_cons (tr_opt (by simpa using hg) (tr_agg ⟨rfl, rfl, rfl, rfl, trivial⟩)) tr_nil), trivial, .inl trivial⟩) ?_
      refine RG.go fun Q hQ => ?_
      simp only [RX, eff, ev_t, ev_k, lk_cons, setS_cons, setS_nil, AOp.isCall, setD, setEs, presOf, AOp.needs, SV.one?, SV.pre, gval, unV, idsOf, AOp.rds, AOp.ops, SV.ids, C.ids0, Option.map_some, List.map_nil, List.nil_append, List.cons_append, true_and, and_self, Bool.and_true, Bool.false_eq_true, Bool.not_true, implies_true, Nat.reduceAdd, Nat.reduceEqDiff, ↓reduceIte, BEq.rfl, List.append_nil, Nat.add_zero]
      refine hQ _ _ _ _ _ ?_
      refine RG.callgo true true [7064] [] rfl rfl (pack_rest_Left_con (sl'.map brow) se') (.mk (tr_cons (tr_opt rfl (tr_bp rfl)) tr_nil) (by simp only [TrL, TrC, TrC0, TrEnt, lkE_cons, Nat.reduceEqDiff, ↓reduceIte, and_self, exists_eq_left', Option.some.injEq, isDRows]) (by simp) (by simp) trivial (by simp [lkE_cons, lkE_nil]) (by simp [Ent.pure]) (by simp) (by simp)) ?_
      refine RG.go fun Q hQ => ?_
      simp only [RX, eff, ev_t, ev_k, lk_cons, lkE_cons, lkE_nil, setS_cons, setS_nil, setE_cons, AOp.isCall, setD, setEs, presOf, AOp.needs, SV.one?, SV.pre, gval, binV, idsOf, AOp.rds, AOp.ops, SV.ids, C.ids0, rowsOf, List.drop_succ_cons, List.drop_zero, List.length_cons, List.length_nil, List.getElem?_cons_zero, Option.map_some, List.map_cons, List.map_nil, List.nil_append, List.cons_append, true_and, and_self, Bool.and_true, Bool.false_eq_true, implies_true, reduceCtorEq, Nat.reduceAdd, Nat.reduceEqDiff, ↓reduceIte, Option.bind_some, Nat.zero_add, BEq.rfl, renSV, renSV1, renC, renC0, renEnt, backUps, List.zip_nil_right, List.zip_cons_cons, List.zipIdx_nil, List.filterMap_nil, List.append_nil, List.range_zero, Nat.sub_self, Nat.add_zero]
      refine hQ _ _ _ _ _ (RG.nil ⟨by decide, ?_⟩)
      simp only [x_tn]
      refine aw_cond _ rfl trivial (fun ht => absurd ht (by simp)) (fun hf => ?_)
      simp only [x_skip, x_tn, x_bn]
      refine aw_reg 9000 (RG.go fun Q hQ => ?_)
      simp only [RX, eff, ev_t, ev_k, lk_cons, setS_cons, setS_nil, AOp.isCall, setD, setEs, presOf, AOp.needs, SV.one?, SV.pre, binV, idsOf, AOp.rds, AOp.ops, SV.ids, C.ids0, Option.map_some, List.map_nil, List.nil_append, true_and, and_self, Bool.false_eq_true, Nat.reduceAdd, Nat.reduceEqDiff, ↓reduceIte, List.append_nil, hw1]
      refine hQ _ _ _ _ _ (RG.nil ?_)
      simp only [x_ln]
      refine ⟨⟨j + 1, hj'⟩, ?_, by simp; omega⟩
      refine Le.lit [] [] _ _ ?_ ?_ ?_ ?_
      · skip
        simp only [allL, lk_cons, lkE_cons, lkE_nil, WkSV, WkSV1, WkC, WkC0, rlook, frzEs, Nat.reduceEqDiff, ↓reduceIte, reduceCtorEq, and_true, ne_eq, not_false_eq_true]
      · skip
        simp only [allL, lkE_cons, lkE_nil, WkEnt, rlook, frzEs, isDRows, Option.some.injEq, ↓reduceIte, reduceCtorEq, true_and, and_true, exists_eq_left', ne_eq, true_or]
        exact prow_data _
      · simp
      · simp

end Go.Abs
namespace Go.Abs
open Go Go.Proofs
set_option maxRecDepth 100000
set_option linter.unusedSimpArgs false

def bentS (e : EN) (what : Nat) (v : Int) : EN :=
  if what % 4 = 0 then { e with i := v } else if what % 4 = 1 then { e with t := v } else if what % 4 = 2 then { e with k := v } else
    { e with d := [(IntKind.u8.wrap v).toNat, (IntKind.u8.wrap (v.fdiv (2 ^ min 8 IntKind.i64.bits))).toNat] }

theorem u8_nat (v : Int) : IntKind.u8.wrap v = ((IntKind.u8.wrap v).toNat : Int) ∧ (IntKind.u8.wrap v).toNat < 256 := by rw [w_u8]; omega

theorem bent_con (e : EN) (what : Nat) (v : Int) : Con Try.prog 9 [.agg (erow e), .c (.v (.int .u8 what)), I v] [] (.agg (erow (bentS e what v))) [] := by
  have q1 : (what : Int).tmod 4 = ((what % 4 : Nat) : Int) := by rw [Int.tmod_eq_emod_of_nonneg (by omega)]; omega
  obtain ⟨u1, _⟩ := u8_nat v
  obtain ⟨u2, _⟩ := u8_nat (v.fdiv (2 ^ min 8 IntKind.i64.bits))
  obtain ⟨ei, et, ek, ed⟩ := e
  refine C_mementolaw8_bent (Nat.le_of_ble_eq_true rfl) (Nat.le_of_ble_eq_true rfl) ?_
  simp only [A_mementolaw8_bent, argL, objL, List.length_nil, Nat.reduceAdd, Nat.zero_add, x_seq]
  refine aw_reg 16 (RG.go fun Q hQ => ?_)
  simp only [RX, eff, ev_t, lk_cons, lkE_cons, lkE_nil, setS_cons, setS_nil, setE_cons, setE_nil, AOp.isCall, setD, setEs, presOf, AOp.needs, SV.pre, SV.cells, idsOf, AOp.rds, AOp.ops, SV.ids, List.map_cons, List.map_nil, List.nil_append, true_and, and_self, Bool.false_eq_true, reduceCtorEq, Nat.reduceAdd, Nat.reduceEqDiff, ↓reduceIte, List.append_nil, erow, entC]
  refine hQ _ _ _ _ _ (RG.nil ?_)
  simp only [x_seq, x_tn]
  refine aw_reg 160 (RG.go fun Q hQ => ?_)
  simp only [RX, eff, ev_t, ev_k, lk_cons, setS_cons, setS_nil, AOp.isCall, setD, setEs, presOf, AOp.needs, SV.one?, SV.pre, binV, idsOf, AOp.rds, AOp.ops, SV.ids, C.ids0, Option.map_some, List.map_nil, List.nil_append, true_and, and_self, Bool.false_eq_true, reduceCtorEq, Nat.reduceAdd, Nat.reduceEqDiff, ↓reduceIte, List.append_nil, q1]
  refine ⟨by decide, hQ _ _ _ _ _ (RG.nil ?_)⟩
  simp only [x_seq, x_block, x_tn]
  refine aw_reg 320 (RG.go fun Q hQ => ?_)
  simp only [RX, eff, ev_t, ev_k, lk_cons, setS_cons, setS_nil, AOp.isCall, setD, setEs, presOf, AOp.needs, SV.one?, SV.pre, binV, idsOf, AOp.rds, AOp.ops, SV.ids, C.ids0, Option.map_some, List.map_nil, List.nil_append, true_and, and_self, Bool.false_eq_true, reduceCtorEq, Nat.reduceAdd, Nat.reduceEqDiff, ↓reduceIte, List.append_nil]
  refine hQ _ _ _ _ _ (RG.nil ?_)
  simp only [x_tn]
  refine aw_cond _ rfl trivial (fun ht => ?_) (fun hf => ?_)
  · have hw : what % 4 = 0 := by simp at ht; omega
    have he : bentS ⟨ei, et, ek, ed⟩ what v = ⟨v, et, ek, ed⟩ := by unfold bentS; rw [if_pos hw]
    rw [he]
    refine aw_reg 480 (RG.go fun Q hQ => ?_)
    simp only [RX, eff, ev_t, lk_cons, lkE_cons, setS_cons, setS_nil, setE_cons, AOp.isCall, setD, setEs, presOf, AOp.needs, SV.one?, SV.pre, SV.cells, idsOf, AOp.rds, AOp.ops, SV.ids, C.ids0, splice, List.take_zero, List.drop_succ_cons, List.drop_zero, List.length_cons, List.length_nil, List.map_cons, List.map_nil, List.nil_append, List.cons_append, true_and, and_self, Bool.false_eq_true, reduceCtorEq, Nat.reduceAdd, Nat.reduceEqDiff, Nat.reduceLeDiff, ↓reduceIte, Nat.zero_add, List.append_nil, Nat.add_zero]
    refine hQ _ _ _ _ _ (RG.nil ?_)
    simp only [x_seq, x_tn, x_bn]
    refine aw_reg 800 (RG.go fun Q hQ => ?_)
    simp only [RX, eff, ev_t, lk_cons, lkE_cons, setS_cons, setS_nil, setE_cons, AOp.isCall, setD, setEs, presOf, AOp.needs, SV.one?, SV.pre, SV.cells, idsOf, AOp.rds, AOp.ops, SV.ids, C.ids0, splice, List.take_succ_cons, List.take_zero, List.drop_succ_cons, List.drop_zero, List.length_cons, List.length_nil, List.map_cons, List.map_nil, List.nil_append, List.cons_append, true_and, and_self, Bool.false_eq_true, reduceCtorEq, Nat.reduceAdd, Nat.reduceEqDiff, ↓reduceIte, Nat.zero_add, Nat.le_refl, List.append_nil]
    refine hQ _ _ _ _ _ (RG.nil ?_)
    simp only [x_ret, x_tn]
    exact Fin.data [] (.inr rfl) rfl ⟨trivial, trivial⟩ ⟨rfl, rfl, rfl, rfl, trivial⟩
  have hn0 : ¬ what % 4 = 0 := by simp at hf; omega
  simp only [x_seq]
  refine aw_reg 480 (RG.go fun Q hQ => ?_)
  simp only [RX, eff, ev_t, ev_k, lk_cons, setS_cons, setS_nil, AOp.isCall, setD, setEs, presOf, AOp.needs, SV.one?, SV.pre, binV, idsOf, AOp.rds, AOp.ops, SV.ids, C.ids0, Option.map_some, List.map_nil, List.nil_append, true_and, and_self, Bool.false_eq_true, reduceCtorEq, Nat.reduceAdd, Nat.reduceEqDiff, ↓reduceIte, List.append_nil]
  refine hQ _ _ _ _ _ (RG.nil ?_)
  simp only [x_tn]
  refine aw_cond _ rfl trivial (fun ht => ?_) (fun hf => ?_)
  · have hw : what % 4 = 1 := by simp at ht; omega
    have he : bentS ⟨ei, et, ek, ed⟩ what v = ⟨ei, v, ek, ed⟩ := by unfold bentS; rw [if_neg hn0, if_pos hw]
    rw [he]
    refine aw_reg 800 (RG.go fun Q hQ => ?_)
    simp only [RX, eff, ev_t, lk_cons, lkE_cons, setS_cons, setS_nil, setE_cons, AOp.isCall, setD, setEs, presOf, AOp.needs, SV.one?, SV.pre, SV.cells, idsOf, AOp.rds, AOp.ops, SV.ids, C.ids0, splice, List.take_succ_cons, List.take_zero, List.drop_succ_cons, List.drop_zero, List.length_cons, List.length_nil, List.map_cons, List.map_nil, List.nil_append, List.cons_append, true_and, and_self, Bool.false_eq_true, reduceCtorEq, Nat.reduceAdd, Nat.reduceEqDiff, Nat.reduceLeDiff, ↓reduceIte, Nat.zero_add, List.append_nil]
    refine hQ _ _ _ _ _ (RG.nil ?_)
    simp only [x_seq, x_tn, x_bn]
    refine aw_reg 1000 (RG.go fun Q hQ => ?_)
    simp only [RX, eff, ev_t, lk_cons, lkE_cons, setS_cons, setS_nil, setE_cons, AOp.isCall, setD, setEs, presOf, AOp.needs, SV.one?, SV.pre, SV.cells, idsOf, AOp.rds, AOp.ops, SV.ids, C.ids0, splice, List.take_succ_cons, List.take_zero, List.drop_succ_cons, List.drop_zero, List.length_cons, List.length_nil, List.map_cons, List.map_nil, List.nil_append, List.cons_append, true_and, and_self, Bool.false_eq_true, reduceCtorEq, Nat.reduceAdd, Nat.reduceEqDiff, ↓reduceIte, Nat.zero_add, Nat.le_refl, List.append_nil]
    refine hQ _ _ _ _ _ (RG.nil ?_)
    simp only [x_ret, x_tn]
    exact Fin.data [] (.inr rfl) rfl ⟨trivial, trivial⟩ ⟨rfl, rfl, rfl, rfl, trivial⟩
  have hn1 : ¬ what % 4 = 1 := by simp at hf; omega
  simp only [x_seq]
  refine aw_reg 600 (RG.go fun Q hQ => ?_)
  simp only [RX, eff, ev_t, ev_k, lk_cons, setS_cons, setS_nil, AOp.isCall, setD, setEs, presOf, AOp.needs, SV.one?, SV.pre, binV, idsOf, AOp.rds, AOp.ops, SV.ids, C.ids0, Option.map_some, List.map_nil, List.nil_append, true_and, and_self, Bool.false_eq_true, reduceCtorEq, Nat.reduceAdd, Nat.reduceEqDiff, ↓reduceIte, List.append_nil]
  refine hQ _ _ _ _ _ (RG.nil ?_)
  simp only [x_tn]
  refine aw_cond _ rfl trivial (fun ht => ?_) (fun hf => ?_)
  · have hw : what % 4 = 2 := by simp at ht; omega
    have he : bentS ⟨ei, et, ek, ed⟩ what v = ⟨ei, et, v, ed⟩ := by unfold bentS; rw [if_neg hn0, if_neg hn1, if_pos hw]
    rw [he]
    refine aw_reg 800 (RG.go fun Q hQ => ?_)
    simp only [RX, eff, ev_t, lk_cons, lkE_cons, setS_cons, setS_nil, setE_cons, AOp.isCall, setD, setEs, presOf, AOp.needs, SV.one?, SV.pre, SV.cells, idsOf, AOp.rds, AOp.ops, SV.ids, C.ids0, splice, List.take_succ_cons, List.take_zero, List.drop_succ_cons, List.drop_zero, List.length_cons, List.length_nil, List.map_cons, List.map_nil, List.nil_append, List.cons_append, true_and, and_self, Bool.false_eq_true, reduceCtorEq, Nat.reduceAdd, Nat.reduceEqDiff, Nat.reduceLeDiff, ↓reduceIte, Nat.zero_add, List.append_nil]
    refine hQ _ _ _ _ _ (RG.nil ?_)
    simp only [x_seq, x_tn, x_bn]
    refine aw_reg 1000 (RG.go fun Q hQ => ?_)
    simp only [RX, eff, ev_t, lk_cons, lkE_cons, setS_cons, setS_nil, setE_cons, AOp.isCall, setD, setEs, presOf, AOp.needs, SV.one?, SV.pre, SV.cells, idsOf, AOp.rds, AOp.ops, SV.ids, C.ids0, splice, List.take_succ_cons, List.take_zero, List.drop_succ_cons, List.drop_zero, List.length_cons, List.length_nil, List.map_cons, List.map_nil, List.nil_append, List.cons_append, true_and, and_self, Bool.false_eq_true, reduceCtorEq, Nat.reduceAdd, Nat.reduceEqDiff, ↓reduceIte, Nat.zero_add, Nat.le_refl, List.append_nil]
    refine hQ _ _ _ _ _ (RG.nil ?_)
    simp only [x_ret, x_tn]
    exact Fin.data [] (.inr rfl) rfl ⟨trivial, trivial⟩ ⟨rfl, rfl, rfl, rfl, trivial⟩
  have hn2 : ¬ what % 4 = 2 := by simp at hf; omega
  have he : bentS ⟨ei, et, ek, ed⟩ what v = ⟨ei, et, ek, [(IntKind.u8.wrap v).toNat, (IntKind.u8.wrap (v.fdiv (2 ^ min 8 IntKind.i64.bits))).toNat]⟩ := by unfold bentS; rw [if_neg hn0, if_neg hn1, if_neg hn2]
  rw [he]
  generalize (IntKind.u8.wrap v).toNat = n1 at *
  generalize (IntKind.u8.wrap (v.fdiv (2 ^ min 8 IntKind.i64.bits))).toNat = n2 at *
  refine aw_reg 800 (RG.go fun Q hQ => ?_)
  simp only [RX, eff, ev_t, ev_k, lk_cons, lkE_cons, lkE_nil, setS_cons, setS_nil, setE_cons, setE_nil, AOp.isCall, setD, setEs, presOf, AOp.needs, SV.one?, SV.pre, SV.cells, binV, idsOf, AOp.rds, AOp.ops, SV.ids, C.ids0, bSRows, splice, List.take_succ_cons, List.take_zero, List.drop_succ_cons, List.drop_zero, List.length_cons, List.length_nil, Option.map_some, List.map_cons, List.map_nil, List.nil_append, List.cons_append, true_and, and_self, Bool.false_eq_true, reduceCtorEq, Nat.reduceAdd, Nat.reduceEqDiff, Int.reduceToNat, ↓reduceIte, Nat.zero_add, Nat.le_refl, List.append_nil, Int.reduceLE, u1, u2]
  refine hQ _ _ _ _ _ (RG.nil ?_)
  simp only [x_seq, x_tn, x_bn]
  refine aw_reg 1000 (RG.go fun Q hQ => ?_)
  simp only [RX, eff, ev_t, lk_cons, lkE_cons, setS_cons, setS_nil, setE_cons, AOp.isCall, setD, setEs, presOf, AOp.needs, SV.one?, SV.pre, SV.cells, idsOf, AOp.rds, AOp.ops, SV.ids, C.ids0, splice, List.take_succ_cons, List.take_zero, List.drop_succ_cons, List.drop_zero, List.length_cons, List.length_nil, List.map_cons, List.map_nil, List.nil_append, List.cons_append, true_and, and_self, Bool.false_eq_true, reduceCtorEq, Nat.reduceAdd, Nat.reduceEqDiff, ↓reduceIte, Nat.zero_add, Nat.le_refl, List.append_nil]
  refine hQ _ _ _ _ _ (RG.nil ?_)
  simp only [x_ret, x_tn]
  exact Fin.data [880] (.inr rfl) rfl ⟨trivial, trivial⟩ ⟨rfl, rfl, rfl, ⟨⟨_, _, rfl⟩, drows_brow [n1, n2]⟩, trivial⟩


theorem aw_mid {P : Program} {n : Nat} {c : AC} {Q : Exit → St → Prop} {Z R : St → Prop} {s : St} (h1 : ∀ s, R s → Z s) (h2 : awp P n c (thenQ R Q) s) : awp P n c (thenQ Z Q) s :=
  awp_mono c (fun e s hh => by cases e with
    | normal => exact h1 s hh
    | _ => exact hh) h2

structure BN where
  i : Int
  t : Int
  c : List Int
  d : List Nat

def bnrow (b : BN) : List C := basC b.i b.t b.c b.d

theorem bnrow_data (bs : List BN) : isDRows (bs.map bnrow) := by
  intro r hr c hc
  obtain ⟨e, _, rfl⟩ := List.mem_map.1 hr
  simp [bnrow, basC] at hc
  rcases hc with rfl | rfl | rfl | rfl <;> rfl

theorem erow_pure (e : EN) : (SV.agg (erow e)).pureD := by
  intro c hc
  simp [erow, entC] at hc
  rcases hc with rfl | rfl | rfl | rfl <;> trivial

theorem bentS_data {e : EN} {what : Nat} {v : Int} (h : (∀ c ∈ e.d, c < 256) ∧ e.d.length ≤ 60) : (∀ c ∈ (bentS e what v).d, c < 256) ∧ (bentS e what v).d.length ≤ 60 := by
  obtain ⟨_, u1⟩ := u8_nat v
  obtain ⟨_, u2⟩ := u8_nat (v.fdiv (2 ^ min 8 IntKind.i64.bits))
  unfold bentS
  split
  · exact h
  · split
    · exact h
    · split
      · exact h
      · exact ⟨fun c hc => by simp only [List.mem_cons, List.not_mem_nil, or_false] at hc; rcases hc with h | h <;> rw [h] <;> assumption, by simp⟩

theorem sameE_nat {i t k : Int} {d : List Nat} (h : entryRight i t k d = true) : sameE (i.toNat : Int) (t.toNat : Int) (k.toNat : Int) d i t k d = true := by
  obtain ⟨h1, h2, h3, h4, h5, h6, h7⟩ := entryRight_facts h
  rw [Int.toNat_of_nonneg (by omega), Int.toNat_of_nonneg h3, Int.toNat_of_nonneg h5]
  exact sameE_self _ _ _ _

theorem sameB_nat {i t : Int} {c : List Int} {d : List Nat} (h : baseRight i t c d = true) : sameB (i.toNat : Int) (t.toNat : Int) c d i t c d = true := by
  obtain ⟨h1, h2, h3, h4, h5, h6⟩ := baseRight_facts h
  rw [Int.toNat_of_nonneg h1, Int.toNat_of_nonneg h3]
  exact sameB_self _ _ _ _

set_option maxHeartbeats 4000000 in
theorem EntryTells_con (raw : EN) (base : BN) (l : List Nat) (what : Nat) (v : Int) (more : List Nat) (confs : List Int) (h1 : ∀ c ∈ raw.d, c < 256) (h2 : ∀ c ∈ base.d, c < 256) (h3 : ∀ c ∈ l, c < 256) (h4 : what < 256) (h5 : ∀ c ∈ more, c < 256) :
    Con Try.prog 4 [.agg (erow raw), .agg (bnrow base), .c (.sl (l.map brow)), .c (.v (.int .u8 what)), I v, .c (.sl (more.map brow)), .c (.sl (confs.map nrow))] [] (B true) [] := by
  refine C_mementolaw8_EntryTells (Nat.le_of_ble_eq_true rfl) (Nat.le_of_ble_eq_true rfl) ?_
  simp only [A_mementolaw8_EntryTells, argL, objL, List.length_nil, Nat.reduceAdd, Nat.zero_add, x_seq]
  refine aw_reg 16 (RG.go fun Q hQ => ?_)
  simp only [RX, eff, ev_t, ev_k, lk_cons, lkE_cons, lkE_nil, setS_cons, setS_nil, setE_cons, setE_nil, AOp.isCall, setD, setEs, presOf, AOp.needs, SV.pre, SV.cells, idsOf, AOp.rds, AOp.ops, SV.ids, List.map_cons, List.map_nil, List.nil_append, true_and, and_self, Bool.false_eq_true, reduceCtorEq, Nat.reduceAdd, Nat.reduceEqDiff, ↓reduceIte, List.append_nil, erow, entC, bnrow, basC]
  refine hQ _ _ _ _ _ (RG.nil ?_)
  simp only [x_seq, x_tn]
  refine aw_reg 160 (RG.go fun Q hQ => ?_)
  simp only [RX, AOp.isCall, ↓reduceIte]
  refine hQ _ _ _ _ _ ?_
  refine RG.call [] (known_con) (tr_nil) (trivial) (.inl trivial) ?_
  refine RG.go fun Q hQ => ?_
  simp only [RX, eff, ev_t, lk_cons, setS_cons, setS_nil, AOp.isCall, setD, setEs, presOf, AOp.needs, SV.one?, SV.pre, unV, idsOf, AOp.rds, AOp.ops, SV.ids, C.ids0, Option.map_some, List.map_nil, List.nil_append, true_and, and_self, Bool.false_eq_true, Bool.not_true, reduceCtorEq, Nat.reduceAdd, Nat.reduceEqDiff, ↓reduceIte, List.append_nil]
  refine hQ _ _ _ _ _ (RG.nil ?_)
  simp only [x_tn]
  refine aw_cond _ rfl trivial (fun ht => by cases ht) (fun hf => ?_)
  simp only [x_seq, x_skip, x_tn]
  refine aw_reg 320 (RG.go fun Q hQ => ?_)
  simp only [RX, eff, ev_t, ev_k, lk_cons, lkE_cons, setS_cons, setS_nil, AOp.isCall, setD, setEs, presOf, AOp.needs, SV.one?, SV.pre, gval, binV, idsOf, AOp.rds, AOp.ops, SV.ids, C.ids0, rowsOf, List.getElem?_cons_zero, List.getElem?_cons_succ, Option.map_some, List.map_nil, List.nil_append, List.cons_append, and_true, true_and, and_self, Bool.true_and, Bool.false_eq_true, beq_false, implies_true, imp_self, Bool.if_true_left, Bool.decide_eq_true, reduceCtorEq, gt_iff_lt, Nat.reduceAdd, Nat.reduceEqDiff, ↓reduceIte, Option.bind_some, Nat.zero_add, List.append_nil]
  refine ⟨fun h => by rw [h]; rfl, fun h => by rw [h]; rfl, fun h => by rw [h]; rfl, fun h => by rw [h]; rfl, fun h => by rw [h]; rfl, hQ _ _ _ _ _ (RG.nil ?_)⟩
  simp only [x_tn]
  refine aw_cond _ rfl trivial (fun ht => ?_) (fun hf => ?_)
  · skip
    simp only [x_seq]
    refine aw_reg 480 (RG.go fun Q hQ => ?_)
    simp only [RX, eff, ev_k, setS_cons, AOp.isCall, setD, setEs, presOf, AOp.needs, idsOf, AOp.rds, List.map_nil, List.nil_append, true_and, Bool.false_eq_true, reduceCtorEq, Nat.reduceAdd, Nat.reduceEqDiff, ↓reduceIte]
    refine hQ _ _ _ _ _ (RG.nil ?_)
    simp only [x_ret, x_tn, x_tr]
    exact Fin.scalar (.inr rfl) rfl trivial rfl trivial
  have hbr : raw.d.length ≤ 60 ∧ base.d.length ≤ 60 ∧ base.c.length ≤ 10 ∧ l.length ≤ 10 ∧ more.length ≤ 20 ∧ confs.length ≤ 10 := by simp at hf; omega
  have hww : IntKind.i64.wrap (what : Int) = what := w64 _ (by omega) (by omega)
  have hw1 : IntKind.i64.wrap ((what : Int) + 1) = what + 1 := w64 _ (by omega) (by omega)
  have hel := entsN_len ((what : Int) + 1) l l.length
  have hed := entsN_data ((what : Int) + 1) l h3 l.length
  have cEn := (Entries_con ((what : Int) + 1) l (by omega) (by omega) (by omega) h3).rows (erow_data _)
  generalize entsN ((what : Int) + 1) l l.length = ents at *
  simp only [x_seq, x_skip, x_tn]
  refine aw_draw 480 (RG.go fun Q hQ => ?_)
  simp only [RX, eff, ev_t, ev_k, lk_cons, lkE_cons, lkE_nil, setS_cons, setS_nil, setE_cons, setE_nil, AOp.isCall, setD, setEs, presOf, AOp.needs, SV.one?, SV.pre, SV.cells, binV, idsOf, AOp.rds, AOp.ops, SV.ids, C.ids0, bSRows, List.take_succ_cons, List.take_zero, List.drop_zero, List.length_cons, List.length_nil, Option.map_some, List.map_cons, List.map_nil, List.nil_append, List.cons_append, true_and, and_self, Bool.false_eq_true, reduceCtorEq, Nat.reduceAdd, Nat.reduceEqDiff, ↓reduceIte, Nat.zero_add, Nat.le_refl, List.append_nil, hww, hw1]
  refine hQ _ _ _ _ _ ?_
  refine RG.callo [] [] (cEn) (.mk (tr_cons tr_v (tr_cons tr_sl tr_nil)) (trivial) (by simp) (by simp) (trivial) (by simp [lkE_cons, lkE_nil]) (by simp) (by simp) (by simp)) ?_
  refine RG.go fun Q hQ => ?_
  simp only [RX, eff, ev_t, lk_cons, lkE_cons, lkE_nil, setS_cons, setS_nil, setE_cons, setE_nil, AOp.isCall, setD, setEs, presOf, AOp.needs, SV.one?, SV.pre, idsOf, AOp.rds, AOp.ops, SV.ids, C.ids0, rowsOf, srcOf, List.drop_zero, List.length_cons, List.length_nil, Option.map_some, List.map_cons, List.map_nil, List.nil_append, List.cons_append, true_and, and_self, Bool.false_eq_true, reduceCtorEq, Nat.reduceAdd, Nat.reduceEqDiff, ↓reduceIte, Nat.zero_add, renSV, renSV1, renC, renC0, renEnt, backUps, List.zip_nil_right, List.zipIdx_nil, List.filterMap_nil, List.append_nil, List.range_zero, Nat.sub_self]
  refine ⟨⟨erow_len _, by simp; omega⟩, ?_⟩
  refine hQ _ _ _ _ _ (RG.nil ⟨by decide, ?_⟩)
  simp only [x_seq, x_tn]
  refine aw_reg 800 (RG.go fun Q hQ => ?_)
  simp only [RX, eff, ev_t, ev_k, lk_cons, setS_cons, setS_nil, AOp.isCall, setD, setEs, presOf, AOp.needs, SV.one?, SV.pre, binV, idsOf, AOp.rds, AOp.ops, SV.ids, C.ids0, rowsOf, Option.map_some, List.map_nil, List.nil_append, true_and, and_self, Bool.false_eq_true, reduceCtorEq, gt_iff_lt, Nat.reduceAdd, Nat.reduceEqDiff, ↓reduceIte, Option.bind_some, List.append_nil]
  refine hQ _ _ _ _ _ (RG.nil ?_)
  simp only [x_tn]
  refine aw_mid (R := fun s => ∃ (es : List EN) (l0 : SL) (es0 : EL), (∀ e ∈ es, (∀ c ∈ e.d, c < 256) ∧ e.d.length ≤ 60) ∧ es.length ≤ 20 ∧ s = mkSt l0 es0 ∧ Le 0 (mkSt (setS 16 (I 0) l0) es0) (mkSt [(3, .c (.v (.int .u8 what))), (4, I v), (5, .c (.sl (more.map brow))), (6, .c (.sl (confs.map nrow))), (7, .c (.bp 16 0)), (8, .c (.bp 32 0)), (15, .c (.osl 1000)), (16, I 0)] [(16, .box (erow raw)), (32, .box (bnrow base)), (1000, .arr 26 4 (es.map erow) false)])) ?_ ?_
  · skip
    rintro _ ⟨es, l0, es0, hes, hesl, rfl, hle⟩
    simp only [x_seq]
    refine aw_reg 2000 (RG.go fun Q hQ => ?_)
    simp only [RX, eff, ev_k, AOp.isCall, setD, setEs, presOf, AOp.needs, idsOf, AOp.rds, List.map_nil, List.nil_append, true_and, Bool.false_eq_true, Nat.reduceAdd, ↓reduceIte]
    refine hQ _ _ _ _ _ (RG.nil ?_)
    simp only [x_block, x_tn]
    refine aw_loop (X := { i : Nat // i ≤ es.length }) (fun i => mkSt [(3, .c (.v (.int .u8 what))), (4, I v), (5, .c (.sl (more.map brow))), (6, .c (.sl (confs.map nrow))), (7, .c (.bp 16 0)), (8, .c (.bp 32 0)), (15, .c (.osl 1000)), (16, I i.1)] [(16, .box (erow raw)), (32, .box (bnrow base)), (1000, .arr 26 4 (es.map erow) false)]) (fun i => es.length - i.1) ⟨0, by omega⟩ hle ?_
    rintro ⟨i, hi⟩
    simp only [x_seq]
    refine aw_reg 2200 (RG.go fun Q hQ => ?_)
    simp only [RX, eff, ev_t, lk_cons, lkE_cons, setS_cons, setS_nil, AOp.isCall, setD, setEs, presOf, AOp.needs, SV.one?, SV.pre, binV, idsOf, AOp.rds, AOp.ops, SV.ids, C.ids0, rowsOf, Option.map_some, List.map_nil, List.nil_append, List.cons_append, true_and, and_self, Bool.false_eq_true, Nat.reduceAdd, Nat.reduceEqDiff, ↓reduceIte, Option.bind_some, List.append_nil]
    refine hQ _ _ _ _ _ (RG.nil ?_)
    simp only [x_tn]
    refine aw_cond _ rfl trivial (fun ht => ?_) (fun hf => ?_)
    rotate_left
    · skip
      simp only [x_seq, x_exit, x_tn, x_tx, x_bx, x_lx, ↓reduceIte]
      refine aw_reg 5000 (RG.go fun Q hQ => ?_)
      simp only [RX, eff, ev_t, ev_k, lk_cons, setS_cons, setS_nil, AOp.isCall, setD, setEs, presOf, AOp.needs, SV.one?, SV.pre, binV, idsOf, AOp.rds, AOp.ops, SV.ids, C.ids0, Option.map_some, List.map_nil, List.nil_append, true_and, and_self, Bool.false_eq_true, Nat.reduceAdd, Nat.reduceEqDiff, ↓reduceIte, List.append_nil, hww]
      refine hQ _ _ _ _ _ ?_
      refine RG.callo [] [] ((mementoref6_Of_con confs (by omega)).rows (drows_nrow _)) (.mk (tr_cons tr_sl tr_nil) (trivial) (by simp) (by simp) (trivial) (by simp [lkE_cons, lkE_nil]) (by simp) (by simp) (by simp)) ?_
      refine RG.go fun Q hQ => ?_
      simp only [RX, eff, ev_t, lk_cons, lkE_cons, lkE_nil, setS_cons, setS_nil, setE_cons, setE_nil, AOp.isCall, setD, setEs, presOf, AOp.needs, SV.one?, SV.pre, SV.cells, idsOf, AOp.rds, AOp.ops, SV.ids, C.ids0, bldFold, splice, List.take_succ_cons, List.take_zero, List.drop_succ_cons, List.drop_zero, List.length_cons, List.length_nil, Option.map_some, List.map_cons, List.map_nil, List.nil_append, List.cons_append, true_and, and_self, Bool.false_eq_true, Nat.reduceAdd, Nat.reduceEqDiff, Nat.reduceLeDiff, ↓reduceIte, Nat.zero_add, Nat.le_refl, renSV, renSV1, renC, renC0, renEnt, backUps, List.zip_nil_right, List.zipIdx_nil, List.filterMap_nil, List.append_nil, List.range_zero, Nat.sub_self]
      refine hQ _ _ _ _ _ (RG.nil ?_)
      simp only [x_seq, x_tn]
      have hol : (ofS confs).length ≤ 10 := by have := ofS_len confs; omega
      generalize ofS confs = oc at *
      generalize bitsI .and .i64 v 255 = v8 at *
      refine aw_reg 5300 (RG.go fun Q hQ => ?_)
      simp only [RX, eff, ev_t, ev_k, lk_cons, lkE_cons, lkE_nil, setS_cons, setS_nil, setE_cons, setE_nil, AOp.isCall, setD, setEs, presOf, AOp.needs, SV.one?, SV.pre, SV.cells, binV, idsOf, AOp.rds, AOp.ops, SV.ids, C.ids0, rowsOf, bldFold, bSRows, splice, List.take_succ_cons, List.take_zero, List.drop_succ_cons, List.drop_zero, List.length_cons, List.length_nil, List.getElem?_cons_zero, List.getElem?_cons_succ, Option.map_some, List.map_cons, List.map_nil, List.nil_append, List.cons_append, true_and, and_self, Bool.false_eq_true, Nat.reduceAdd, Nat.reduceEqDiff, Nat.reduceLeDiff, ↓reduceIte, Option.bind_some, Nat.zero_add, Nat.le_refl, List.append_nil, Nat.add_zero, Int.cast_ofNat_Int, bnrow, basC]
      refine hQ _ _ _ _ _ (RG.nil ?_)
      simp only [x_block, x_tn]
      obtain ⟨right, hright, hr1⟩ : ∃ r : BN, r = ⟨what, v8, oc, more⟩ ∧ ∀ c ∈ r.d, c < 256 := ⟨_, rfl, h5⟩
      obtain ⟨bs, hbse, hbs, hbl⟩ : ∃ bs : List BN, bs = [base, right, ⟨bitsI .and .i64 base.i 255, bitsI .and .i64 base.t 255, confs, more⟩] ∧ (∀ e ∈ bs, e.c.length ≤ 10 ∧ (∀ c ∈ e.d, c < 256) ∧ e.d.length ≤ 60) ∧ bs.length = 3 := by
        refine ⟨_, rfl, fun e he => ?_, rfl⟩
        simp only [List.mem_cons, List.not_mem_nil, or_false] at he
        rcases he with h | h | h <;> rw [h]
        · exact ⟨by omega, h2, by omega⟩
        · rw [hright]; exact ⟨hol, h5, by simp only; omega⟩
        · exact ⟨by simp only; omega, h5, by simp only; omega⟩
      refine aw_loop (X := { i : Nat // i ≤ bs.length }) (fun i => mkSt [(5, .c (.sl (more.map brow))), (23, .c (.bp 48 0)), (175, .c (.osl 1000)), (176, I bs.length), (177, I i.1)] [(48, .box (bnrow right)), (1000, .arr 31 4 (bs.map bnrow) false)]) (fun i => bs.length - i.1) ⟨0, by omega⟩ ?_ ?_
      · refine Le.lit [] [(48, 5128), (1000, 5476)] _ _ ?_ ?_ ?_ ?_
        · skip
          simp only [Int.cast_ofNat_Int, allL, lk_cons, lkE_cons, lkE_nil, WkSV, WkSV1, WkC, WkC0, rlook, frzEs, Nat.reduceEqDiff, ↓reduceIte, reduceCtorEq, true_and, and_true, ne_eq, not_false_eq_true]
          rw [hbl]; trivial
        · rw [show List.map bnrow bs = [basC base.i base.t base.c base.d, basC what v8 oc more, basC (bitsI .and .i64 base.i 255) (bitsI .and .i64 base.t 255) confs more] by rw [hbse, hright]; rfl, show bnrow right = basC what v8 oc more by rw [hright]; rfl]
          simp only [allL, lkE_cons, lkE_nil, WkC, WkC0, WkEnt, TrL, rlook, frzEs, isDRows, Option.some.injEq, Nat.reduceEqDiff, ↓reduceIte, reduceCtorEq, true_and, and_true, exists_eq_left', ne_eq, true_or]
          exact bnrow_data [base, ⟨what, v8, oc, more⟩, ⟨bitsI .and .i64 base.i 255, bitsI .and .i64 base.t 255, confs, more⟩]
        · simp [rlook]
        · simp
      rintro ⟨i, hi⟩
      simp only [x_seq]
      refine aw_reg 6000 (RG.go fun Q hQ => ?_)
      simp only [RX, eff, ev_t, lk_cons, setS_cons, setS_nil, AOp.isCall, setD, setEs, presOf, AOp.needs, SV.one?, SV.pre, binV, idsOf, AOp.rds, AOp.ops, SV.ids, C.ids0, Option.map_some, List.map_nil, List.nil_append, true_and, and_self, Bool.false_eq_true, Nat.reduceAdd, Nat.reduceEqDiff, ↓reduceIte, List.append_nil]
      refine hQ _ _ _ _ _ (RG.nil ?_)
      simp only [x_seq, x_tn]
      refine aw_cond _ rfl trivial (fun ht => ?_) (fun hf => ?_)
      rotate_left
      · skip
        simp only [x_seq, x_exit, x_tn, x_tx, x_bx, x_lx, ↓reduceIte]
        refine aw_reg 6100 (RG.go fun Q hQ => ?_)
        simp only [RX, eff, ev_k, setS_cons, setS_nil, AOp.isCall, setD, setEs, presOf, AOp.needs, idsOf, AOp.rds, List.map_nil, List.nil_append, true_and, Bool.false_eq_true, Nat.reduceAdd, Nat.reduceEqDiff, ↓reduceIte]
        refine hQ _ _ _ _ _ (RG.nil ?_)
        simp only [x_ret, x_tn]
        exact Fin.scalar (.inr rfl) rfl trivial rfl trivial
      have hi' : i < bs.length := by simpa using ht
      have hw3 : IntKind.i64.wrap ((i : Int) + 1) = ((i + 1 : Nat) : Int) := by rw [w64 _ (by omega) (by omega)]; rfl
      have hr : (List.map bnrow bs)[(i : Int).toNat]?.getD [] = basC bs[i].i bs[i].t bs[i].c bs[i].d := by simp [hi', bnrow]
      obtain ⟨hc1, hd1, hd2⟩ := hbs _ (List.getElem_mem hi')
      generalize bs[i] = e at *
      have hpl := putB_len (i := e.i) (t := e.t) (c := e.c) (d := e.d)
      have hpm := putB_mem (i := e.i) (t := e.t) (c := e.c) hd1
      have hpr : putB e.i e.t e.c e.d ≠ [] → baseRight e.i e.t e.c e.d = true := fun h => by
        cases hh : baseRight e.i e.t e.c e.d with
        | true => rfl
        | false => exact absurd (by simp [putB, hh]) h
      have hrd : baseRight e.i e.t e.c e.d = true → readB 9223372036854775807 (putB e.i e.t e.c e.d ++ more) 0 = ⟨e.i.toNat, e.t.toNat, e.c, e.d, true, more, 0⟩ := readB_putB (most := 9223372036854775807) (by decide)
      have cP := entry_PutBase_con e.i e.t e.c e.d (by omega)
      have cQ := mementoref6_PutBase_con e.i e.t e.c e.d (by omega)
      generalize putB e.i e.t e.c e.d = b at *
      simp only [x_seq, x_block, x_skip, x_tn]
      refine aw_reg 6400 (RG.go fun Q hQ => ?_)
      simp only [RX, eff, ev_t, lk_cons, lkE_cons, lkE_nil, setS_cons, setS_nil, setE_cons, setE_nil, AOp.isCall, setD, setEs, presOf, AOp.needs, SV.one?, SV.pre, SV.cells, idsOf, AOp.rds, AOp.ops, SV.ids, C.ids0, splice, List.take_succ_cons, List.take_zero, List.drop_succ_cons, List.drop_zero, List.length_cons, List.length_nil, List.map_cons, List.map_nil, List.nil_append, List.cons_append, and_true, true_and, and_self, Bool.false_eq_true, Nat.reduceAdd, Nat.reduceEqDiff, ↓reduceIte, Nat.zero_add, Nat.le_refl, List.append_nil, hr]
      refine ⟨⟨by omega, by simp; omega⟩, by simp; omega, hQ _ _ _ _ _ (RG.nil ?_)⟩
      simp only [x_seq, x_tn]
      refine aw_draw 6600 (RG.go fun Q hQ => ?_)
      simp only [RX, eff, ev_t, lk_cons, lkE_cons, setS_cons, setS_nil, AOp.isCall, setD, setEs, presOf, AOp.needs, SV.one?, SV.pre, idsOf, AOp.rds, AOp.ops, SV.ids, C.ids0, List.take_succ_cons, List.take_zero, List.drop_zero, List.length_cons, List.length_nil, List.map_nil, List.nil_append, List.cons_append, true_and, and_self, Bool.false_eq_true, Nat.reduceAdd, Nat.reduceEqDiff, ↓reduceIte, Nat.zero_add, Nat.le_refl, List.append_nil]
      refine hQ _ _ _ _ _ ?_
      refine RG.call [] (cP) (tr_cons (tr_agg ⟨rfl, rfl, rfl, rfl, trivial⟩) tr_nil) (trivial) (.inr ⟨rfl, trivial⟩) ?_
      refine RG.go fun Q hQ => ?_
      simp only [RX, eff, ev_t, lk_cons, lkE_cons, setS_cons, setS_nil, AOp.isCall, setD, setEs, presOf, AOp.needs, SV.one?, SV.pre, idsOf, AOp.rds, AOp.ops, SV.ids, C.ids0, List.take_succ_cons, List.take_zero, List.drop_zero, List.length_cons, List.length_nil, List.map_nil, List.nil_append, List.cons_append, true_and, and_self, Bool.false_eq_true, Nat.reduceAdd, Nat.reduceEqDiff, ↓reduceIte, Nat.zero_add, Nat.le_refl, List.append_nil]
      refine hQ _ _ _ _ _ ?_
      refine RG.call [] (cQ) (tr_cons (tr_agg ⟨rfl, rfl, rfl, rfl, trivial⟩) tr_nil) (trivial) (.inr ⟨rfl, trivial⟩) ?_
      refine RG.go fun Q hQ => ?_
      simp only [RX, eff, ev_t, lk_cons, setS_cons, setS_nil, AOp.isCall, setD, setEs, presOf, AOp.needs, idsOf, AOp.rds, List.map_nil, List.nil_append, true_and, Bool.false_eq_true, Nat.reduceAdd, Nat.reduceEqDiff, ↓reduceIte]
      refine hQ _ _ _ _ _ (RG.nil ⟨by decide, ?_⟩)
      simp only [x_seq, x_tn]
      refine aw_draw 6900 (RG.go fun Q hQ => ?_)
      simp only [RX, eff, ev_t, lk_cons, lkE_cons, setS_cons, setS_nil, AOp.isCall, setD, setEs, presOf, AOp.needs, SV.one?, SV.pre, gval, binV, idsOf, AOp.rds, AOp.ops, SV.ids, C.ids0, rowsOf, List.take_succ_cons, List.take_zero, List.drop_zero, List.length_cons, List.length_nil, Option.map_some, List.map_nil, List.nil_append, List.cons_append, true_and, and_self, Bool.and_true, Bool.false_eq_true, Bool.not_true, implies_true, Nat.reduceAdd, Nat.reduceEqDiff, ↓reduceIte, Option.bind_some, Nat.zero_add, Nat.le_refl, BEq.rfl, List.append_nil, bnrow, basC]
      refine ⟨isByteRow_brow _, isByteRow_brow _, hQ _ _ _ _ _ ?_⟩
      refine RG.callg _ _ [] rfl (fun hg => ⟨_, entry_BaseRight_con e.i e.t e.c e.d (by omega), tr_cons (tr_opt (by simpa using hg) (tr_agg ⟨rfl, rfl, rfl, rfl, trivial⟩)) tr_nil, trivial, .inl trivial⟩) ?_
      refine RG.go fun Q hQ => ?_
      simp only [RX, eff, ev_t, lk_cons, lkE_cons, setS_cons, setS_nil, AOp.isCall, setD, presOf, AOp.needs, SV.one?, SV.pre, gval, idsOf, AOp.rds, AOp.ops, SV.ids, C.ids0, List.take_succ_cons, List.take_zero, List.drop_zero, List.length_cons, List.length_nil, List.nil_append, List.cons_append, true_and, and_self, Bool.and_true, Bool.false_eq_true, implies_true, Nat.reduceAdd, Nat.reduceEqDiff, ↓reduceIte, Nat.zero_add, Nat.le_refl, BEq.rfl, List.append_nil]
      refine hQ _ _ _ _ _ ?_
      refine RG.callg _ _ [] rfl (fun hg => ⟨_, mementoref6_BaseRight_con e.i e.t e.c e.d (by omega), tr_cons (tr_opt (by simpa using hg) (tr_agg ⟨rfl, rfl, rfl, rfl, trivial⟩)) tr_nil, trivial, .inl trivial⟩) ?_
      refine RG.go fun Q hQ => ?_
      simp only [RX, eff, ev_t, ev_k, lk_cons, lkE_cons, setS_cons, setS_nil, AOp.isCall, setD, setEs, presOf, AOp.needs, SV.one?, SV.pre, gval, binV, idsOf, AOp.rds, AOp.ops, SV.ids, C.ids0, List.take_succ_cons, List.take_zero, List.drop_zero, List.length_cons, List.length_nil, Option.map_some, List.map_nil, List.nil_append, List.cons_append, true_and, and_self, Bool.and_true, Bool.false_eq_true, Bool.not_true, implies_true, Nat.reduceAdd, Nat.reduceEqDiff, ↓reduceIte, Nat.zero_add, Nat.le_refl, BEq.rfl, List.append_nil]
      refine hQ _ _ _ _ _ ?_
      refine RG.callg _ _ [] rfl (fun hg => ⟨_, entry_SameBase_con e.i e.t e.c e.d right.i right.t right.c right.d (by omega) hd1 hr1, tr_cons (tr_opt (by simpa using hg) (tr_agg ⟨rfl, rfl, rfl, rfl, trivial⟩)) (tr_cons (tr_opt (by simpa using hg) (tr_agg ⟨rfl, rfl, rfl, rfl, trivial⟩)) tr_nil), trivial, .inl trivial⟩) ?_
      refine RG.go fun Q hQ => ?_
      simp only [RX, eff, ev_t, lk_cons, lkE_cons, setS_cons, setS_nil, AOp.isCall, setD, presOf, AOp.needs, SV.one?, SV.pre, gval, idsOf, AOp.rds, AOp.ops, SV.ids, C.ids0, List.take_succ_cons, List.take_zero, List.drop_zero, List.length_cons, List.length_nil, List.nil_append, List.cons_append, true_and, and_self, Bool.and_true, Bool.false_eq_true, implies_true, Nat.reduceAdd, Nat.reduceEqDiff, ↓reduceIte, Nat.zero_add, Nat.le_refl, BEq.rfl, List.append_nil]
      refine hQ _ _ _ _ _ ?_
      refine RG.callg _ _ [] rfl (fun hg => ⟨_, mementoref6_SameBase_con e.i e.t e.c e.d right.i right.t right.c right.d (by omega) hd1 hr1, tr_cons (tr_opt (by simpa using hg) (tr_agg ⟨rfl, rfl, rfl, rfl, trivial⟩)) (tr_cons (tr_opt (by simpa using hg) (tr_agg ⟨rfl, rfl, rfl, rfl, trivial⟩)) tr_nil), trivial, .inl trivial⟩) ?_
      refine RG.go fun Q hQ => ?_
      simp only [RX, eff, ev_t, ev_k, lk_cons, setS_cons, setS_nil, AOp.isCall, setD, setEs, presOf, AOp.needs, SV.one?, SV.pre, gval, binV, idsOf, AOp.rds, AOp.ops, SV.ids, C.ids0, Option.map_some, List.map_nil, List.nil_append, true_and, and_self, Bool.and_true, Bool.false_eq_true, Bool.not_true, implies_true, Nat.reduceAdd, Nat.reduceEqDiff, ↓reduceIte, BEq.rfl, List.append_nil]
      refine hQ _ _ _ _ _ (RG.nil ⟨by decide, ?_⟩)
      simp only [x_tn]
      refine aw_cond _ rfl trivial (fun ht => by cases ht) (fun hf => ?_)
      simp only [x_seq, x_skip, x_tn]
      refine aw_reg 7100 (RG.go fun Q hQ => ?_)
      simp only [RX, eff, ev_t, ev_k, lk_cons, setS_cons, setS_nil, AOp.isCall, setD, setEs, presOf, AOp.needs, SV.one?, SV.pre, binV, idsOf, AOp.rds, AOp.ops, SV.ids, C.ids0, rowsOf, Option.map_some, List.map_nil, List.nil_append, true_and, and_self, Bool.false_eq_true, Nat.reduceAdd, Nat.reduceEqDiff, ↓reduceIte, Option.bind_some, List.append_nil]
      refine hQ _ _ _ _ _ (RG.nil ?_)
      simp only [x_tn]
      refine aw_cond _ rfl trivial (fun ht => ?_) (fun hf => ?_)
      · skip
        simp only [x_exit, x_tn, x_tx, x_bx, ↓reduceIte]
        refine aw_reg 8300 (RG.go fun Q hQ => ?_)
        simp only [RX, eff, ev_t, ev_k, lk_cons, setS_cons, setS_nil, AOp.isCall, setD, setEs, presOf, AOp.needs, SV.one?, SV.pre, binV, idsOf, AOp.rds, AOp.ops, SV.ids, C.ids0, Option.map_some, List.map_nil, List.nil_append, true_and, and_self, Bool.false_eq_true, Nat.reduceAdd, Nat.reduceEqDiff, ↓reduceIte, List.append_nil, hw3]
        refine hQ _ _ _ _ _ (RG.nil ?_)
        simp only [x_ln]
        refine ⟨⟨i + 1, hi'⟩, ?_, by simp; omega⟩
        refine Le.lit [] [] _ _ ?_ ?_ ?_ ?_
        · skip
          simp only [allL, lk_cons, lkE_cons, lkE_nil, WkSV, WkSV1, WkC, WkC0, rlook, frzEs, Nat.reduceEqDiff, ↓reduceIte, reduceCtorEq, and_true, ne_eq, not_false_eq_true]
        · skip
          simp only [allL, lkE_cons, lkE_nil, WkEnt, rlook, frzEs, isDRows, Option.some.injEq, Nat.reduceEqDiff, ↓reduceIte, reduceCtorEq, true_and, and_true, exists_eq_left', ne_eq, true_or]
          exact ⟨⟨rfl, rfl, rfl, rfl, trivial⟩, bnrow_data _⟩
        · simp [rlook]
        · simp
      have hbn : b ≠ [] := by rintro rfl; simp at hf
      have hrt := hpr hbn
      have hre := hrd hrt
      have hap : List.map brow b ++ List.map brow more = List.map brow (b ++ more) := (List.map_append ..).symm
      have cR := entry_ReadBase_con (b ++ more) 0 (fun c hc => by rcases List.mem_append.1 hc with h | h; exact hpm c h; exact h5 c h) (by simp; omega)
      rw [hre] at cR
      simp only at cR
      have cS := mementoref6_SameBase_con e.i.toNat e.t.toNat e.c e.d e.i e.t e.c e.d (by omega) hd1 hd1
      rw [sameB_nat hrt] at cS
      simp only [x_seq, x_skip, x_tn]
      refine aw_reg 7300 (RG.go fun Q hQ => ?_)
      simp only [RX, eff, ev_t, ev_k, lk_cons, lkE_cons, lkE_nil, setS_cons, setS_nil, setE_cons, setE_nil, AOp.isCall, setD, setEs, presOf, AOp.needs, SV.one?, SV.pre, idsOf, AOp.rds, AOp.ops, SV.ids, C.ids0, rowsOf, srcOf, Option.map_some, List.map_cons, List.map_nil, List.nil_append, List.cons_append, true_and, and_self, Bool.false_eq_true, Nat.reduceAdd, Nat.reduceEqDiff, ↓reduceIte, List.append_nil, hap]
      refine ⟨⟨brow_len _, by simp; omega⟩, ⟨brow_len _, by simp; omega⟩, hQ _ _ _ _ _ ?_⟩
      refine RG.callo [] [7348] (pack_New_con ((b ++ more).map brow) (drows_brow _) (brow_len _) (by simp; omega)) (.mk (tr_cons (tr_view (by simp) rfl (drows_brow _)) tr_nil) (trivial) (by simp) (by simp) (views1 rfl trivial) (by simp [lkE_cons, lkE_nil]) (by simp [Ent.pure]) (by simp) (by simp)) ?_
      refine RG.go fun Q hQ => ?_
      simp only [RX, eff, ev_t, lk_cons, lkE_cons, lkE_nil, setS_cons, setS_nil, setE_cons, setE_nil, AOp.isCall, setD, setEs, presOf, AOp.needs, idsOf, AOp.rds, List.drop_zero, List.length_cons, List.length_nil, List.map_cons, List.map_nil, List.nil_append, List.cons_append, true_and, Bool.false_eq_true, Nat.reduceAdd, Nat.reduceEqDiff, ↓reduceIte, Nat.zero_add, renSV, renSV1, renC, renC0, rn, renEnt, backUps, List.zip_nil_left, List.zipIdx_cons, List.zipIdx_nil, List.filterMap_cons, List.filterMap_nil, List.getElem?_nil, Nat.sub_self, Nat.sub_zero, Nat.add_zero]
      refine hQ _ _ _ _ _ (RG.nil ?_)
      simp only [x_seq, x_tn]
      refine aw_reg 7600 (RG.go fun Q hQ => ?_)
      simp only [RX, eff, ev_t, lk_cons, setS_cons, setS_nil, AOp.isCall, setD, setEs, presOf, AOp.needs, idsOf, AOp.rds, List.map_nil, List.nil_append, true_and, Bool.false_eq_true, Nat.reduceAdd, Nat.reduceEqDiff, ↓reduceIte]
      refine hQ _ _ _ _ _ ?_
      refine RG.callo [7364] [] (cR) (.mk (tr_cons (tr_bp rfl) tr_nil) (by simp only [Int.cast_ofNat_Int, TrL, TrC, TrC0, TrEnt, lkE_cons, Nat.reduceEqDiff, ↓reduceIte, and_self, exists_eq_left', Option.some.injEq, isDRows]) (by simp) (by simp) (trivial) (by simp [lkE_cons, lkE_nil]) (by simp [Ent.pure]) (by simp) (by simp)) ?_
      refine RG.go fun Q hQ => ?_
      simp only [RX, eff, ev_t, lk_cons, lkE_cons, lkE_nil, setS_cons, setS_nil, setE_cons, setE_nil, AOp.isCall, setD, setEs, presOf, AOp.needs, SV.one?, SV.pre, SV.core, SV.cells, idsOf, AOp.rds, AOp.ops, SV.ids, C.ids0, splice, List.take_zero, List.drop_succ_cons, List.drop_zero, List.length_cons, List.length_nil, List.getElem?_cons_zero, List.getElem?_cons_succ, Option.map_some, List.map_cons, List.map_nil, List.nil_append, List.cons_append, true_and, and_self, Bool.false_eq_true, Nat.reduceAdd, Nat.reduceEqDiff, ↓reduceIte, Nat.zero_add, Nat.le_refl, renSV, renSV1, renC, renC0, renEnt, backUps, List.zip_nil_right, List.zip_cons_cons, List.zipIdx_nil, List.filterMap_nil, List.append_nil, List.range_zero, Nat.sub_self, Int.cast_ofNat_Int]
      refine hQ _ _ _ _ _ (RG.nil ?_)
      simp only [x_seq, x_tn]
      refine aw_reg 7900 (RG.go fun Q hQ => ?_)
      simp only [RX, eff, ev_t, lk_cons, lkE_cons, setS_cons, setS_nil, AOp.isCall, setD, setEs, presOf, AOp.needs, SV.one?, SV.pre, gval, unV, idsOf, AOp.rds, AOp.ops, SV.ids, C.ids0, List.take_succ_cons, List.take_zero, List.drop_zero, List.length_cons, List.length_nil, Option.map_some, List.map_nil, List.nil_append, List.cons_append, true_and, and_self, Bool.and_true, Bool.false_eq_true, Bool.not_true, implies_true, Nat.reduceAdd, Nat.reduceEqDiff, ↓reduceIte, Nat.zero_add, Nat.le_refl, BEq.rfl, List.append_nil]
      refine hQ _ _ _ _ _ ?_
      refine RG.callg _ _ [] rfl (fun hg => ⟨_, cS, tr_cons (tr_opt (by simpa using hg) (tr_agg ⟨rfl, rfl, rfl, rfl, trivial⟩)) (tr_cons (tr_opt (by simpa using hg) (tr_agg ⟨rfl, rfl, rfl, rfl, trivial⟩)) tr_nil), trivial, .inl trivial⟩) ?_
      refine RG.go fun Q hQ => ?_
      simp only [RX, eff, ev_t, ev_k, lk_cons, setS_cons, setS_nil, AOp.isCall, setD, setEs, presOf, AOp.needs, SV.one?, SV.pre, gval, unV, idsOf, AOp.rds, AOp.ops, SV.ids, C.ids0, Option.map_some, List.map_nil, List.nil_append, List.cons_append, true_and, and_self, Bool.and_true, Bool.false_eq_true, Bool.not_true, implies_true, Nat.reduceAdd, Nat.reduceEqDiff, ↓reduceIte, BEq.rfl, List.append_nil, Nat.add_zero]
      refine hQ _ _ _ _ _ ?_
      refine RG.callgo true false [7364] [] rfl rfl (pack_rest_Left_con (more.map brow) 0) (.mk (tr_cons (tr_opt rfl (tr_bp rfl)) tr_nil) (by simp only [TrL, TrC, TrC0, TrEnt, lkE_cons, Nat.reduceEqDiff, ↓reduceIte, and_self, exists_eq_left', Option.some.injEq, isDRows]) (by simp) (by simp) trivial (by simp [lkE_cons, lkE_nil]) (by simp [Ent.pure]) (by simp) (by simp)) ?_
      refine RG.go fun Q hQ => ?_
      simp only [RX, eff, ev_t, ev_k, lk_cons, lkE_cons, lkE_nil, setS_cons, setS_nil, setE_cons, AOp.isCall, setD, setEs, presOf, AOp.needs, SV.one?, SV.pre, gval, binV, idsOf, AOp.rds, AOp.ops, SV.ids, C.ids0, rowsOf, List.drop_succ_cons, List.drop_zero, List.length_cons, List.length_nil, Option.map_some, List.map_cons, List.map_nil, List.nil_append, true_and, and_self, Bool.and_true, Bool.false_eq_true, implies_true, Nat.reduceAdd, Nat.reduceEqDiff, ↓reduceIte, Option.bind_some, Nat.zero_add, BEq.rfl, renSV, renSV1, renC, renC0, renEnt, backUps, List.zip_nil_right, List.zip_cons_cons, List.zipIdx_nil, List.filterMap_nil, List.append_nil, List.range_zero, Nat.sub_self]
      refine hQ _ _ _ _ _ (RG.nil ?_)
      simp only [x_tn]
      refine aw_cond _ rfl trivial (fun ht => absurd ht (by simp)) (fun hf => ?_)
      simp only [x_skip, x_tn, x_bn]
      refine aw_reg 8300 (RG.go fun Q hQ => ?_)
      simp only [RX, eff, ev_t, ev_k, lk_cons, setS_cons, setS_nil, AOp.isCall, setD, setEs, presOf, AOp.needs, SV.one?, SV.pre, binV, idsOf, AOp.rds, AOp.ops, SV.ids, C.ids0, Option.map_some, List.map_nil, List.nil_append, true_and, and_self, Bool.false_eq_true, Nat.reduceAdd, Nat.reduceEqDiff, ↓reduceIte, List.append_nil, hw3]
      refine hQ _ _ _ _ _ (RG.nil ?_)
      simp only [x_ln]
      refine ⟨⟨i + 1, hi'⟩, ?_, by simp; omega⟩
      refine Le.lit [] [] _ _ ?_ ?_ ?_ ?_
      · skip
        simp only [allL, lk_cons, lkE_cons, lkE_nil, WkSV, WkSV1, WkC, WkC0, rlook, frzEs, Nat.reduceEqDiff, ↓reduceIte, reduceCtorEq, and_true, ne_eq, not_false_eq_true]
      · skip
        simp only [allL, lkE_cons, lkE_nil, WkEnt, rlook, frzEs, isDRows, Option.some.injEq, Nat.reduceEqDiff, ↓reduceIte, reduceCtorEq, true_and, and_true, exists_eq_left', ne_eq, true_or]
        exact ⟨⟨rfl, rfl, rfl, rfl, trivial⟩, bnrow_data _⟩
      · simp [rlook]
      · simp
    have hi' : i < es.length := by simpa using ht
    have hw2 : IntKind.i64.wrap ((i : Int) + 1) = ((i + 1 : Nat) : Int) := by rw [w64 _ (by omega) (by omega)]; rfl
    have hr : (List.map erow es)[(i : Int).toNat]?.getD [] = entC es[i].i es[i].t es[i].k es[i].d := by simp [hi', erow]
    obtain ⟨hd1, hd2⟩ := hes _ (List.getElem_mem hi')
    generalize es[i] = e at *
    have hpl := putE_len (i := e.i) (t := e.t) (k := e.k) (d := e.d)
    have hpm := putE_mem (i := e.i) (t := e.t) (k := e.k) hd1
    have hpr : putE e.i e.t e.k e.d ≠ [] → entryRight e.i e.t e.k e.d = true := fun h => by
      cases hh : entryRight e.i e.t e.k e.d with
      | true => rfl
      | false => exact absurd (by simp [putE, hh]) h
    have hrd : entryRight e.i e.t e.k e.d = true → readE (putE e.i e.t e.k e.d ++ more) 0 = ⟨e.i.toNat, e.t.toNat, e.k.toNat, e.d, true, more, 0⟩ := readE_putE
    have cP := entry_Put_con e.i e.t e.k e.d
    have cQ := mementoref6_PutEntry_con e.i e.t e.k e.d
    generalize putE e.i e.t e.k e.d = b at *
    simp only [x_seq, x_block, x_skip, x_tn]
    refine aw_reg 2400 (RG.go fun Q hQ => ?_)
    simp only [RX, eff, ev_t, lk_cons, lkE_cons, lkE_nil, setS_cons, setS_nil, setE_cons, setE_nil, AOp.isCall, setD, setEs, presOf, AOp.needs, SV.one?, SV.pre, SV.cells, idsOf, AOp.rds, AOp.ops, SV.ids, C.ids0, splice, List.take_succ_cons, List.take_zero, List.drop_succ_cons, List.drop_zero, List.length_cons, List.length_nil, List.map_cons, List.map_nil, List.nil_append, List.cons_append, and_true, true_and, and_self, Bool.false_eq_true, Nat.reduceAdd, Nat.reduceEqDiff, ↓reduceIte, Nat.zero_add, Nat.le_refl, List.append_nil, hr]
    refine ⟨⟨by omega, by simp; omega⟩, by simp; omega, hQ _ _ _ _ _ (RG.nil ?_)⟩
    simp only [x_seq, x_tn]
    refine aw_draw 2600 (RG.go fun Q hQ => ?_)
    simp only [RX, eff, ev_t, lk_cons, lkE_cons, setS_cons, setS_nil, AOp.isCall, setD, setEs, presOf, AOp.needs, SV.one?, SV.pre, idsOf, AOp.rds, AOp.ops, SV.ids, C.ids0, List.take_succ_cons, List.take_zero, List.drop_zero, List.length_cons, List.length_nil, List.map_nil, List.nil_append, List.cons_append, true_and, and_self, Bool.false_eq_true, Nat.reduceAdd, Nat.reduceEqDiff, ↓reduceIte, Nat.zero_add, Nat.le_refl, List.append_nil]
    refine hQ _ _ _ _ _ ?_
    refine RG.call [] (cP) (tr_cons (tr_agg ⟨rfl, rfl, rfl, rfl, trivial⟩) tr_nil) (trivial) (.inr ⟨rfl, trivial⟩) ?_
    refine RG.go fun Q hQ => ?_
    simp only [RX, eff, ev_t, lk_cons, lkE_cons, setS_cons, setS_nil, AOp.isCall, setD, setEs, presOf, AOp.needs, SV.one?, SV.pre, idsOf, AOp.rds, AOp.ops, SV.ids, C.ids0, List.take_succ_cons, List.take_zero, List.drop_zero, List.length_cons, List.length_nil, List.map_nil, List.nil_append, List.cons_append, true_and, and_self, Bool.false_eq_true, Nat.reduceAdd, Nat.reduceEqDiff, ↓reduceIte, Nat.zero_add, Nat.le_refl, List.append_nil]
    refine hQ _ _ _ _ _ ?_
    refine RG.call [] (cQ) (tr_cons (tr_agg ⟨rfl, rfl, rfl, rfl, trivial⟩) tr_nil) (trivial) (.inr ⟨rfl, trivial⟩) ?_
    refine RG.go fun Q hQ => ?_
    simp only [RX, eff, ev_t, lk_cons, setS_cons, setS_nil, AOp.isCall, setD, setEs, presOf, AOp.needs, idsOf, AOp.rds, List.map_nil, List.nil_append, true_and, Bool.false_eq_true, Nat.reduceAdd, Nat.reduceEqDiff, ↓reduceIte]
    refine hQ _ _ _ _ _ (RG.nil ⟨by decide, ?_⟩)
    simp only [x_seq, x_tn]
    refine aw_draw 2900 (RG.go fun Q hQ => ?_)
    simp only [RX, eff, ev_t, lk_cons, lkE_cons, setS_cons, setS_nil, AOp.isCall, setD, setEs, presOf, AOp.needs, SV.one?, SV.pre, gval, binV, idsOf, AOp.rds, AOp.ops, SV.ids, C.ids0, rowsOf, List.take_succ_cons, List.take_zero, List.drop_zero, List.length_cons, List.length_nil, Option.map_some, List.map_nil, List.nil_append, List.cons_append, true_and, and_self, Bool.and_true, Bool.false_eq_true, Bool.not_true, implies_true, Nat.reduceAdd, Nat.reduceEqDiff, ↓reduceIte, Option.bind_some, Nat.zero_add, Nat.le_refl, BEq.rfl, List.append_nil, erow, entC]
    refine ⟨isByteRow_brow _, isByteRow_brow _, hQ _ _ _ _ _ ?_⟩
    refine RG.callg _ _ [] rfl (fun hg => ⟨_, entry_Right_con e.i e.t e.k e.d, tr_cons (tr_opt (by simpa using hg) (tr_agg ⟨rfl, rfl, rfl, rfl, trivial⟩)) tr_nil, trivial, .inl trivial⟩) ?_
    refine RG.go fun Q hQ => ?_
    simp only [RX, eff, ev_t, lk_cons, lkE_cons, setS_cons, setS_nil, AOp.isCall, setD, presOf, AOp.needs, SV.one?, SV.pre, gval, idsOf, AOp.rds, AOp.ops, SV.ids, C.ids0, List.take_succ_cons, List.take_zero, List.drop_zero, List.length_cons, List.length_nil, List.nil_append, List.cons_append, true_and, and_self, Bool.and_true, Bool.false_eq_true, implies_true, Nat.reduceAdd, Nat.reduceEqDiff, ↓reduceIte, Nat.zero_add, Nat.le_refl, BEq.rfl, List.append_nil]
    refine hQ _ _ _ _ _ ?_
    refine RG.callg _ _ [] rfl (fun hg => ⟨_, mementoref6_EntryRight_con e.i e.t e.k e.d, tr_cons (tr_opt (by simpa using hg) (tr_agg ⟨rfl, rfl, rfl, rfl, trivial⟩)) tr_nil, trivial, .inl trivial⟩) ?_
    refine RG.go fun Q hQ => ?_
    simp only [RX, eff, ev_t, ev_k, lk_cons, lkE_cons, setS_cons, setS_nil, AOp.isCall, setD, setEs, presOf, AOp.needs, SV.one?, SV.pre, gval, binV, idsOf, AOp.rds, AOp.ops, SV.ids, C.ids0, List.take_succ_cons, List.take_zero, List.drop_zero, List.length_cons, List.length_nil, Option.map_some, List.map_nil, List.nil_append, List.cons_append, true_and, and_self, Bool.and_true, Bool.false_eq_true, Bool.not_true, implies_true, Nat.reduceAdd, Nat.reduceEqDiff, ↓reduceIte, Nat.zero_add, Nat.le_refl, BEq.rfl, List.append_nil]
    refine hQ _ _ _ _ _ ?_
    refine RG.callg _ _ [] rfl (fun hg => ⟨_, entry_Same_con e.i e.t e.k e.d raw.i raw.t raw.k raw.d hd1 h1, tr_cons (tr_opt (by simpa using hg) (tr_agg ⟨rfl, rfl, rfl, rfl, trivial⟩)) (tr_cons (tr_opt (by simpa using hg) (tr_agg ⟨rfl, rfl, rfl, rfl, trivial⟩)) tr_nil), trivial, .inl trivial⟩) ?_
    refine RG.go fun Q hQ => ?_
    simp only [RX, eff, ev_t, lk_cons, lkE_cons, setS_cons, setS_nil, AOp.isCall, setD, presOf, AOp.needs, SV.one?, SV.pre, gval, idsOf, AOp.rds, AOp.ops, SV.ids, C.ids0, List.take_succ_cons, List.take_zero, List.drop_zero, List.length_cons, List.length_nil, List.nil_append, List.cons_append, true_and, and_self, Bool.and_true, Bool.false_eq_true, implies_true, Nat.reduceAdd, Nat.reduceEqDiff, ↓reduceIte, Nat.zero_add, Nat.le_refl, BEq.rfl, List.append_nil]
    refine hQ _ _ _ _ _ ?_
    refine RG.callg _ _ [] rfl (fun hg => ⟨_, mementoref6_SameEntry_con e.i e.t e.k e.d raw.i raw.t raw.k raw.d hd1 h1, tr_cons (tr_opt (by simpa using hg) (tr_agg ⟨rfl, rfl, rfl, rfl, trivial⟩)) (tr_cons (tr_opt (by simpa using hg) (tr_agg ⟨rfl, rfl, rfl, rfl, trivial⟩)) tr_nil), trivial, .inl trivial⟩) ?_
    refine RG.go fun Q hQ => ?_
    simp only [RX, eff, ev_t, ev_k, lk_cons, setS_cons, setS_nil, AOp.isCall, setD, setEs, presOf, AOp.needs, SV.one?, SV.pre, gval, binV, idsOf, AOp.rds, AOp.ops, SV.ids, C.ids0, Option.map_some, List.map_nil, List.nil_append, true_and, and_self, Bool.and_true, Bool.false_eq_true, Bool.not_true, implies_true, Nat.reduceAdd, Nat.reduceEqDiff, ↓reduceIte, BEq.rfl, List.append_nil]
    refine hQ _ _ _ _ _ (RG.nil ⟨by decide, ?_⟩)
    simp only [x_tn]
    refine aw_cond _ rfl trivial (fun ht => by cases ht) (fun hf => ?_)
    simp only [x_seq, x_skip, x_tn]
    refine aw_reg 3100 (RG.go fun Q hQ => ?_)
    simp only [RX, eff, ev_t, ev_k, lk_cons, setS_cons, setS_nil, AOp.isCall, setD, setEs, presOf, AOp.needs, SV.one?, SV.pre, binV, idsOf, AOp.rds, AOp.ops, SV.ids, C.ids0, rowsOf, Option.map_some, List.map_nil, List.nil_append, true_and, and_self, Bool.false_eq_true, Nat.reduceAdd, Nat.reduceEqDiff, ↓reduceIte, Option.bind_some, List.append_nil]
    refine hQ _ _ _ _ _ (RG.nil ?_)
    simp only [x_tn]
    refine aw_cond _ rfl trivial (fun ht => ?_) (fun hf => ?_)
    · skip
      simp only [x_exit, x_tn, x_tx, x_bx, ↓reduceIte]
      refine aw_reg 4300 (RG.go fun Q hQ => ?_)
      simp only [RX, eff, ev_t, ev_k, lk_cons, setS_cons, setS_nil, AOp.isCall, setD, setEs, presOf, AOp.needs, SV.one?, SV.pre, binV, idsOf, AOp.rds, AOp.ops, SV.ids, C.ids0, Option.map_some, List.map_nil, List.nil_append, true_and, and_self, Bool.false_eq_true, Nat.reduceAdd, Nat.reduceEqDiff, ↓reduceIte, List.append_nil, hw2]
      refine hQ _ _ _ _ _ (RG.nil ?_)
      simp only [x_ln]
      refine ⟨⟨i + 1, hi'⟩, ?_, by simp; omega⟩
      refine Le.lit [] [] _ _ ?_ ?_ ?_ ?_
      · skip
        simp only [allL, lk_cons, lkE_cons, lkE_nil, WkSV, WkSV1, WkC, WkC0, rlook, frzEs, Nat.reduceEqDiff, ↓reduceIte, reduceCtorEq, and_true, ne_eq, not_false_eq_true]
      · skip
        simp only [allL, lkE_cons, lkE_nil, WkEnt, rlook, frzEs, isDRows, Option.some.injEq, Nat.reduceEqDiff, ↓reduceIte, reduceCtorEq, true_and, and_true, exists_eq_left', ne_eq, true_or]
        exact ⟨⟨rfl, rfl, rfl, rfl, trivial⟩, ⟨rfl, rfl, rfl, rfl, trivial⟩, erow_data _⟩
      · simp [rlook]
      · simp
    have hbn : b ≠ [] := by rintro rfl; simp at hf
    have hrt := hpr hbn
    have hre := hrd hrt
    have hap : List.map brow b ++ List.map brow more = List.map brow (b ++ more) := (List.map_append ..).symm
    have cR := entry_Read_con (b ++ more) 0 (fun c hc => by rcases List.mem_append.1 hc with h | h; exact hpm c h; exact h5 c h) (by simp; omega)
    rw [hre] at cR
    simp only at cR
    have cS := mementoref6_SameEntry_con e.i.toNat e.t.toNat e.k.toNat e.d e.i e.t e.k e.d hd1 hd1
    rw [sameE_nat hrt] at cS
    simp only [x_seq, x_skip, x_tn]
    refine aw_reg 3300 (RG.go fun Q hQ => ?_)
    simp only [RX, eff, ev_t, ev_k, lk_cons, lkE_cons, lkE_nil, setS_cons, setS_nil, setE_cons, setE_nil, AOp.isCall, setD, setEs, presOf, AOp.needs, SV.one?, SV.pre, idsOf, AOp.rds, AOp.ops, SV.ids, C.ids0, rowsOf, srcOf, Option.map_some, List.map_cons, List.map_nil, List.nil_append, List.cons_append, true_and, and_self, Bool.false_eq_true, Nat.reduceAdd, Nat.reduceEqDiff, ↓reduceIte, List.append_nil, hap]
    refine ⟨⟨brow_len _, by simp; omega⟩, ⟨brow_len _, by simp; omega⟩, hQ _ _ _ _ _ ?_⟩
    refine RG.callo [] [3348] (pack_New_con ((b ++ more).map brow) (drows_brow _) (brow_len _) (by simp; omega)) (.mk (tr_cons (tr_view (by simp) rfl (drows_brow _)) tr_nil) (trivial) (by simp) (by simp) (views1 rfl trivial) (by simp [lkE_cons, lkE_nil]) (by simp [Ent.pure]) (by simp) (by simp)) ?_
    refine RG.go fun Q hQ => ?_
    simp only [RX, eff, ev_t, lk_cons, lkE_cons, lkE_nil, setS_cons, setS_nil, setE_cons, setE_nil, AOp.isCall, setD, setEs, presOf, AOp.needs, idsOf, AOp.rds, List.drop_zero, List.length_cons, List.length_nil, List.map_cons, List.map_nil, List.nil_append, List.cons_append, true_and, Bool.false_eq_true, Nat.reduceAdd, Nat.reduceEqDiff, ↓reduceIte, Nat.zero_add, renSV, renSV1, renC, renC0, rn, renEnt, backUps, List.zip_nil_left, List.zipIdx_cons, List.zipIdx_nil, List.filterMap_cons, List.filterMap_nil, List.getElem?_nil, Nat.sub_self, Nat.sub_zero, Nat.add_zero]
    refine hQ _ _ _ _ _ (RG.nil ?_)
    simp only [x_seq, x_tn]
    refine aw_reg 3600 (RG.go fun Q hQ => ?_)
    simp only [RX, eff, ev_t, lk_cons, setS_cons, setS_nil, AOp.isCall, setD, setEs, presOf, AOp.needs, idsOf, AOp.rds, List.map_nil, List.nil_append, true_and, Bool.false_eq_true, Nat.reduceAdd, Nat.reduceEqDiff, ↓reduceIte]
    refine hQ _ _ _ _ _ ?_
    refine RG.callo [3364] [] (cR) (.mk (tr_cons (tr_bp rfl) tr_nil) (by simp only [Int.cast_ofNat_Int, TrL, TrC, TrC0, TrEnt, lkE_cons, Nat.reduceEqDiff, ↓reduceIte, and_self, exists_eq_left', Option.some.injEq, isDRows]) (by simp) (by simp) (trivial) (by simp [lkE_cons, lkE_nil]) (by simp [Ent.pure]) (by simp) (by simp)) ?_
    refine RG.go fun Q hQ => ?_
    simp only [RX, eff, ev_t, lk_cons, lkE_cons, lkE_nil, setS_cons, setS_nil, setE_cons, setE_nil, AOp.isCall, setD, setEs, presOf, AOp.needs, SV.one?, SV.pre, SV.core, SV.cells, idsOf, AOp.rds, AOp.ops, SV.ids, C.ids0, splice, List.take_zero, List.drop_succ_cons, List.drop_zero, List.length_cons, List.length_nil, List.getElem?_cons_zero, List.getElem?_cons_succ, Option.map_some, List.map_cons, List.map_nil, List.nil_append, List.cons_append, true_and, and_self, Bool.false_eq_true, Nat.reduceAdd, Nat.reduceEqDiff, ↓reduceIte, Nat.zero_add, Nat.le_refl, renSV, renSV1, renC, renC0, renEnt, backUps, List.zip_nil_right, List.zip_cons_cons, List.zipIdx_nil, List.filterMap_nil, List.append_nil, List.range_zero, Nat.sub_self, Int.cast_ofNat_Int]
    refine hQ _ _ _ _ _ (RG.nil ?_)
    simp only [x_seq, x_tn]
    refine aw_reg 3900 (RG.go fun Q hQ => ?_)
    simp only [RX, eff, ev_t, lk_cons, lkE_cons, setS_cons, setS_nil, AOp.isCall, setD, setEs, presOf, AOp.needs, SV.one?, SV.pre, gval, unV, idsOf, AOp.rds, AOp.ops, SV.ids, C.ids0, List.take_succ_cons, List.take_zero, List.drop_zero, List.length_cons, List.length_nil, Option.map_some, List.map_nil, List.nil_append, List.cons_append, true_and, and_self, Bool.and_true, Bool.false_eq_true, Bool.not_true, implies_true, Nat.reduceAdd, Nat.reduceEqDiff, ↓reduceIte, Nat.zero_add, Nat.le_refl, BEq.rfl, List.append_nil]
    refine hQ _ _ _ _ _ ?_
    refine RG.callg _ _ [] rfl (fun hg => ⟨_, cS, tr_cons (tr_opt (by simpa using hg) (tr_agg ⟨rfl, rfl, rfl, rfl, trivial⟩)) (tr_cons (tr_opt (by simpa using hg) (tr_agg ⟨rfl, rfl, rfl, rfl, trivial⟩)) tr_nil), trivial, .inl trivial⟩) ?_
    refine RG.go fun Q hQ => ?_
    simp only [RX, eff, ev_t, ev_k, lk_cons, setS_cons, setS_nil, AOp.isCall, setD, setEs, presOf, AOp.needs, SV.one?, SV.pre, gval, unV, idsOf, AOp.rds, AOp.ops, SV.ids, C.ids0, Option.map_some, List.map_nil, List.nil_append, List.cons_append, true_and, and_self, Bool.and_true, Bool.false_eq_true, Bool.not_true, implies_true, Nat.reduceAdd, Nat.reduceEqDiff, ↓reduceIte, BEq.rfl, List.append_nil, Nat.add_zero]
    refine hQ _ _ _ _ _ ?_
    refine RG.callgo true false [3364] [] rfl rfl (pack_rest_Left_con (more.map brow) 0) (.mk (tr_cons (tr_opt rfl (tr_bp rfl)) tr_nil) (by simp only [TrL, TrC, TrC0, TrEnt, lkE_cons, Nat.reduceEqDiff, ↓reduceIte, and_self, exists_eq_left', Option.some.injEq, isDRows]) (by simp) (by simp) trivial (by simp [lkE_cons, lkE_nil]) (by simp [Ent.pure]) (by simp) (by simp)) ?_
    refine RG.go fun Q hQ => ?_
    simp only [RX, eff, ev_t, ev_k, lk_cons, lkE_cons, lkE_nil, setS_cons, setS_nil, setE_cons, AOp.isCall, setD, setEs, presOf, AOp.needs, SV.one?, SV.pre, gval, binV, idsOf, AOp.rds, AOp.ops, SV.ids, C.ids0, rowsOf, List.drop_succ_cons, List.drop_zero, List.length_cons, List.length_nil, Option.map_some, List.map_cons, List.map_nil, List.nil_append, true_and, and_self, Bool.and_true, Bool.false_eq_true, implies_true, Nat.reduceAdd, Nat.reduceEqDiff, ↓reduceIte, Option.bind_some, Nat.zero_add, BEq.rfl, renSV, renSV1, renC, renC0, renEnt, backUps, List.zip_nil_right, List.zip_cons_cons, List.zipIdx_nil, List.filterMap_nil, List.append_nil, List.range_zero, Nat.sub_self]
    refine hQ _ _ _ _ _ (RG.nil ?_)
    simp only [x_tn]
    refine aw_cond _ rfl trivial (fun ht => absurd ht (by simp)) (fun hf => ?_)
    simp only [x_skip, x_tn, x_bn]
    refine aw_reg 4300 (RG.go fun Q hQ => ?_)
    simp only [RX, eff, ev_t, ev_k, lk_cons, setS_cons, setS_nil, AOp.isCall, setD, setEs, presOf, AOp.needs, SV.one?, SV.pre, binV, idsOf, AOp.rds, AOp.ops, SV.ids, C.ids0, Option.map_some, List.map_nil, List.nil_append, true_and, and_self, Bool.false_eq_true, Nat.reduceAdd, Nat.reduceEqDiff, ↓reduceIte, List.append_nil, hw2]
    refine hQ _ _ _ _ _ (RG.nil ?_)
    simp only [x_ln]
    refine ⟨⟨i + 1, hi'⟩, ?_, by simp; omega⟩
    refine Le.lit [] [] _ _ ?_ ?_ ?_ ?_
    · skip
      simp only [allL, lk_cons, lkE_cons, lkE_nil, WkSV, WkSV1, WkC, WkC0, rlook, frzEs, Nat.reduceEqDiff, ↓reduceIte, reduceCtorEq, and_true, ne_eq, not_false_eq_true]
    · skip
      simp only [allL, lkE_cons, lkE_nil, WkEnt, rlook, frzEs, isDRows, Option.some.injEq, Nat.reduceEqDiff, ↓reduceIte, reduceCtorEq, true_and, and_true, exists_eq_left', ne_eq, true_or]
      exact ⟨⟨rfl, rfl, rfl, rfl, trivial⟩, ⟨rfl, rfl, rfl, rfl, trivial⟩, erow_data _⟩
    · simp [rlook]
    · simp

  refine aw_cond _ rfl trivial (fun ht => ?_) (fun hf => ?_)
  rotate_left
  · skip
    simp only [x_skip, x_tn]
    refine ⟨raw :: ents, _, _, fun e he => ?_, by simp; omega, rfl, ?_⟩
    · rcases List.mem_cons.1 he with h | h
      · rw [h]; exact ⟨h1, by omega⟩
      · exact ⟨(hed e h).1, by have := (hed e h).2; omega⟩
    simp only [setS_cons, setS_nil, List.map_cons, reduceCtorEq, Nat.reduceEqDiff, ↓reduceIte]
    refine Le.lit [] [(1000, 592)] _ _ ?_ ?_ ?_ ?_
    · skip
      simp only [allL, lk_cons, lkE_cons, lkE_nil, WkSV, WkSV1, WkC, WkC0, rlook, frzEs, Nat.reduceEqDiff, ↓reduceIte, reduceCtorEq, and_true, ne_eq, not_false_eq_true]
    · skip
      simp only [allL, lkE_cons, lkE_nil, WkEnt, rlook, frzEs, isDRows, Option.some.injEq, Nat.reduceEqDiff, ↓reduceIte, reduceCtorEq, true_and, and_true, exists_eq_left', ne_eq, true_or]
      exact ⟨⟨rfl, rfl, rfl, rfl, trivial⟩, ⟨rfl, rfl, rfl, rfl, trivial⟩, rfl, erow_data (raw :: ents)⟩
    · simp [rlook]
    · simp
  have hl0 : 0 < l.length := by simpa using ht
  obtain ⟨e1, rest, rfl⟩ : ∃ e1 rest, ents = e1 :: rest := by cases ents with
    | nil => simp at hel; omega
    | cons a b => exact ⟨a, b, rfl⟩
  refine aw_draw 900 (RG.go fun Q hQ => ?_)
  simp only [RX, eff, ev_t, ev_k, lk_cons, lkE_cons, setS_cons, setS_nil, AOp.isCall, setD, setEs, presOf, AOp.needs, SV.one?, SV.pre, idsOf, AOp.rds, AOp.ops, SV.ids, C.ids0, Option.getD_some, List.take_succ_cons, List.take_zero, List.drop_zero, List.length_cons, List.getElem?_cons_zero, List.getElem?_cons_succ, List.map_cons, List.map_nil, List.nil_append, List.cons_append, and_true, true_and, and_self, Bool.false_eq_true, reduceCtorEq, Nat.reduceAdd, Nat.reduceEqDiff, Int.reduceToNat, ↓reduceIte, Nat.zero_add, Nat.le_refl, List.append_nil, Int.reduceLE, List.map_cons, erow, entC]
  refine ⟨by simp; omega, by simp, ?_⟩
  have hd1 := hed e1 (by simp)
  have hb1 := bentS_data (what := what) (v := v) (e := e1) ⟨hd1.1, by omega⟩
  refine hQ _ _ _ _ _ ?_
  refine RG.call [] (bent_con e1 what v) (tr_cons (tr_agg ⟨rfl, rfl, rfl, rfl, trivial⟩) (tr_cons tr_v (tr_cons tr_v tr_nil))) (trivial) (.inr ⟨erow_pure _, trivial⟩) ?_
  refine RG.go fun Q hQ => ?_
  simp only [RX, eff, ev_t, ev_k, lk_cons, lkE_cons, setS_cons, setS_nil, AOp.isCall, setD, setEs, presOf, AOp.needs, SV.one?, SV.pre, binV, idsOf, AOp.rds, AOp.ops, SV.ids, C.ids0, Option.getD_some, List.take_succ_cons, List.take_zero, List.drop_zero, List.length_cons, List.getElem?_cons_zero, List.getElem?_cons_succ, Option.map_some, List.map_nil, List.nil_append, List.cons_append, and_true, true_and, and_self, Bool.false_eq_true, reduceCtorEq, Nat.reduceAdd, Nat.reduceEqDiff, Int.reduceToNat, ↓reduceIte, Nat.zero_add, Nat.le_refl, List.append_nil, Int.reduceLE]
  refine ⟨by simp; omega, by simp, ?_⟩
  refine hQ _ _ _ _ _ ?_
  refine RG.call [] (bent_con e1 what _) (tr_cons (tr_agg ⟨rfl, rfl, rfl, rfl, trivial⟩) (tr_cons tr_v (tr_cons tr_v tr_nil))) (trivial) (.inr ⟨erow_pure _, trivial⟩) ?_
  refine RG.go fun Q hQ => ?_
  simp only [RX, eff, ev_t, lk_cons, lkE_cons, lkE_nil, setS_cons, setS_nil, AOp.isCall, setD, setEs, presOf, AOp.needs, SV.one?, SV.pre, SV.cells, idsOf, AOp.rds, AOp.ops, SV.ids, C.ids0, rowsOf, srcOf, bSRows, List.map_nil, List.nil_append, List.cons_append, and_true, true_and, and_self, Bool.false_eq_true, reduceCtorEq, Nat.reduceAdd, Nat.reduceEqDiff, ↓reduceIte, List.append_nil]
  simp only [show ∀ e : EN, (erow e).length = 4 from fun _ => rfl, lkE_cons, lkE_nil, setE_cons, setE_nil, setEs, SV.one?, SV.pre, SV.ids, C.ids0, List.length_cons, List.length_nil, Option.map_some, List.map_cons, List.map_nil, List.nil_append, List.cons_append, true_and, and_self, Nat.reduceAdd, Nat.reduceEqDiff, ↓reduceIte, Nat.zero_add]
  have hb2 := bentS_data (what := what) (v := bitsI .and .i64 v 7) (e := e1) ⟨hd1.1, by omega⟩
  generalize bitsI .and .i64 v 7 = v7 at *
  refine ⟨⟨fun q hq => by simp only [List.mem_cons, List.not_mem_nil, or_false] at hq; rcases hq with h | h <;> rw [h] <;> rfl, by simp at hel ⊢; omega⟩, hQ _ _ _ _ _ (RG.nil ⟨by decide, ?_⟩)⟩
  simp only [x_tn]
  refine ⟨raw :: e1 :: (rest ++ [bentS e1 what v, bentS e1 what v7]), _, _, fun e he => ?_, by simp at hel ⊢; omega, rfl, ?_⟩
  · simp only [List.mem_cons, List.mem_append, List.not_mem_nil, or_false] at he
    rcases he with h | h | h | h | h
    · rw [h]; exact ⟨h1, by omega⟩
    · rw [h]; exact ⟨hd1.1, by omega⟩
    · have := hed e (by simp [h]); exact ⟨this.1, by omega⟩
    · rw [h]; exact hb1
    · rw [h]; exact hb2
  simp only [setS_cons, setS_nil, List.map_cons, reduceCtorEq, Nat.reduceEqDiff, ↓reduceIte]
  refine Le.lit [] [(1000, 1140)] _ _ ?_ ?_ ?_ ?_
  · skip
    simp only [allL, lk_cons, lkE_cons, lkE_nil, WkSV, WkSV1, WkC, WkC0, rlook, frzEs, Nat.reduceEqDiff, ↓reduceIte, reduceCtorEq, and_true, ne_eq, not_false_eq_true]
  · skip
    simp only [allL, lkE_cons, lkE_nil, WkEnt, rlook, frzEs, isDRows, Option.some.injEq, Nat.reduceEqDiff, ↓reduceIte, reduceCtorEq, true_and, and_true, exists_eq_left', ne_eq, true_or]
    exact ⟨⟨rfl, rfl, rfl, rfl, trivial⟩, ⟨rfl, rfl, rfl, rfl, trivial⟩, by simp [erow, entC], erow_data (raw :: e1 :: (rest ++ [bentS e1 what v, bentS e1 what v7]))⟩
  · simp [rlook]
  · simp

end Go.Abs
