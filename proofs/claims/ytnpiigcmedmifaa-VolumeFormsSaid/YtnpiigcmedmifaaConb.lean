/- What the functions that the law comes to do, part 2. No condition. -/
import Derived.Test.YtnpiigcmedmifaaCona
set_option linter.unusedVariables false
set_option linter.unusedSimpArgs false
set_option linter.unnecessarySimpa false
namespace Go.Abs
open Go Go.Proofs
set_option maxRecDepth 100000
set_option linter.unusedSimpArgs false
set_option maxHeartbeats 4000000

def repC (code len floor next : Int) (d : List Nat) : List C := [.v (.int .i64 code), .v (.int .i64 len), .v (.int .i64 floor), .v (.int .i64 next), .sl (d.map brow)]
structure DO where
  v : VOL
  e : Int
  len : Int
  floor : Int
  next : Int
def fail (v : VOL) (e : Int) : DO := ⟨v, e, 0, 0, 0⟩
def done (v : VOL) : DO := ⟨v, 0, lenV v, v.floor, v.next⟩
def doPut (v : VOL) (l : List IT) : DO := if v.hid = true then fail v 28 else if itemsR v.blocks v.size l = true then done (addW v l) else fail v 23

theorem vC_eq (v : VOL) : volC v = [.v (.int .i64 v.id), .v (.int .i64 v.blocks), .v (.int .i64 v.size), .v (.int .i64 v.per), .sl (v.place.map nrow), .v (.int .i64 v.total), .v (.int .i64 v.next), .v (.bool v.hid), .v (.int .i64 v.floor), .sl (v.pins.map nrow), .sl (v.ws.map wrow)] := rfl

theorem volume_Do_put (v : VOL) (c : CMD) (ok : Vok v) (hk : c.kind = 2) (hl : c.items.length ≤ 1000000) (hd : ∀ x ∈ c.items, x.d.length ≤ 1000000) :
    Con Try.prog 18 [.agg (volC v), .agg (cmdC c)] [] (.tup [.agg (volC (doPut v c.items).v), .agg (repC (doPut v c.items).e (doPut v c.items).len (doPut v c.items).floor (doPut v c.items).next [])]) [] := by
  have ok' := ok
  obtain ⟨ok1, ok2, ok3, ok4⟩ := ok
  refine C_volume_Do (Nat.le_of_ble_eq_true rfl) (Nat.le_of_ble_eq_true rfl) ?_
  simp only [A_volume_Do, argL, objL, List.length_nil, Nat.zero_add, x_seq]
  refine aw_reg 16 (RG.go fun Q hQ => ?_)
  simp only [RX, eff, ev_t, lk_cons, lkE_cons, lkE_nil, setS_cons, setS_nil, setE_cons, setE_nil, AOp.isCall, setD, setEs, presOf, AOp.needs, SV.pre, SV.cells, idsOf, AOp.rds, AOp.ops, SV.ids, List.map_cons, List.map_nil, List.nil_append, true_and, and_self, Bool.false_eq_true, reduceCtorEq, Nat.reduceAdd, Nat.reduceEqDiff, ↓reduceIte, List.append_nil, vC_eq, cmdC, cC, hk]
  repeat refine ⟨by (first | omega | (simp; omega) | (simp; done) | exact ⟨by omega, by omega⟩ | exact ⟨by omega, by simp; omega⟩ | exact ⟨by simp; omega, by simp; omega⟩ | exact ⟨by simp, by simp; omega⟩ | (intro h; rw [h]; rfl) | (intro h; refine ⟨fun h2 => ?_, h⟩; rw [h, h2]; rfl) | (intro h; refine ⟨?_, h⟩; simp [inR] at h; omega) | (intro h; simp [inR] at h; omega) | assumption), ?_⟩
  refine hQ _ _ _ _ _ (RG.nil ?_)
  try simp only [x_seq, x_tn]
  refine aw_reg 112 (RG.go fun Q hQ => ?_)
  simp only [RX, eff, ev_t, lk_cons, lkE_cons, setS_cons, setS_nil, AOp.isCall, setD, setEs, presOf, AOp.needs, SV.one?, SV.pre, idsOf, AOp.rds, AOp.ops, SV.ids, C.ids0, List.take_succ_cons, List.take_zero, List.drop_zero, List.length_cons, List.length_nil, List.map_nil, List.nil_append, List.cons_append, true_and, and_self, Bool.false_eq_true, reduceCtorEq, Nat.reduceAdd, Nat.reduceEqDiff, ↓reduceIte, Nat.zero_add, Nat.le_refl, List.append_nil]
  repeat refine ⟨by (first | omega | (simp; omega) | (simp; done) | exact ⟨by omega, by omega⟩ | exact ⟨by omega, by simp; omega⟩ | exact ⟨by simp; omega, by simp; omega⟩ | exact ⟨by simp, by simp; omega⟩ | (intro h; rw [h]; rfl) | (intro h; refine ⟨fun h2 => ?_, h⟩; rw [h, h2]; rfl) | (intro h; refine ⟨?_, h⟩; simp [inR] at h; omega) | (intro h; simp [inR] at h; omega) | assumption), ?_⟩
  refine hQ _ _ _ _ _ ?_
  refine RG.callo [] [] (volume_copied_con v ok') (.mk (by (repeat' (first | exact tr_nil | refine tr_cons ?_ ?_ | exact tr_v | exact tr_bp rfl | exact tr_osl rfl | exact tr_sl | exact tr_nils | exact tr_agg (by repeat' (first | exact trivial | rfl | exact rfl | refine ⟨?_, ?_⟩)) | exact tr_opt (by simpa using hg) tr_v | exact tr_opt (by simpa using hg) tr_sl | exact tr_opt (by simpa using hg) (tr_agg (by repeat' (first | exact trivial | rfl | exact rfl | refine ⟨?_, ?_⟩)))))) (by first | trivial | (simp only [Int.cast_ofNat_Int, setEs, setE_cons, setE_nil, TrL, TrSV, TrC, TrC0, TrEnt, Views, Frozen, lk_cons, lk_nil, lkE_cons, lkE_nil, ev_t, ev_k, List.map_cons, List.map_nil, List.getElem?_cons_zero, List.getElem?_cons_succ, List.getElem?_nil, List.mem_cons, List.not_mem_nil, or_false, false_or, or_true, true_or, Nat.reduceEqDiff, Nat.reduceAdd, ↓reduceIte, if_true, if_false, reduceCtorEq, true_and, and_true, and_self, exists_eq_left, exists_eq_left', ne_eq, not_false_eq_true, Option.some.injEq, Ent.arr.injEq, Ent.box.injEq, List.length_cons, List.length_nil, isDRows, List.append_nil, List.nil_append]; done) | (simp only [Int.cast_ofNat_Int, setEs, setE_cons, setE_nil, TrL, TrSV, TrC, TrC0, TrEnt, Views, Frozen, lk_cons, lk_nil, lkE_cons, lkE_nil, ev_t, ev_k, List.map_cons, List.map_nil, List.getElem?_cons_zero, List.getElem?_cons_succ, List.getElem?_nil, List.mem_cons, List.not_mem_nil, or_false, false_or, or_true, true_or, Nat.reduceEqDiff, Nat.reduceAdd, ↓reduceIte, if_true, if_false, reduceCtorEq, true_and, and_true, and_self, exists_eq_left, exists_eq_left', ne_eq, not_false_eq_true, Option.some.injEq, Ent.arr.injEq, Ent.box.injEq, List.length_cons, List.length_nil, isDRows, List.append_nil, List.nil_append]; trivial) | (simp only [Int.cast_ofNat_Int, setEs, setE_cons, setE_nil, TrL, TrSV, TrC, TrC0, TrEnt, Views, Frozen, lk_cons, lk_nil, lkE_cons, lkE_nil, ev_t, ev_k, List.map_cons, List.map_nil, List.getElem?_cons_zero, List.getElem?_cons_succ, List.getElem?_nil, List.mem_cons, List.not_mem_nil, or_false, false_or, or_true, true_or, Nat.reduceEqDiff, Nat.reduceAdd, ↓reduceIte, if_true, if_false, reduceCtorEq, true_and, and_true, and_self, exists_eq_left, exists_eq_left', ne_eq, not_false_eq_true, Option.some.injEq, Ent.arr.injEq, Ent.box.injEq, List.length_cons, List.length_nil, isDRows, List.append_nil, List.nil_append]; repeat' (first | (first | exact drows_brow _ | exact drows_nrow _ | exact drows_irow _ | exact drows_wrow _ | assumption | (simp [isDRows, brow, C.isD]; done) | (rw [← List.map_append]; first | exact drows_brow _ | exact drows_nrow _ | exact drows_irow _ | exact drows_wrow _)) | refine ⟨?_, ?_⟩))) (by simp) (by simp) (trivial) (by first | (simp [lkE_cons, lkE_nil]; done) | (intro j hj; simp at hj; simp only [lkE_cons, lkE_nil]; repeat rw [if_neg (by omega)])) (by first | (simp [Ent.pure]; done) | (simp [Ent.pure]; repeat' (first | (first | exact drows_brow _ | exact drows_nrow _ | exact drows_irow _ | exact drows_wrow _ | assumption | (simp [isDRows, C.isD]; done) | (rw [← List.map_append]; first | exact drows_brow _ | exact drows_nrow _ | exact drows_irow _ | exact drows_wrow _)) | refine ⟨?_, ?_⟩))) (by simp) (by simp)) ?_
  refine RG.go fun Q hQ => ?_
  simp only [RX, eff, ev_t, ev_k, lk_cons, lkE_cons, lkE_nil, setS_cons, setS_nil, setE_cons, setE_nil, AOp.isCall, setD, setEs, presOf, AOp.needs, SV.one?, SV.pre, SV.cells, idsOf, AOp.rds, AOp.ops, SV.ids, C.ids0, splice, List.take_zero, List.drop_succ_cons, List.drop_zero, List.length_cons, List.length_nil, List.map_cons, List.map_nil, List.nil_append, List.cons_append, true_and, and_self, Bool.false_eq_true, reduceCtorEq, Nat.reduceAdd, Nat.reduceEqDiff, ↓reduceIte, Nat.zero_add, Nat.le_refl, renSV, renSV1, renC, renC0, rn, renEnt, backUps, List.zip_nil_left, List.zipIdx_cons, List.zipIdx_nil, List.filterMap_nil, List.append_nil, List.getElem?_nil, Nat.sub_self, Nat.sub_zero, Nat.add_zero]
  repeat refine ⟨by (first | omega | (simp; omega) | (simp; done) | exact ⟨by omega, by omega⟩ | exact ⟨by omega, by simp; omega⟩ | exact ⟨by simp; omega, by simp; omega⟩ | exact ⟨by simp, by simp; omega⟩ | (intro h; rw [h]; rfl) | (intro h; refine ⟨fun h2 => ?_, h⟩; rw [h, h2]; rfl) | (intro h; refine ⟨?_, h⟩; simp [inR] at h; omega) | (intro h; simp [inR] at h; omega) | assumption), ?_⟩
  refine hQ _ _ _ _ _ (RG.nil ?_)
  try simp only [x_seq, x_tn]
  refine aw_reg 224 (RG.go fun Q hQ => ?_)
  simp only [RX, eff, ev_t, lk_cons, lkE_cons, setS_cons, setS_nil, AOp.isCall, setD, setEs, presOf, AOp.needs, SV.one?, SV.pre, idsOf, AOp.rds, AOp.ops, SV.ids, C.ids0, List.take_succ_cons, List.take_zero, List.drop_zero, List.length_cons, List.length_nil, List.map_nil, List.nil_append, List.cons_append, true_and, and_self, Bool.false_eq_true, reduceCtorEq, Nat.reduceAdd, Nat.reduceEqDiff, ↓reduceIte, Nat.zero_add, Nat.le_refl, List.append_nil]
  repeat refine ⟨by (first | omega | (simp; omega) | (simp; done) | exact ⟨by omega, by omega⟩ | exact ⟨by omega, by simp; omega⟩ | exact ⟨by simp; omega, by simp; omega⟩ | exact ⟨by simp, by simp; omega⟩ | (intro h; rw [h]; rfl) | (intro h; refine ⟨fun h2 => ?_, h⟩; rw [h, h2]; rfl) | (intro h; refine ⟨?_, h⟩; simp [inR] at h; omega) | (intro h; simp [inR] at h; omega) | assumption), ?_⟩
  refine hQ _ _ _ _ _ ?_
  refine RG.callo [] [] (volume_copied_con v ok') (.mk (by (repeat' (first | exact tr_nil | refine tr_cons ?_ ?_ | exact tr_v | exact tr_bp rfl | exact tr_osl rfl | exact tr_sl | exact tr_nils | exact tr_agg (by repeat' (first | exact trivial | rfl | exact rfl | refine ⟨?_, ?_⟩)) | exact tr_opt (by simpa using hg) tr_v | exact tr_opt (by simpa using hg) tr_sl | exact tr_opt (by simpa using hg) (tr_agg (by repeat' (first | exact trivial | rfl | exact rfl | refine ⟨?_, ?_⟩)))))) (by first | trivial | (simp only [Int.cast_ofNat_Int, setEs, setE_cons, setE_nil, TrL, TrSV, TrC, TrC0, TrEnt, Views, Frozen, lk_cons, lk_nil, lkE_cons, lkE_nil, ev_t, ev_k, List.map_cons, List.map_nil, List.getElem?_cons_zero, List.getElem?_cons_succ, List.getElem?_nil, List.mem_cons, List.not_mem_nil, or_false, false_or, or_true, true_or, Nat.reduceEqDiff, Nat.reduceAdd, ↓reduceIte, if_true, if_false, reduceCtorEq, true_and, and_true, and_self, exists_eq_left, exists_eq_left', ne_eq, not_false_eq_true, Option.some.injEq, Ent.arr.injEq, Ent.box.injEq, List.length_cons, List.length_nil, isDRows, List.append_nil, List.nil_append]; done) | (simp only [Int.cast_ofNat_Int, setEs, setE_cons, setE_nil, TrL, TrSV, TrC, TrC0, TrEnt, Views, Frozen, lk_cons, lk_nil, lkE_cons, lkE_nil, ev_t, ev_k, List.map_cons, List.map_nil, List.getElem?_cons_zero, List.getElem?_cons_succ, List.getElem?_nil, List.mem_cons, List.not_mem_nil, or_false, false_or, or_true, true_or, Nat.reduceEqDiff, Nat.reduceAdd, ↓reduceIte, if_true, if_false, reduceCtorEq, true_and, and_true, and_self, exists_eq_left, exists_eq_left', ne_eq, not_false_eq_true, Option.some.injEq, Ent.arr.injEq, Ent.box.injEq, List.length_cons, List.length_nil, isDRows, List.append_nil, List.nil_append]; trivial) | (simp only [Int.cast_ofNat_Int, setEs, setE_cons, setE_nil, TrL, TrSV, TrC, TrC0, TrEnt, Views, Frozen, lk_cons, lk_nil, lkE_cons, lkE_nil, ev_t, ev_k, List.map_cons, List.map_nil, List.getElem?_cons_zero, List.getElem?_cons_succ, List.getElem?_nil, List.mem_cons, List.not_mem_nil, or_false, false_or, or_true, true_or, Nat.reduceEqDiff, Nat.reduceAdd, ↓reduceIte, if_true, if_false, reduceCtorEq, true_and, and_true, and_self, exists_eq_left, exists_eq_left', ne_eq, not_false_eq_true, Option.some.injEq, Ent.arr.injEq, Ent.box.injEq, List.length_cons, List.length_nil, isDRows, List.append_nil, List.nil_append]; repeat' (first | (first | exact drows_brow _ | exact drows_nrow _ | exact drows_irow _ | exact drows_wrow _ | assumption | (simp [isDRows, brow, C.isD]; done) | (rw [← List.map_append]; first | exact drows_brow _ | exact drows_nrow _ | exact drows_irow _ | exact drows_wrow _)) | refine ⟨?_, ?_⟩))) (by simp) (by simp) (trivial) (by first | (simp [lkE_cons, lkE_nil]; done) | (intro j hj; simp at hj; simp only [lkE_cons, lkE_nil]; repeat rw [if_neg (by omega)])) (by first | (simp [Ent.pure]; done) | (simp [Ent.pure]; repeat' (first | (first | exact drows_brow _ | exact drows_nrow _ | exact drows_irow _ | exact drows_wrow _ | assumption | (simp [isDRows, C.isD]; done) | (rw [← List.map_append]; first | exact drows_brow _ | exact drows_nrow _ | exact drows_irow _ | exact drows_wrow _)) | refine ⟨?_, ?_⟩))) (by simp) (by simp)) ?_
  refine RG.go fun Q hQ => ?_
  simp only [RX, eff, ev_t, lk_cons, lkE_cons, lkE_nil, setS_cons, setS_nil, setE_cons, setE_nil, AOp.isCall, setD, setEs, presOf, AOp.needs, SV.one?, SV.pre, SV.cells, idsOf, AOp.rds, AOp.ops, SV.ids, C.ids0, splice, List.take_zero, List.drop_succ_cons, List.drop_zero, List.length_cons, List.length_nil, List.map_cons, List.map_nil, List.nil_append, List.cons_append, true_and, and_self, Bool.false_eq_true, reduceCtorEq, Nat.reduceAdd, Nat.reduceEqDiff, ↓reduceIte, Nat.zero_add, Nat.le_refl, renSV, renSV1, renC, renC0, rn, renEnt, backUps, List.zip_nil_left, List.zipIdx_cons, List.zipIdx_nil, List.filterMap_nil, List.append_nil, List.getElem?_nil, Nat.sub_self, Nat.sub_zero, Nat.add_zero]
  repeat refine ⟨by (first | omega | (simp; omega) | (simp; done) | exact ⟨by omega, by omega⟩ | exact ⟨by omega, by simp; omega⟩ | exact ⟨by simp; omega, by simp; omega⟩ | exact ⟨by simp, by simp; omega⟩ | (intro h; rw [h]; rfl) | (intro h; refine ⟨fun h2 => ?_, h⟩; rw [h, h2]; rfl) | (intro h; refine ⟨?_, h⟩; simp [inR] at h; omega) | (intro h; simp [inR] at h; omega) | assumption), ?_⟩
  refine hQ _ _ _ _ _ (RG.nil ?_)
  try simp only [x_seq, x_tn]
  refine aw_reg 304 (RG.go fun Q hQ => ?_)
  simp only [RX, eff, ev_t, lk_cons, lkE_cons, setS_cons, setS_nil, AOp.isCall, setD, setEs, presOf, AOp.needs, SV.one?, SV.pre, idsOf, AOp.rds, AOp.ops, SV.ids, C.ids0, List.getElem?_cons_zero, Option.map_some, List.map_nil, List.nil_append, List.cons_append, true_and, and_self, Bool.false_eq_true, reduceCtorEq, Nat.reduceAdd, Nat.reduceEqDiff, ↓reduceIte, List.append_nil, Nat.add_zero]
  repeat refine ⟨by (first | omega | (simp; omega) | (simp; done) | exact ⟨by omega, by omega⟩ | exact ⟨by omega, by simp; omega⟩ | exact ⟨by simp; omega, by simp; omega⟩ | exact ⟨by simp, by simp; omega⟩ | (intro h; rw [h]; rfl) | (intro h; refine ⟨fun h2 => ?_, h⟩; rw [h, h2]; rfl) | (intro h; refine ⟨?_, h⟩; simp [inR] at h; omega) | (intro h; simp [inR] at h; omega) | assumption), ?_⟩
  refine hQ _ _ _ _ _ (RG.nil ?_)
  try simp only [x_seq, x_block, x_tn]
  refine aw_reg 368 (RG.go fun Q hQ => ?_)
  simp only [RX, eff, ev_t, ev_k, lk_cons, setS_cons, setS_nil, AOp.isCall, setD, setEs, presOf, AOp.needs, SV.one?, SV.pre, binV, idsOf, AOp.rds, AOp.ops, SV.ids, C.ids0, Option.map_some, List.map_nil, List.nil_append, true_and, and_self, Bool.false_eq_true, reduceCtorEq, Nat.reduceAdd, Nat.reduceEqDiff, ↓reduceIte, BEq.rfl, List.append_nil]
  repeat refine ⟨by (first | omega | (simp; omega) | (simp; done) | exact ⟨by omega, by omega⟩ | exact ⟨by omega, by simp; omega⟩ | exact ⟨by simp; omega, by simp; omega⟩ | exact ⟨by simp, by simp; omega⟩ | (intro h; rw [h]; rfl) | (intro h; refine ⟨fun h2 => ?_, h⟩; rw [h, h2]; rfl) | (intro h; refine ⟨?_, h⟩; simp [inR] at h; omega) | (intro h; simp [inR] at h; omega) | assumption), ?_⟩
  refine hQ _ _ _ _ _ (RG.nil ?_)
  try simp only [x_tn]
  refine aw_cond _ rfl trivial (fun ht => ?_) (fun hf => by cases hf)
  try simp only [x_seq]
  refine aw_reg 432 (RG.go fun Q hQ => ?_)
  simp only [RX, eff, ev_k, setS_cons, AOp.isCall, setD, setEs, presOf, AOp.needs, idsOf, AOp.rds, List.map_nil, List.nil_append, true_and, Bool.false_eq_true, reduceCtorEq, Nat.reduceAdd, Nat.reduceEqDiff, ↓reduceIte]
  repeat refine ⟨by (first | omega | (simp; omega) | (simp; done) | exact ⟨by omega, by omega⟩ | exact ⟨by omega, by simp; omega⟩ | exact ⟨by simp; omega, by simp; omega⟩ | exact ⟨by simp, by simp; omega⟩ | (intro h; rw [h]; rfl) | (intro h; refine ⟨fun h2 => ?_, h⟩; rw [h, h2]; rfl) | (intro h; refine ⟨?_, h⟩; simp [inR] at h; omega) | (intro h; simp [inR] at h; omega) | assumption), ?_⟩
  refine hQ _ _ _ _ _ (RG.nil ?_)
  try simp only [x_seq, x_tn]
  refine aw_reg 480 (RG.go fun Q hQ => ?_)
  simp only [RX, eff, ev_t, lk_cons, lkE_cons, setS_cons, setS_nil, AOp.isCall, setD, setEs, presOf, AOp.needs, SV.one?, SV.pre, unV, idsOf, AOp.rds, AOp.ops, SV.ids, C.ids0, List.getElem?_cons_zero, List.getElem?_cons_succ, Option.map_some, List.map_nil, List.nil_append, List.cons_append, true_and, and_self, Bool.false_eq_true, reduceCtorEq, Nat.reduceAdd, Nat.reduceEqDiff, ↓reduceIte, Nat.zero_add, List.append_nil]
  repeat refine ⟨by (first | omega | (simp; omega) | (simp; done) | exact ⟨by omega, by omega⟩ | exact ⟨by omega, by simp; omega⟩ | exact ⟨by simp; omega, by simp; omega⟩ | exact ⟨by simp, by simp; omega⟩ | (intro h; rw [h]; rfl) | (intro h; refine ⟨fun h2 => ?_, h⟩; rw [h, h2]; rfl) | (intro h; refine ⟨?_, h⟩; simp [inR] at h; omega) | (intro h; simp [inR] at h; omega) | assumption), ?_⟩
  refine hQ _ _ _ _ _ (RG.nil ?_)
  try simp only [x_tn]
  refine aw_cond _ rfl trivial (fun ht => ?_) (fun hf => ?_)
  · have hh : v.hid = false := by simpa using ht
    cases hr : itemsR v.blocks v.size c.items with
    | true =>
      have hdo : doPut v c.items = done (addW v c.items) := by unfold doPut; rw [if_neg (by simp [hh]), if_pos hr]
      rw [hdo]
      have hoka : (addW v c.items).ws.length ≤ 1000001 := by simp [addW]; omega
      try simp only [x_seq, x_block, x_skip, x_ret, x_exit, x_tn, x_tr, x_tx, x_bn, x_br, x_bx, x_ln, x_lr, x_lx, Nat.reduceEqDiff, ↓reduceIte, if_true, if_false, reduceCtorEq]
      refine aw_reg 560 (RG.go fun Q hQ => ?_)
      simp only [RX, eff, ev_t, lk_cons, lkE_cons, setS_cons, setS_nil, AOp.isCall, setD, setEs, presOf, AOp.needs, SV.one?, SV.pre, idsOf, AOp.rds, AOp.ops, SV.ids, C.ids0, List.take_succ_cons, List.take_zero, List.drop_zero, List.length_cons, List.length_nil, List.getElem?_cons_zero, List.getElem?_cons_succ, Option.map_some, List.map_nil, List.nil_append, List.cons_append, true_and, and_self, Bool.false_eq_true, reduceCtorEq, Nat.reduceAdd, Nat.reduceEqDiff, ↓reduceIte, Nat.zero_add, Nat.le_refl, List.append_nil]
      repeat refine ⟨by (first | omega | (simp; omega) | (simp; done) | exact ⟨by omega, by omega⟩ | exact ⟨by omega, by simp; omega⟩ | exact ⟨by simp; omega, by simp; omega⟩ | exact ⟨by simp, by simp; omega⟩ | (intro h; rw [h]; rfl) | (intro h; refine ⟨fun h2 => ?_, h⟩; rw [h, h2]; rfl) | (intro h; refine ⟨?_, h⟩; simp [inR] at h; omega) | (intro h; simp [inR] at h; omega) | assumption), ?_⟩
      refine hQ _ _ _ _ _ ?_
      refine RG.callo [240, 241] [] (volume_write_yes v c.items ok' hl hd hr) (.mk (by (repeat' (first | exact tr_nil | refine tr_cons ?_ ?_ | exact tr_v | exact tr_bp rfl | exact tr_osl rfl | exact tr_sl | exact tr_nils | exact tr_agg (by repeat' (first | exact trivial | rfl | exact rfl | refine ⟨?_, ?_⟩)) | exact tr_opt (by simpa using hg) tr_v | exact tr_opt (by simpa using hg) tr_sl | exact tr_opt (by simpa using hg) (tr_agg (by repeat' (first | exact trivial | rfl | exact rfl | refine ⟨?_, ?_⟩)))))) (by first | trivial | (simp only [TrL, TrEnt, lkE_cons, Nat.reduceEqDiff, ↓reduceIte, true_and, and_true, exists_eq_left', Option.some.injEq, isDRows]; done) | (simp only [TrL, TrEnt, lkE_cons, Nat.reduceEqDiff, ↓reduceIte, true_and, and_true, exists_eq_left', Option.some.injEq, isDRows]; trivial) | (simp only [TrL, TrEnt, lkE_cons, Nat.reduceEqDiff, ↓reduceIte, true_and, and_true, exists_eq_left', Option.some.injEq, isDRows]; repeat' (first | (first | exact drows_brow _ | exact drows_nrow _ | exact drows_irow _ | exact drows_wrow _ | assumption | (simp [C.isD]; done) | (rw [← List.map_append]; first | exact drows_brow _ | exact drows_nrow _ | exact drows_irow _ | exact drows_wrow _)) | refine ⟨?_, ?_⟩))) (by simp) (by simp) (trivial) (by first | (simp [lkE_cons, lkE_nil]; done) | (intro j hj; simp at hj; simp only [setEs, setE_cons, setE_nil, lkE_cons, lkE_nil]; repeat rw [if_neg (by omega)])) (by first | (simp [Ent.pure]; done) | (simp [Ent.pure]; repeat' (first | (first | exact drows_brow _ | exact drows_nrow _ | exact drows_irow _ | exact drows_wrow _ | assumption | (simp [isDRows, C.isD]; done) | (rw [← List.map_append]; first | exact drows_brow _ | exact drows_nrow _ | exact drows_irow _ | exact drows_wrow _)) | refine ⟨?_, ?_⟩))) (by simp) (by simp)) ?_
      refine RG.go fun Q hQ => ?_
      simp only [RX, eff, ev_t, lk_cons, lkE_cons, lkE_nil, setS_cons, setS_nil, setE_cons, setE_nil, AOp.isCall, setD, setEs, presOf, AOp.needs, SV.one?, SV.pre, SV.core, SV.cells, idsOf, AOp.rds, AOp.ops, SV.ids, C.ids0, splice, List.take_zero, List.drop_succ_cons, List.drop_zero, List.length_cons, List.length_nil, List.getElem?_cons_zero, List.getElem?_cons_succ, Option.map_some, List.map_cons, List.map_nil, List.nil_append, List.cons_append, and_true, true_and, and_self, Bool.false_eq_true, reduceCtorEq, Nat.reduceAdd, Nat.reduceEqDiff, Nat.reduceSub, ↓reduceIte, Nat.zero_add, Nat.le_refl, renSV, renSV1, renC, renC0, renEnt, backUps, List.zip_nil_left, List.zip_cons_cons, List.zipIdx_cons, List.zipIdx_nil, List.filterMap_nil, List.append_nil, Nat.add_zero]
      simp only [setE_cons, setEs, List.drop_succ_cons, List.drop_zero, List.length_cons, List.length_nil, List.getElem?_cons_zero, List.getElem?_cons_succ, List.map_cons, List.map_nil, true_and, Nat.reduceAdd, ↓reduceIte, Nat.zero_add, renC, renC0, rn, List.append_nil, List.getElem?_nil, Nat.sub_self, Nat.add_zero, vO]
      repeat refine ⟨by (first | omega | (simp; omega) | (simp; done) | exact ⟨by omega, by omega⟩ | exact ⟨by omega, by simp; omega⟩ | exact ⟨by simp; omega, by simp; omega⟩ | exact ⟨by simp, by simp; omega⟩ | (intro h; rw [h]; rfl) | (intro h; refine ⟨fun h2 => ?_, h⟩; rw [h, h2]; rfl) | (intro h; refine ⟨?_, h⟩; simp [inR] at h; omega) | (intro h; simp [inR] at h; omega) | assumption), ?_⟩
      refine hQ _ _ _ _ _ (RG.nil ?_)
      try simp only [x_seq, x_tn, x_bn]
      refine aw_reg 736 (RG.go fun Q hQ => ?_)
      simp only [RX, eff, ev_t, ev_k, lk_cons, setS_cons, setS_nil, AOp.isCall, setD, setEs, presOf, AOp.needs, SV.one?, SV.pre, binV, idsOf, AOp.rds, AOp.ops, SV.ids, C.ids0, Option.map_some, List.map_nil, List.nil_append, true_and, and_self, Bool.false_eq_true, reduceCtorEq, Nat.reduceAdd, Nat.reduceEqDiff, ↓reduceIte, List.append_nil, Int.reduceBNe]
      repeat refine ⟨by (first | omega | (simp; omega) | (simp; done) | exact ⟨by omega, by omega⟩ | exact ⟨by omega, by simp; omega⟩ | exact ⟨by simp; omega, by simp; omega⟩ | exact ⟨by simp, by simp; omega⟩ | (intro h; rw [h]; rfl) | (intro h; refine ⟨fun h2 => ?_, h⟩; rw [h, h2]; rfl) | (intro h; refine ⟨?_, h⟩; simp [inR] at h; omega) | (intro h; simp [inR] at h; omega) | assumption), ?_⟩
      refine hQ _ _ _ _ _ (RG.nil ?_)
      try simp only [x_tn]
      refine aw_cond _ rfl trivial (fun ht => by cases ht) (fun hf => ?_)
      try simp only [x_seq, x_skip, x_tn]
      refine aw_draw 912 (RG.go fun Q hQ => ?_)
      simp only [RX, eff, ev_t, lk_cons, lkE_cons, setS_cons, setS_nil, AOp.isCall, setD, setEs, presOf, AOp.needs, SV.one?, SV.pre, idsOf, AOp.rds, AOp.ops, SV.ids, C.ids0, List.take_succ_cons, List.take_zero, List.drop_zero, List.length_cons, List.length_nil, List.map_nil, List.nil_append, List.cons_append, true_and, and_self, Bool.false_eq_true, reduceCtorEq, Nat.reduceAdd, Nat.reduceEqDiff, ↓reduceIte, Nat.zero_add, Nat.le_refl, List.append_nil]
      repeat refine ⟨by (first | omega | (simp; omega) | (simp; done) | exact ⟨by omega, by omega⟩ | exact ⟨by omega, by simp; omega⟩ | exact ⟨by simp; omega, by simp; omega⟩ | exact ⟨by simp, by simp; omega⟩ | (intro h; rw [h]; rfl) | (intro h; refine ⟨fun h2 => ?_, h⟩; rw [h, h2]; rfl) | (intro h; refine ⟨?_, h⟩; simp [inR] at h; omega) | (intro h; simp [inR] at h; omega) | assumption), ?_⟩
      refine hQ _ _ _ _ _ ?_
      refine RG.call [240, 608] (volume_Len_con (addW v c.items)) (by (repeat' (first | exact tr_nil | refine tr_cons ?_ ?_ | exact tr_v | exact tr_sl | exact tr_nils | exact tr_agg (by (repeat' (first | exact trivial | rfl | exact rfl | (refine ⟨by simp, _, _, _, rfl, ?_⟩; (first | exact drows_brow _ | exact drows_nrow _ | exact drows_irow _ | exact drows_wrow _ | assumption | (simp [isDRows, brow, C.isD]; done) | (rw [← List.map_append]; first | exact drows_brow _ | exact drows_nrow _ | exact drows_irow _ | exact drows_wrow _))) | refine ⟨?_, ?_⟩))) | exact tr_view (by simp) rfl (by (first | exact drows_brow _ | exact drows_nrow _ | exact drows_irow _ | exact drows_wrow _ | assumption | (simp [isDRows, brow, C.isD]; done) | (rw [← List.map_append]; first | exact drows_brow _ | exact drows_nrow _ | exact drows_irow _ | exact drows_wrow _)))))) (by repeat' (first | exact trivial | refine views1 rfl ?_)) (by (first | exact .inl trivial | exact .inr ⟨rfl, trivial⟩)) ?_
      refine RG.go fun Q hQ => ?_
      simp only [RX, eff, ev_t, lk_cons, lkE_cons, setS_cons, setS_nil, setE_cons, AOp.isCall, setD, setEs, presOf, AOp.needs, SV.one?, SV.pre, SV.cells, idsOf, AOp.rds, AOp.ops, SV.ids, C.ids0, bldFold, splice, List.take_succ_cons, List.take_zero, List.drop_succ_cons, List.drop_zero, List.length_cons, List.length_nil, List.getElem?_cons_zero, List.getElem?_cons_succ, Option.map_some, List.map_cons, List.map_nil, List.nil_append, List.cons_append, true_and, and_self, Bool.false_eq_true, reduceCtorEq, Nat.reduceAdd, Nat.reduceEqDiff, Nat.reduceLeDiff, ↓reduceIte, Nat.zero_add, Nat.le_refl, List.append_nil]
      repeat refine ⟨by (first | omega | (simp; omega) | (simp; done) | exact ⟨by omega, by omega⟩ | exact ⟨by omega, by simp; omega⟩ | exact ⟨by simp; omega, by simp; omega⟩ | exact ⟨by simp, by simp; omega⟩ | (intro h; rw [h]; rfl) | (intro h; refine ⟨fun h2 => ?_, h⟩; rw [h, h2]; rfl) | (intro h; refine ⟨?_, h⟩; simp [inR] at h; omega) | (intro h; simp [inR] at h; omega) | assumption), ?_⟩
      refine hQ _ _ _ _ _ (RG.nil ⟨by decide +kernel, ?_⟩)
      try simp only [x_ret, x_tn]
      refine Fin.data [240, 608] (.inr rfl) rfl (by (first | exact trivial | exact ⟨trivial, trivial⟩ | exact ⟨trivial, trivial, trivial⟩)) ?_
      simp only [lkE_cons, WkSV, WkSV1, TrL, frzEs, frzE, setE_cons, Nat.reduceEqDiff, ↓reduceIte, and_true]
      all_goals ((repeat' (first | exact trivial | rfl | exact rfl | (refine ⟨⟨_, _, rfl⟩, ?_⟩; (first | exact drows_brow _ | exact drows_nrow _ | exact drows_irow _ | exact drows_wrow _ | assumption | (simp [isDRows, brow, C.isD]; done) | (rw [← List.map_append]; first | exact drows_brow _ | exact drows_nrow _ | exact drows_irow _ | exact drows_wrow _))) | (simp; done) | refine ⟨?_, ?_⟩)))
    | false =>
      have hdo : doPut v c.items = fail v 23 := by unfold doPut; rw [if_neg (by simp [hh]), if_neg (by simp [hr])]
      rw [hdo]
      try simp only [x_seq, x_block, x_skip, x_ret, x_exit, x_tn, x_tr, x_tx, x_bn, x_br, x_bx, x_ln, x_lr, x_lx, Nat.reduceEqDiff, ↓reduceIte, if_true, if_false, reduceCtorEq]
      refine aw_reg 560 (RG.go fun Q hQ => ?_)
      simp only [RX, eff, ev_t, lk_cons, lkE_cons, setS_cons, setS_nil, AOp.isCall, setD, setEs, presOf, AOp.needs, SV.one?, SV.pre, idsOf, AOp.rds, AOp.ops, SV.ids, C.ids0, List.take_succ_cons, List.take_zero, List.drop_zero, List.length_cons, List.length_nil, List.getElem?_cons_zero, List.getElem?_cons_succ, Option.map_some, List.map_nil, List.nil_append, List.cons_append, true_and, and_self, Bool.false_eq_true, reduceCtorEq, Nat.reduceAdd, Nat.reduceEqDiff, ↓reduceIte, Nat.zero_add, Nat.le_refl, List.append_nil]
      repeat refine ⟨by (first | omega | (simp; omega) | (simp; done) | exact ⟨by omega, by omega⟩ | exact ⟨by omega, by simp; omega⟩ | exact ⟨by simp; omega, by simp; omega⟩ | exact ⟨by simp, by simp; omega⟩ | (intro h; rw [h]; rfl) | (intro h; refine ⟨fun h2 => ?_, h⟩; rw [h, h2]; rfl) | (intro h; refine ⟨?_, h⟩; simp [inR] at h; omega) | (intro h; simp [inR] at h; omega) | assumption), ?_⟩
      refine hQ _ _ _ _ _ ?_
      refine RG.callo [240, 241] [] (volume_write_no v c.items ok' hl hd hr) (.mk (by (repeat' (first | exact tr_nil | refine tr_cons ?_ ?_ | exact tr_v | exact tr_bp rfl | exact tr_osl rfl | exact tr_sl | exact tr_nils | exact tr_agg (by repeat' (first | exact trivial | rfl | exact rfl | refine ⟨?_, ?_⟩)) | exact tr_opt (by simpa using hg) tr_v | exact tr_opt (by simpa using hg) tr_sl | exact tr_opt (by simpa using hg) (tr_agg (by repeat' (first | exact trivial | rfl | exact rfl | refine ⟨?_, ?_⟩)))))) (by first | trivial | (simp only [TrL, TrEnt, lkE_cons, Nat.reduceEqDiff, ↓reduceIte, true_and, and_true, exists_eq_left', Option.some.injEq, isDRows]; done) | (simp only [TrL, TrEnt, lkE_cons, Nat.reduceEqDiff, ↓reduceIte, true_and, and_true, exists_eq_left', Option.some.injEq, isDRows]; trivial) | (simp only [TrL, TrEnt, lkE_cons, Nat.reduceEqDiff, ↓reduceIte, true_and, and_true, exists_eq_left', Option.some.injEq, isDRows]; repeat' (first | (first | exact drows_brow _ | exact drows_nrow _ | exact drows_irow _ | exact drows_wrow _ | assumption | (simp [C.isD]; done) | (rw [← List.map_append]; first | exact drows_brow _ | exact drows_nrow _ | exact drows_irow _ | exact drows_wrow _)) | refine ⟨?_, ?_⟩))) (by simp) (by simp) (trivial) (by first | (simp [lkE_cons, lkE_nil]; done) | (intro j hj; simp at hj; simp only [setEs, setE_cons, setE_nil, lkE_cons, lkE_nil]; repeat rw [if_neg (by omega)])) (by first | (simp [Ent.pure]; done) | (simp [Ent.pure]; repeat' (first | (first | exact drows_brow _ | exact drows_nrow _ | exact drows_irow _ | exact drows_wrow _ | assumption | (simp [isDRows, C.isD]; done) | (rw [← List.map_append]; first | exact drows_brow _ | exact drows_nrow _ | exact drows_irow _ | exact drows_wrow _)) | refine ⟨?_, ?_⟩))) (by simp) (by simp)) ?_
      refine RG.go fun Q hQ => ?_
      simp only [RX, eff, ev_t, lk_cons, lkE_cons, lkE_nil, setS_cons, setS_nil, setE_cons, AOp.isCall, setD, setEs, presOf, AOp.needs, SV.one?, SV.pre, SV.core, SV.cells, idsOf, AOp.rds, AOp.ops, SV.ids, C.ids0, splice, List.take_zero, List.drop_succ_cons, List.drop_zero, List.length_cons, List.length_nil, List.getElem?_cons_zero, List.getElem?_cons_succ, Option.map_some, List.map_cons, List.map_nil, List.nil_append, List.cons_append, and_true, true_and, and_self, Bool.false_eq_true, reduceCtorEq, Nat.reduceAdd, Nat.reduceEqDiff, ↓reduceIte, Nat.zero_add, Nat.le_refl, renSV, renSV1, renC, renC0, renEnt, backUps, List.zip_nil_right, List.zip_cons_cons, List.zipIdx_nil, List.filterMap_nil, List.append_nil, List.range_zero, Nat.sub_self]
      simp only [setE_cons, setEs, List.drop_succ_cons, List.drop_zero, List.length_cons, List.length_nil, List.getElem?_cons_zero, List.getElem?_cons_succ, List.map_cons, List.map_nil, true_and, Nat.reduceAdd, ↓reduceIte, Nat.zero_add, renC, renC0, rn, List.append_nil, vO]
      repeat refine ⟨by (first | omega | (simp; omega) | (simp; done) | exact ⟨by omega, by omega⟩ | exact ⟨by omega, by simp; omega⟩ | exact ⟨by simp; omega, by simp; omega⟩ | exact ⟨by simp, by simp; omega⟩ | (intro h; rw [h]; rfl) | (intro h; refine ⟨fun h2 => ?_, h⟩; rw [h, h2]; rfl) | (intro h; refine ⟨?_, h⟩; simp [inR] at h; omega) | (intro h; simp [inR] at h; omega) | assumption), ?_⟩
      refine hQ _ _ _ _ _ (RG.nil ?_)
      try simp only [x_seq, x_tn, x_bn]
      refine aw_reg 736 (RG.go fun Q hQ => ?_)
      simp only [RX, eff, ev_t, ev_k, lk_cons, setS_cons, setS_nil, AOp.isCall, setD, setEs, presOf, AOp.needs, SV.one?, SV.pre, binV, idsOf, AOp.rds, AOp.ops, SV.ids, C.ids0, Option.map_some, List.map_nil, List.nil_append, true_and, and_self, Bool.false_eq_true, reduceCtorEq, Nat.reduceAdd, Nat.reduceEqDiff, ↓reduceIte, List.append_nil, Int.reduceBNe]
      repeat refine ⟨by (first | omega | (simp; omega) | (simp; done) | exact ⟨by omega, by omega⟩ | exact ⟨by omega, by simp; omega⟩ | exact ⟨by simp; omega, by simp; omega⟩ | exact ⟨by simp, by simp; omega⟩ | (intro h; rw [h]; rfl) | (intro h; refine ⟨fun h2 => ?_, h⟩; rw [h, h2]; rfl) | (intro h; refine ⟨?_, h⟩; simp [inR] at h; omega) | (intro h; simp [inR] at h; omega) | assumption), ?_⟩
      refine hQ _ _ _ _ _ (RG.nil ?_)
      try simp only [x_tn]
      refine aw_cond _ rfl trivial (fun ht => ?_) (fun hf => by cases hf)
      try simp only [x_seq]
      refine aw_reg 800 (RG.go fun Q hQ => ?_)
      simp only [RX, eff, ev_t, lk_cons, lkE_cons, setS_cons, setS_nil, setE_cons, AOp.isCall, setD, setEs, presOf, AOp.needs, SV.one?, SV.pre, SV.cells, idsOf, AOp.rds, AOp.ops, SV.ids, C.ids0, bldFold, splice, List.take_succ_cons, List.take_zero, List.drop_succ_cons, List.drop_zero, List.length_cons, List.length_nil, Option.map_some, List.map_cons, List.map_nil, List.nil_append, List.cons_append, true_and, and_self, Bool.false_eq_true, reduceCtorEq, Nat.reduceAdd, Nat.reduceEqDiff, Nat.reduceLeDiff, ↓reduceIte, Nat.zero_add, Nat.le_refl, List.append_nil]
      repeat refine ⟨by (first | omega | (simp; omega) | (simp; done) | exact ⟨by omega, by omega⟩ | exact ⟨by omega, by simp; omega⟩ | exact ⟨by simp; omega, by simp; omega⟩ | exact ⟨by simp, by simp; omega⟩ | (intro h; rw [h]; rfl) | (intro h; refine ⟨fun h2 => ?_, h⟩; rw [h, h2]; rfl) | (intro h; refine ⟨?_, h⟩; simp [inR] at h; omega) | (intro h; simp [inR] at h; omega) | assumption), ?_⟩
      refine hQ _ _ _ _ _ (RG.nil ?_)
      try simp only [x_ret, x_tn, x_tr]
      refine Fin.data [128, 129] (.inr rfl) rfl (by (first | exact trivial | exact ⟨trivial, trivial⟩ | exact ⟨trivial, trivial, trivial⟩)) ?_
      simp only [lkE_cons, WkSV, WkSV1, TrL, frzEs, frzE, setE_cons, Nat.reduceEqDiff, ↓reduceIte, and_true]
      all_goals ((repeat' (first | exact trivial | rfl | exact rfl | (refine ⟨⟨_, _, rfl⟩, ?_⟩; (first | exact drows_brow _ | exact drows_nrow _ | exact drows_irow _ | exact drows_wrow _ | assumption | (simp [isDRows, brow, C.isD]; done) | (rw [← List.map_append]; first | exact drows_brow _ | exact drows_nrow _ | exact drows_irow _ | exact drows_wrow _))) | (simp; done) | refine ⟨?_, ?_⟩)))
  have hh : v.hid = true := by simpa using hf
  have hdo : doPut v c.items = fail v 28 := by unfold doPut; rw [if_pos hh]
  rw [hdo]
  try simp only [x_seq, x_skip, x_tn, x_bn]
  refine aw_reg 1104 (RG.go fun Q hQ => ?_)
  simp only [RX, eff, ev_t, ev_k, lk_cons, setS_cons, setS_nil, AOp.isCall, setD, setEs, presOf, AOp.needs, SV.one?, SV.pre, binV, idsOf, AOp.rds, AOp.ops, SV.ids, C.ids0, Option.map_some, List.map_nil, List.nil_append, true_and, and_self, Bool.false_eq_true, reduceCtorEq, Nat.reduceAdd, Nat.reduceEqDiff, ↓reduceIte, List.append_nil, Int.reduceBNe]
  repeat refine ⟨by (first | omega | (simp; omega) | (simp; done) | exact ⟨by omega, by omega⟩ | exact ⟨by omega, by simp; omega⟩ | exact ⟨by simp; omega, by simp; omega⟩ | exact ⟨by simp, by simp; omega⟩ | (intro h; rw [h]; rfl) | (intro h; refine ⟨fun h2 => ?_, h⟩; rw [h, h2]; rfl) | (intro h; refine ⟨?_, h⟩; simp [inR] at h; omega) | (intro h; simp [inR] at h; omega) | assumption), ?_⟩
  refine hQ _ _ _ _ _ (RG.nil ?_)
  try simp only [x_tn]
  refine aw_cond _ rfl trivial (fun ht => ?_) (fun hf => by cases hf)
  try simp only [x_seq]
  refine aw_reg 1168 (RG.go fun Q hQ => ?_)
  simp only [RX, eff, ev_t, lk_cons, lkE_cons, setS_cons, setS_nil, setE_cons, AOp.isCall, setD, setEs, presOf, AOp.needs, SV.one?, SV.pre, SV.cells, idsOf, AOp.rds, AOp.ops, SV.ids, C.ids0, bldFold, splice, List.take_succ_cons, List.take_zero, List.drop_succ_cons, List.drop_zero, List.length_cons, List.length_nil, Option.map_some, List.map_cons, List.map_nil, List.nil_append, List.cons_append, true_and, and_self, Bool.false_eq_true, reduceCtorEq, Nat.reduceAdd, Nat.reduceEqDiff, Nat.reduceLeDiff, ↓reduceIte, Nat.zero_add, Nat.le_refl, List.append_nil]
  repeat refine ⟨by (first | omega | (simp; omega) | (simp; done) | exact ⟨by omega, by omega⟩ | exact ⟨by omega, by simp; omega⟩ | exact ⟨by simp; omega, by simp; omega⟩ | exact ⟨by simp, by simp; omega⟩ | (intro h; rw [h]; rfl) | (intro h; refine ⟨fun h2 => ?_, h⟩; rw [h, h2]; rfl) | (intro h; refine ⟨?_, h⟩; simp [inR] at h; omega) | (intro h; simp [inR] at h; omega) | assumption), ?_⟩
  refine hQ _ _ _ _ _ (RG.nil ?_)
  try simp only [x_ret, x_tn, x_tr]
  refine Fin.data [128, 129] (.inr rfl) rfl (by (first | exact trivial | exact ⟨trivial, trivial⟩ | exact ⟨trivial, trivial, trivial⟩)) ?_
  simp only [lkE_cons, WkSV, WkSV1, TrL, frzEs, frzE, setE_cons, Nat.reduceEqDiff, ↓reduceIte, and_true]
  all_goals ((repeat' (first | exact trivial | rfl | exact rfl | (refine ⟨⟨_, _, rfl⟩, ?_⟩; (first | exact drows_brow _ | exact drows_nrow _ | exact drows_irow _ | exact drows_wrow _ | assumption | (simp [isDRows, brow, C.isD]; done) | (rw [← List.map_append]; first | exact drows_brow _ | exact drows_nrow _ | exact drows_irow _ | exact drows_wrow _))) | (simp; done) | refine ⟨?_, ?_⟩)))

end Go.Abs

namespace Go.Abs
open Go Go.Proofs
set_option maxRecDepth 100000
set_option linter.unusedSimpArgs false
set_option maxHeartbeats 4000000

structure PU where
  vol : Int
  chunk : Int
  count : Int
  size : Int
  frm : Int
  to : Int
  floor : Int
  ws : List WR
def puC (vol chunk count size frm to floor : Int) (ws : List WR) : List C := [.v (.int .i64 vol), .v (.int .i64 chunk), .v (.int .i64 count), .v (.int .i64 size), .v (.int .i64 frm), .v (.int .i64 to), .v (.int .i64 floor), .sl (ws.map wrow)]
def pushC (p : PU) : List C := puC p.vol p.chunk p.count p.size p.frm p.to p.floor p.ws

def shIt (first : Int) (x : IT) : IT := ⟨x.b - first, x.d⟩
def inC (count : Int) (x : IT) : Bool := decide (0 ≤ x.b) && decide (x.b < count)
def pushItems (first count : Int) (l : List IT) : List IT := (l.map (shIt first)).filter (inC count)
def pushW (first count : Int) (w : WR) : List WR := if (pushItems first count w.its).isEmpty then [] else [⟨w.s, pushItems first count w.its⟩]
def pushWs (first count : Int) (l : List WR) : List WR := l.flatMap (pushW first count)
def pushTo (v : VOL) (mark : Int) : Int := min (mark + 4) (lenV v)
def pushOk (v : VOL) (n mark : Int) : Bool := decide (0 ≤ n) && decide (n < v.place.length) && decide (0 ≤ mark) && decide (mark ≤ lenV v)
def pushP (v : VOL) (n mark : Int) : PU :=
  ⟨v.id, n, min v.per (v.blocks - n * v.per), v.size, mark, pushTo v mark, min v.floor (pushTo v mark),
    pushWs (n * v.per) (min v.per (v.blocks - n * v.per)) ((v.ws.take (pushTo v mark).toNat).drop mark.toNat)⟩
def pushV (v : VOL) (n mark : Int) : PU × Bool :=
  if pushOk v n mark = true then (pushP v n mark, true) else (⟨0, 0, 0, 0, 0, 0, 0, []⟩, false)

theorem wsR_mem {blocks size : Int} : ∀ {l : List WR} {i : Nat}, wsR blocks size i l = true → ∀ w ∈ l, itemsR blocks size w.its = true
  | [], _, _, w, hw => by cases hw
  | x :: l, i, h, w, hw => by
    simp only [wsR, Bool.and_eq_true] at h
    rcases List.mem_cons.1 hw with rfl | hw
    · exact h.1.2
    · exact wsR_mem h.2 w hw
theorem itemsR_mem {blocks size : Int} {l : List IT} (h : itemsR blocks size l = true) : ∀ x ∈ l, 0 ≤ x.b ∧ x.b < blocks ∧ (x.d.length : Int) = size := by
  intro x hx
  simp only [itemsR, Bool.and_eq_true] at h
  have := List.all_eq_true.1 h.1.2 x hx
  simp [itOk] at this
  omega
theorem shape_facts {v : VOL} (h : shapeV v = true) : 0 ≤ v.id ∧ v.id ≤ 7 ∧ 1 ≤ v.blocks ∧ v.blocks ≤ 256 ∧ 1 ≤ v.size ∧ v.size ≤ 32 ∧ 1 ≤ v.per ∧ v.per ≤ v.blocks ∧ (v.place.length : Int) = chunksN v.blocks v.per ∧ 0 ≤ v.total ∧ v.total ≤ 1099511627776 ∧ ∀ g ∈ v.place, 1 ≤ g ∧ g ≤ 7 := by
  simp only [shapeV, shapeP, Bool.and_eq_true, inR_iff, decide_eq_true_eq, List.all_eq_true] at h
  obtain ⟨⟨⟨⟨⟨⟨s1, s2⟩, s3⟩, s4⟩, s5⟩, s6⟩, s7⟩ := h
  exact ⟨s1.1, s1.2, s2.1, s2.2, s3.1, s3.2, s4.1, s4.2, s5, s6.1, s6.2, s7⟩
theorem right_facts {v : VOL} (h : rightV v = true) : shapeV v = true ∧ 0 ≤ v.floor ∧ v.floor ≤ lenV v ∧ pinsR (lenV v) v.floor v.pins = true ∧ wsR v.blocks v.size 0 v.ws = true := by
  simp only [rightV, Bool.and_eq_true, decide_eq_true_eq] at h
  obtain ⟨⟨⟨⟨⟨⟨⟨s1, s2⟩, s3⟩, s4⟩, s5⟩, s6⟩, s7⟩, s8⟩ := h
  exact ⟨s1, s5, s6, s7, s8⟩
theorem chunk_lt {b p n : Int} (hp : 1 ≤ p) (hb : 1 ≤ b) (h0 : 0 ≤ n) (hn : n < chunksN b p) : n * p < b := by
  unfold chunksN at hn
  rw [Int.tdiv_eq_ediv_of_nonneg (by omega)] at hn
  have h1 := Int.ediv_mul_le (b + p - 1) (show p ≠ 0 by omega)
  have h2 : (n + 1) * p ≤ (b + p - 1) / p * p := Int.mul_le_mul_of_nonneg_right (by omega) (by omega)
  rw [Int.add_mul] at h2
  omega

theorem pushItems_succ (first count : Int) (l : List IT) (k : Nat) (hk : k < l.length) :
    pushItems first count (l.take (k + 1)) = if inC count (shIt first l[k]) = true then pushItems first count (l.take k) ++ [shIt first l[k]] else pushItems first count (l.take k) := by
  unfold pushItems
  rw [take_one l k hk, List.map_append, List.filter_append]
  split
  · rename_i h; simp [h]
  · rename_i h; simp [h]

theorem pushItems_len (first count : Int) (l : List IT) : (pushItems first count l).length ≤ l.length := by
  unfold pushItems
  exact Nat.le_trans (List.length_filter_le ..) (by simp)
theorem pushWs_len (first count : Int) : ∀ l : List WR, (pushWs first count l).length ≤ l.length
  | [] => by simp [pushWs]
  | w :: l => by
    have := pushWs_len first count l
    simp only [pushWs, List.flatMap_cons, List.length_append, List.length_cons] at this ⊢
    have h1 : (pushW first count w).length ≤ 1 := by unfold pushW; split <;> simp
    omega
theorem pushWs_succ (first count : Int) (l : List WR) (i : Nat) (hi : i < l.length) : pushWs first count (l.take (i + 1)) = pushWs first count (l.take i) ++ pushW first count l[i] := by
  unfold pushWs
  rw [take_one l i hi, List.flatMap_append]; simp

theorem volume_Push_con (v : VOL) (n mark : Int) (ok : Vok v) (hr : rightV v = true) :
    Con Try.prog 32 [.agg (volC v), I n, I mark] [] (.tup [.agg (pushC (pushV v n mark).1), B (pushV v n mark).2]) [] := by
  obtain ⟨ok1, ok2, ok3, ok4⟩ := ok
  obtain ⟨hs, hf0, hf1, hpins, hws⟩ := right_facts hr
  obtain ⟨g1, g2, g3, g4, g5, g6, g7, g8, g9, g10, g11, g12⟩ := shape_facts hs
  refine C_volume_Push (Nat.le_of_ble_eq_true rfl) (Nat.le_of_ble_eq_true rfl) ?_
  simp only [A_volume_Push, argL, objL, List.length_nil, Nat.reduceAdd, Nat.zero_add, x_seq]
  refine aw_reg 16 (RG.go fun Q hQ => ?_)
  simp only [RX, eff, ev_t, ev_k, lk_cons, lkE_cons, lkE_nil, setS_cons, setS_nil, setE_cons, setE_nil, AOp.isCall, setD, setEs, presOf, AOp.needs, SV.pre, SV.cells, idsOf, AOp.rds, AOp.ops, SV.ids, List.map_cons, List.map_nil, List.nil_append, true_and, and_self, Bool.false_eq_true, reduceCtorEq, Nat.reduceAdd, Nat.reduceEqDiff, ↓reduceIte, List.append_nil, vC_eq]
  repeat refine ⟨by (first | omega | (simp; omega) | (simp; done) | exact ⟨by omega, by omega⟩ | exact ⟨by omega, by simp; omega⟩ | exact ⟨by simp; omega, by simp; omega⟩ | exact ⟨by simp, by simp; omega⟩ | (intro h; rw [h]; rfl) | (intro h; refine ⟨fun h2 => ?_, h⟩; rw [h, h2]; rfl) | (intro h; refine ⟨?_, h⟩; simp [inR] at h; omega) | (intro h; simp [inR] at h; omega) | assumption), ?_⟩
  refine hQ _ _ _ _ _ (RG.nil ?_)
  try simp only [x_seq, x_tn]
  refine aw_reg 96 (RG.go fun Q hQ => ?_)
  simp only [RX, eff, ev_t, ev_k, lk_cons, lkE_cons, setS_cons, setS_nil, AOp.isCall, setD, setEs, presOf, AOp.needs, SV.one?, SV.pre, gval, binV, idsOf, AOp.rds, AOp.ops, SV.ids, C.ids0, rowsOf, List.take_succ_cons, List.take_zero, List.drop_zero, List.length_cons, List.length_nil, List.getElem?_cons_zero, List.getElem?_cons_succ, Option.map_some, List.map_nil, List.nil_append, List.cons_append, and_true, true_and, and_self, Bool.true_and, Bool.false_eq_true, beq_false, implies_true, imp_self, Bool.if_true_left, Bool.decide_eq_true, reduceCtorEq, ge_iff_le, Nat.reduceAdd, Nat.reduceEqDiff, ↓reduceIte, Option.bind_some, Nat.zero_add, Nat.le_refl, List.append_nil]
  repeat refine ⟨by (first | omega | (simp; omega) | (simp; done) | exact ⟨by omega, by omega⟩ | exact ⟨by omega, by simp; omega⟩ | exact ⟨by simp; omega, by simp; omega⟩ | exact ⟨by simp, by simp; omega⟩ | (intro h; rw [h]; rfl) | (intro h; refine ⟨fun h2 => ?_, h⟩; rw [h, h2]; rfl) | (intro h; refine ⟨?_, h⟩; simp [inR] at h; omega) | (intro h; simp [inR] at h; omega) | assumption), ?_⟩
  refine hQ _ _ _ _ _ ?_
  refine RG.callg _ _ [] rfl (fun hg => ⟨_, (volume_Len_con v), by (repeat' (first | exact tr_nil | refine tr_cons ?_ ?_ | exact tr_v | exact tr_sl | exact tr_nils | exact tr_agg (by repeat' (first | exact trivial | rfl | exact rfl | refine ⟨?_, ?_⟩)) | exact tr_opt (by simpa using hg) tr_v | exact tr_opt (by simpa using hg) tr_sl | exact tr_opt (by simpa using hg) (tr_agg (by repeat' (first | exact trivial | rfl | exact rfl | refine ⟨?_, ?_⟩))))), trivial, by (first | exact .inl trivial | exact .inr ⟨rfl, trivial⟩)⟩) ?_
  refine RG.go fun Q hQ => ?_
  simp only [RX, eff, ev_t, ev_k, lk_cons, setS_cons, setS_nil, AOp.isCall, setD, setEs, presOf, AOp.needs, SV.one?, SV.pre, gval, binV, idsOf, AOp.rds, AOp.ops, SV.ids, C.ids0, Option.map_some, List.map_nil, List.nil_append, and_true, true_and, and_self, Bool.true_and, Bool.false_eq_true, beq_false, implies_true, imp_self, Bool.if_true_left, Bool.decide_eq_true, reduceCtorEq, gt_iff_lt, Nat.reduceAdd, Nat.reduceEqDiff, ↓reduceIte, List.append_nil]
  repeat refine ⟨by (first | omega | (simp; omega) | (simp; done) | exact ⟨by omega, by omega⟩ | exact ⟨by omega, by simp; omega⟩ | exact ⟨by simp; omega, by simp; omega⟩ | exact ⟨by simp, by simp; omega⟩ | (intro h; rw [h]; rfl) | (intro h; refine ⟨fun h2 => ?_, h⟩; rw [h, h2]; rfl) | (intro h; refine ⟨?_, h⟩; simp [inR] at h; omega) | (intro h; simp [inR] at h; omega) | assumption), ?_⟩
  refine hQ _ _ _ _ _ (RG.nil ?_)
  try simp only [x_tn]
  refine aw_cond _ rfl trivial (fun ht => ?_) (fun hf => ?_)
  · have hno : pushV v n mark = (⟨0, 0, 0, 0, 0, 0, 0, []⟩, false) := by
      unfold pushV
      rw [if_neg]
      intro hk
      simp only [pushOk, Bool.and_eq_true, decide_eq_true_eq] at hk
      simp at ht
      omega
    rw [hno]
    try simp only [x_seq]
    refine aw_reg 432 (RG.go fun Q hQ => ?_)
    simp only [RX, eff, ev_t, ev_k, lk_cons, lkE_cons, setS_cons, setS_nil, setE_cons, AOp.isCall, setD, setEs, presOf, AOp.needs, SV.one?, SV.pre, SV.cells, idsOf, AOp.rds, AOp.ops, SV.ids, C.ids0, bldFold, splice, List.take_zero, List.drop_succ_cons, List.drop_zero, List.length_cons, List.length_nil, Option.map_some, List.map_cons, List.map_nil, List.nil_append, List.cons_append, true_and, and_self, Bool.false_eq_true, reduceCtorEq, Nat.reduceAdd, Nat.reduceEqDiff, ↓reduceIte, Nat.zero_add, Nat.le_refl, List.append_nil]
    repeat refine ⟨by (first | omega | (simp; omega) | (simp; done) | exact ⟨by omega, by omega⟩ | exact ⟨by omega, by simp; omega⟩ | exact ⟨by simp; omega, by simp; omega⟩ | exact ⟨by simp, by simp; omega⟩ | (intro h; rw [h]; rfl) | (intro h; refine ⟨fun h2 => ?_, h⟩; rw [h, h2]; rfl) | (intro h; refine ⟨?_, h⟩; simp [inR] at h; omega) | (intro h; simp [inR] at h; omega) | assumption), ?_⟩
    refine hQ _ _ _ _ _ (RG.nil ?_)
    try simp only [x_ret, x_tn, x_tr]
    refine Fin.data [] (.inr rfl) rfl (by (first | exact trivial | exact ⟨trivial, trivial⟩ | exact ⟨trivial, trivial, trivial⟩)) ?_
    simp only [mkSt_sl, lk_cons, WkSV, WkSV1, WkC, WkC0, TrL, frzEs, Nat.reduceEqDiff, ↓reduceIte, reduceCtorEq, and_true]
    all_goals ((repeat' (first | exact trivial | rfl | exact rfl | (refine ⟨⟨_, _, rfl⟩, ?_⟩; (first | exact drows_brow _ | exact drows_nrow _ | exact drows_irow _ | exact drows_wrow _ | assumption | (simp [isDRows, brow, C.isD]; done) | (rw [← List.map_append]; first | exact drows_brow _ | exact drows_nrow _ | exact drows_irow _ | exact drows_wrow _))) | (simp; done) | refine ⟨?_, ?_⟩)))
  have hok : pushOk v n mark = true := by
    simp at hf
    simp only [pushOk, Bool.and_eq_true, decide_eq_true_eq]
    omega
  have hyes : pushV v n mark = (pushP v n mark, true) := by unfold pushV; rw [if_pos hok]
  rw [hyes]
  simp only [pushP]
  simp only [pushOk, Bool.and_eq_true, decide_eq_true_eq] at hok
  obtain ⟨⟨⟨hn0, hn1⟩, hm0⟩, hm1⟩ := hok
  have hnp : n * v.per < v.blocks := chunk_lt g7 g3 hn0 (by rw [← g9]; exact hn1)
  have hnp0 : 0 ≤ n * v.per := Int.mul_nonneg hn0 (by omega)
  obtain ⟨first, hfirst⟩ : ∃ f, f = n * v.per := ⟨_, rfl⟩
  rw [← hfirst] at hnp hnp0 ⊢
  have w1 : IntKind.i64.wrap (n * v.per) = first := by rw [hfirst, w64 _ (by omega) (by omega)]
  have w2 : IntKind.i64.wrap (v.blocks - first) = v.blocks - first := w64 _ (by omega) (by omega)
  have hlen : lenV v ≤ 1000000 := by simp [lenV]; omega
  have w3 : IntKind.i64.wrap (mark + 4) = mark + 4 := w64 _ (by omega) (by omega)
  obtain ⟨to, hto0⟩ : ∃ t, t = pushTo v mark := ⟨_, rfl⟩
  obtain ⟨count, hco0⟩ : ∃ c, c = min v.per (v.blocks - first) := ⟨_, rfl⟩
  rw [← hto0, ← hco0]
  have hto : (if lenV v < mark + 4 then lenV v else mark + 4) = to := by rw [hto0]; unfold pushTo; rw [min_if]
  have hco : (if v.blocks - first < v.per then v.blocks - first else v.per) = count := by rw [hco0, min_if]
  have hto1 : mark ≤ to ∧ to ≤ lenV v := by rw [hto0]; unfold pushTo; omega
  have hcb : 1 ≤ count ∧ count ≤ 256 := by omega
  have hfl : (if to < v.floor then to else v.floor) = min v.floor to := by rw [min_if]
  clear hto0 hco0 hfirst
  try simp only [x_seq, x_skip, x_tn]
  refine aw_reg 512 (RG.go fun Q hQ => ?_)
  simp only [RX, eff, ev_t, lk_cons, lkE_cons, setS_cons, setS_nil, AOp.isCall, setD, setEs, presOf, AOp.needs, SV.one?, SV.pre, binV, idsOf, AOp.rds, AOp.ops, SV.ids, C.ids0, List.getElem?_cons_zero, List.getElem?_cons_succ, Option.map_some, List.map_nil, List.nil_append, List.cons_append, true_and, and_self, Bool.false_eq_true, reduceCtorEq, Nat.reduceAdd, Nat.reduceEqDiff, ↓reduceIte, Nat.zero_add, List.append_nil, w1]
  repeat refine ⟨by (first | omega | (simp; omega) | (simp; done) | exact ⟨by omega, by omega⟩ | exact ⟨by omega, by simp; omega⟩ | exact ⟨by simp; omega, by simp; omega⟩ | exact ⟨by simp, by simp; omega⟩ | (intro h; rw [h]; rfl) | (intro h; refine ⟨fun h2 => ?_, h⟩; rw [h, h2]; rfl) | (intro h; refine ⟨?_, h⟩; simp [inR] at h; omega) | (intro h; simp [inR] at h; omega) | assumption), ?_⟩
  refine hQ _ _ _ _ _ (RG.nil ?_)
  try simp only [x_seq, x_tn]
  refine aw_draw 624 (RG.go fun Q hQ => ?_)
  simp only [RX, eff, foldMx, ev_t, ev_k, lk_cons, lkE_cons, setS_cons, setS_nil, AOp.isCall, setD, setEs, presOf, AOp.needs, SV.one?, SV.pre, binV, idsOf, AOp.rds, AOp.ops, SV.ids, C.ids0, List.take_succ_cons, List.take_zero, List.drop_zero, List.length_cons, List.length_nil, List.getElem?_cons_zero, List.getElem?_cons_succ, Option.map_some, List.map_cons, List.map_nil, List.nil_append, List.cons_append, true_and, and_self, Bool.false_eq_true, reduceCtorEq, Nat.reduceAdd, Nat.reduceEqDiff, ↓reduceIte, Nat.zero_add, Nat.le_refl, List.append_nil, Nat.add_zero, w2, hco, w3]
  repeat refine ⟨by (first | omega | (simp; omega) | (simp; done) | exact ⟨by omega, by omega⟩ | exact ⟨by omega, by simp; omega⟩ | exact ⟨by simp; omega, by simp; omega⟩ | exact ⟨by simp, by simp; omega⟩ | (intro h; rw [h]; rfl) | (intro h; refine ⟨fun h2 => ?_, h⟩; rw [h, h2]; rfl) | (intro h; refine ⟨?_, h⟩; simp [inR] at h; omega) | (intro h; simp [inR] at h; omega) | assumption), ?_⟩
  refine hQ _ _ _ _ _ ?_
  refine RG.call [] (volume_Len_con v) (by (repeat' (first | exact tr_nil | refine tr_cons ?_ ?_ | exact tr_v | exact tr_sl | exact tr_nils | exact tr_agg (by repeat' (first | exact trivial | rfl | exact rfl | refine ⟨?_, ?_⟩)) | exact tr_opt (by simpa using hg) tr_v | exact tr_opt (by simpa using hg) tr_sl | exact tr_opt (by simpa using hg) (tr_agg (by repeat' (first | exact trivial | rfl | exact rfl | refine ⟨?_, ?_⟩)))))) trivial (by (first | exact .inl trivial | exact .inr ⟨rfl, trivial⟩)) ?_
  refine RG.go fun Q hQ => ?_
  simp only [RX, eff, foldMx, ev_t, lk_cons, lkE_cons, lkE_nil, setS_cons, setS_nil, setE_cons, setE_nil, AOp.isCall, setD, setEs, presOf, AOp.needs, SV.one?, SV.pre, SV.cells, idsOf, AOp.rds, AOp.ops, SV.ids, C.ids0, bldFold, splice, List.take_succ_cons, List.take_zero, List.drop_succ_cons, List.drop_zero, List.length_cons, List.length_nil, Option.map_some, List.map_cons, List.map_nil, List.nil_append, List.cons_append, true_and, and_self, Bool.false_eq_true, reduceCtorEq, Nat.reduceAdd, Nat.reduceEqDiff, Nat.reduceLeDiff, ↓reduceIte, Nat.zero_add, Nat.le_refl, List.append_nil]
  simp only [I, hto]
  repeat refine ⟨by (first | omega | (simp; omega) | (simp; done) | exact ⟨by omega, by omega⟩ | exact ⟨by omega, by simp; omega⟩ | exact ⟨by simp; omega, by simp; omega⟩ | exact ⟨by simp, by simp; omega⟩ | (intro h; rw [h]; rfl) | (intro h; refine ⟨fun h2 => ?_, h⟩; rw [h, h2]; rfl) | (intro h; refine ⟨?_, h⟩; simp [inR] at h; omega) | (intro h; simp [inR] at h; omega) | assumption), ?_⟩
  refine hQ _ _ _ _ _ (RG.nil ⟨by decide +kernel, ?_⟩)
  try simp only [x_seq, x_tn]
  refine aw_reg 992 (RG.go fun Q hQ => ?_)
  simp only [RX, eff, foldMx, ev_t, lk_cons, lkE_cons, setS_cons, setS_nil, setE_cons, AOp.isCall, setD, setEs, presOf, AOp.needs, SV.one?, SV.pre, SV.cells, idsOf, AOp.rds, AOp.ops, SV.ids, C.ids0, splice, List.take_succ_cons, List.take_zero, List.drop_succ_cons, List.drop_zero, List.length_cons, List.length_nil, List.getElem?_cons_zero, List.getElem?_cons_succ, Option.map_some, List.map_cons, List.map_nil, List.nil_append, List.cons_append, true_and, and_self, Bool.false_eq_true, reduceCtorEq, Nat.reduceAdd, Nat.reduceEqDiff, Nat.reduceLeDiff, ↓reduceIte, Nat.zero_add, List.append_nil, hfl, foldMx]
  repeat refine ⟨by (first | omega | (simp; omega) | (simp; done) | exact ⟨by omega, by omega⟩ | exact ⟨by omega, by simp; omega⟩ | exact ⟨by simp; omega, by simp; omega⟩ | exact ⟨by simp, by simp; omega⟩ | (intro h; rw [h]; rfl) | (intro h; refine ⟨fun h2 => ?_, h⟩; rw [h, h2]; rfl) | (intro h; refine ⟨?_, h⟩; simp [inR] at h; omega) | (intro h; simp [inR] at h; omega) | assumption), ?_⟩
  refine hQ _ _ _ _ _ (RG.nil ?_)
  try simp only [x_seq, x_tn]
  have hsl : List.drop mark.toNat (List.take to.toNat (v.ws.map wrow)) = ((v.ws.take to.toNat).drop mark.toNat).map wrow := by rw [List.map_drop, List.map_take]
  have hsub : ∀ w ∈ (v.ws.take to.toNat).drop mark.toNat, w ∈ v.ws := fun w hw => List.mem_of_mem_take (List.mem_of_mem_drop hw)
  have hsubl : ((v.ws.take to.toNat).drop mark.toNat).length ≤ 1000000 := by simp; omega
  refine aw_reg 1136 (RG.go fun Q hQ => ?_)
  simp only [RX, eff, Nat.reduceMod, Nat.zero_ne_one, ev_t, ev_k, lk_cons, lkE_cons, setS_cons, setS_nil, AOp.isCall, setD, setEs, presOf, AOp.needs, SV.one?, SV.pre, idsOf, AOp.rds, AOp.ops, SV.ids, C.ids0, sliceTo, rowsOf, bnd, bnd', Option.getD_some, List.getElem?_cons_zero, List.getElem?_cons_succ, Option.map_some, List.map_nil, List.nil_append, List.cons_append, true_and, and_self, Bool.false_eq_true, reduceCtorEq, Nat.reduceAdd, Nat.reduceEqDiff, ↓reduceIte, Option.bind_some, Nat.zero_add, List.append_nil, Option.toList_some, hsl]
  refine ⟨⟨hm0, hto1.1, by simp [lenV] at hto1 ⊢; omega, wrow_len _⟩, hQ _ _ _ _ _ (RG.nil ?_)⟩
  try simp only [x_block, x_tn]
  obtain ⟨sub, hsube⟩ : ∃ s, s = (v.ws.take to.toNat).drop mark.toNat := ⟨_, rfl⟩
  rw [← hsube] at hsub hsubl ⊢
  refine aw_loopK (X := { i : Nat // i ≤ sub.length }) [6, 8, 9, 70, 71] (fun i => [(72, I i.1)]) [32] (fun i => [(928, .box [.v (.int .i64 v.id), .v (.int .i64 n), .v (.int .i64 count), .v (.int .i64 v.size), .v (.int .i64 mark), .v (.int .i64 to), .v (.int .i64 (min v.floor to)), .osl 5000]), (5000, .arr 55 2 ((pushWs first count (sub.take i.1)).map wrow) false)]) (fun i => sub.length - i.1) (⟨0, by omega⟩) ?_ ?_
  · skip
    simp only [keepS, keepE, Option.getD_some, lk_cons, lkE_cons, List.cons_append, List.nil_append, Nat.reduceEqDiff, ↓reduceIte, reduceCtorEq]
    refine (Le.ownB 928 7 5000 _ 55 2 rfl rfl rfl (by decide)).trans ?_
    simp only [List.set_cons_succ, List.set_cons_zero, setE_cons, setE_nil, Nat.reduceEqDiff, ↓reduceIte]
    refine Le.lit [] [] _ _ ?_ ?_ ?_ ?_
    · simp only [Int.cast_ofNat_Int, allL, lk_cons, lkE_cons, lkE_nil, WkSV, WkSV1, WkC, WkC0, rlook, frzEs, Nat.reduceEqDiff, ↓reduceIte, reduceCtorEq, and_true, ne_eq, not_false_eq_true]
      all_goals (try ((repeat' (first | exact trivial | rfl | exact rfl | (refine ⟨⟨_, _, rfl⟩, ?_⟩; (first | exact drows_brow _ | exact drows_nrow _ | exact drows_irow _ | exact drows_wrow _ | assumption | (simp [isDRows, brow, C.isD]; done) | (rw [← List.map_append]; first | exact drows_brow _ | exact drows_nrow _ | exact drows_irow _ | exact drows_wrow _))) | (simp; done) | refine ⟨?_, ?_⟩))))
    · simp only [allL, lkE_cons, lkE_nil, WkC, WkC0, WkEnt, TrL, rlook, frzEs, isDRows, Option.some.injEq, Nat.reduceEqDiff, ↓reduceIte, reduceCtorEq, true_and, and_true, exists_eq_left', ne_eq, not_false_eq_true, true_or]
      all_goals (try ((repeat' (first | (first | exact drows_brow _ | exact drows_nrow _ | exact drows_irow _ | exact drows_wrow _ | assumption | (simp [C.isD]; done) | (rw [← List.map_append]; first | exact drows_brow _ | exact drows_nrow _ | exact drows_irow _ | exact drows_wrow _)) | rfl | refine ⟨?_, ?_⟩ | (left; (first | exact drows_brow _ | exact drows_nrow _ | exact drows_irow _ | exact drows_wrow _ | assumption | (simp [isDRows, brow, C.isD]; done) | (rw [← List.map_append]; first | exact drows_brow _ | exact drows_nrow _ | exact drows_irow _ | exact drows_wrow _)))))))
    · simp [rlook]
    · first | (simp; done) | (intro k hk; simp [rlook]; omega)
  rintro ⟨i, hi⟩
  simp only [keepS, keepE, Option.getD_some, lk_cons, lkE_cons, List.cons_append, List.nil_append, Nat.reduceEqDiff, ↓reduceIte, reduceCtorEq]
  try simp only [x_seq]
  refine aw_reg 1312 (RG.go fun Q hQ => ?_)
  simp only [RX, eff, ev_t, lk_cons, setS_cons, setS_nil, AOp.isCall, setD, setEs, presOf, AOp.needs, SV.one?, SV.pre, binV, idsOf, AOp.rds, AOp.ops, SV.ids, C.ids0, Option.map_some, List.map_nil, List.nil_append, true_and, and_self, Bool.false_eq_true, Nat.reduceAdd, Nat.reduceEqDiff, ↓reduceIte, List.append_nil]
  repeat refine ⟨by (first | omega | (simp; omega) | (simp; done) | exact ⟨by omega, by omega⟩ | exact ⟨by omega, by simp; omega⟩ | exact ⟨by simp; omega, by simp; omega⟩ | exact ⟨by simp, by simp; omega⟩ | (intro h; rw [h]; rfl) | (intro h; refine ⟨fun h2 => ?_, h⟩; rw [h, h2]; rfl) | (intro h; refine ⟨?_, h⟩; simp [inR] at h; omega) | (intro h; simp [inR] at h; omega) | assumption), ?_⟩
  refine hQ _ _ _ _ _ (RG.nil ?_)
  try simp only [x_seq, x_tn]
  refine aw_cond _ rfl trivial (fun ht => ?_) (fun hf => ?_)
  · have hi' : i < sub.length := by simpa using ht
    have hr : ((sub.map wrow)[((i : Int)).toNat]?).getD [] = [.v (.int .i64 sub[i].s), .sl (sub[i].its.map irow)] := map_get wrow hi' []
    have hmem := hsub _ (List.getElem_mem hi')
    obtain ⟨hz1, hz2⟩ := ok4 _ hmem
    have hrng := itemsR_mem (wsR_mem hws _ hmem)
    have hsucc := pushWs_succ first count sub i hi'
    have hwl : (pushWs first count (sub.take i)).length ≤ 1000000 := by have := pushWs_len first count (sub.take i); simp at this; omega
    have hpl := pushItems_len first count sub[i].its
    generalize sub[i] = w at *
    try simp only [x_seq, x_block, x_skip, x_tn]
    refine aw_reg 1360 (RG.go fun Q hQ => ?_)
    simp only [RX, eff, ev_t, lk_cons, lkE_cons, lkE_nil, setS_cons, setS_nil, setE_cons, setE_nil, AOp.isCall, setD, setEs, presOf, AOp.needs, SV.one?, SV.pre, SV.cells, idsOf, AOp.rds, AOp.ops, SV.ids, C.ids0, splice, List.take_succ_cons, List.take_zero, List.drop_succ_cons, List.drop_zero, List.length_cons, List.length_nil, List.map_cons, List.map_nil, List.nil_append, List.cons_append, and_true, true_and, and_self, Bool.false_eq_true, Nat.reduceAdd, Nat.reduceEqDiff, ↓reduceIte, Nat.zero_add, Nat.le_refl, List.append_nil, hr]
    repeat refine ⟨by (first | omega | (simp; omega) | (simp; done) | exact ⟨by omega, by omega⟩ | exact ⟨by omega, by simp; omega⟩ | exact ⟨by simp; omega, by simp; omega⟩ | exact ⟨by simp, by simp; omega⟩ | (intro h; rw [h]; rfl) | (intro h; refine ⟨fun h2 => ?_, h⟩; rw [h, h2]; rfl) | (intro h; refine ⟨?_, h⟩; simp [inR] at h; omega) | (intro h; simp [inR] at h; omega) | assumption), ?_⟩
    refine hQ _ _ _ _ _ (RG.nil ?_)
    try simp only [x_seq, x_tn]
    refine aw_reg 1456 (RG.go fun Q hQ => ?_)
    simp only [RX, eff, ev_k, setS_cons, setS_nil, AOp.isCall, setD, setEs, presOf, AOp.needs, idsOf, AOp.rds, List.map_nil, List.nil_append, true_and, Bool.false_eq_true, Nat.reduceAdd, Nat.reduceEqDiff, ↓reduceIte]
    repeat refine ⟨by (first | omega | (simp; omega) | (simp; done) | exact ⟨by omega, by omega⟩ | exact ⟨by omega, by simp; omega⟩ | exact ⟨by simp; omega, by simp; omega⟩ | exact ⟨by simp, by simp; omega⟩ | (intro h; rw [h]; rfl) | (intro h; refine ⟨fun h2 => ?_, h⟩; rw [h, h2]; rfl) | (intro h; refine ⟨?_, h⟩; simp [inR] at h; omega) | (intro h; simp [inR] at h; omega) | assumption), ?_⟩
    refine hQ _ _ _ _ _ (RG.nil ?_)
    try simp only [x_seq, x_tn]
    refine aw_reg 1504 (RG.go fun Q hQ => ?_)
    simp only [RX, eff, ev_t, lk_cons, lkE_cons, setS_cons, setS_nil, AOp.isCall, setD, setEs, presOf, AOp.needs, SV.one?, SV.pre, idsOf, AOp.rds, AOp.ops, SV.ids, C.ids0, List.getElem?_cons_zero, List.getElem?_cons_succ, Option.map_some, List.map_nil, List.nil_append, List.cons_append, true_and, and_self, Bool.false_eq_true, Nat.reduceAdd, Nat.reduceEqDiff, ↓reduceIte, Nat.zero_add, List.append_nil]
    repeat refine ⟨by (first | omega | (simp; omega) | (simp; done) | exact ⟨by omega, by omega⟩ | exact ⟨by omega, by simp; omega⟩ | exact ⟨by simp; omega, by simp; omega⟩ | exact ⟨by simp, by simp; omega⟩ | (intro h; rw [h]; rfl) | (intro h; refine ⟨fun h2 => ?_, h⟩; rw [h, h2]; rfl) | (intro h; refine ⟨?_, h⟩; simp [inR] at h; omega) | (intro h; simp [inR] at h; omega) | assumption), ?_⟩
    refine hQ _ _ _ _ _ ?_
    refine RG.call [] (itemsD_con w.its hz1 hz2) (by (repeat' (first | exact tr_nil | refine tr_cons ?_ ?_ | exact tr_v | exact tr_sl | exact tr_nils | exact tr_agg (by repeat' (first | exact trivial | rfl | exact rfl | refine ⟨?_, ?_⟩)) | exact tr_opt (by simpa using hg) tr_v | exact tr_opt (by simpa using hg) tr_sl | exact tr_opt (by simpa using hg) (tr_agg (by repeat' (first | exact trivial | rfl | exact rfl | refine ⟨?_, ?_⟩)))))) trivial (by (first | exact .inl trivial | exact .inr ⟨rfl, trivial⟩)) ?_
    refine RG.go fun Q hQ => ?_
    simp only [RX, eff, ev_t, ev_k, lk_cons, setS_cons, setS_nil, AOp.isCall, setD, setEs, presOf, AOp.needs, SV.one?, SV.pre, idsOf, AOp.rds, AOp.ops, SV.ids, C.ids0, rowsOf, List.map_nil, List.nil_append, true_and, and_self, Bool.false_eq_true, Nat.reduceAdd, Nat.reduceEqDiff, ↓reduceIte, Option.bind_some, List.append_nil]
    repeat refine ⟨by (first | omega | (simp; omega) | (simp; done) | exact ⟨by omega, by omega⟩ | exact ⟨by omega, by simp; omega⟩ | exact ⟨by simp; omega, by simp; omega⟩ | exact ⟨by simp, by simp; omega⟩ | (intro h; rw [h]; rfl) | (intro h; refine ⟨fun h2 => ?_, h⟩; rw [h, h2]; rfl) | (intro h; refine ⟨?_, h⟩; simp [inR] at h; omega) | (intro h; simp [inR] at h; omega) | assumption), ?_⟩
    refine hQ _ _ _ _ _ (RG.nil ?_)
    try simp only [x_block, x_tn]
    refine aw_loopK (X := { k : Nat // k ≤ w.its.length }) [6, 8, 9, 11, 70, 71, 72, 78, 79] (fun k => [(12, .c (.osl 5001)), (80, I k.1)]) [32, 928, 5000, 1392] (fun k => [(5001, .arr 76 2 ((pushItems first count (w.its.take k.1)).map irow) false)]) (fun k => w.its.length - k.1) (⟨0, by omega⟩) ?_ ?_
    · skip
      simp only [keepS, keepE, Option.getD_some, lk_cons, lkE_cons, List.cons_append, List.nil_append, Nat.reduceEqDiff, ↓reduceIte]
      refine (Le.own 12 5001 76 2 rfl rfl (by decide)).trans ?_
      simp only [setS_cons, setE_cons, setE_nil, Nat.reduceEqDiff, ↓reduceIte]
      refine Le.lit [] [] _ _ ?_ ?_ ?_ ?_
      · simp only [Int.cast_ofNat_Int, allL, lk_cons, lkE_cons, lkE_nil, WkSV, WkSV1, WkC, WkC0, rlook, frzEs, Nat.reduceEqDiff, ↓reduceIte, reduceCtorEq, and_true, ne_eq, not_false_eq_true]
        all_goals (try ((repeat' (first | exact trivial | rfl | exact rfl | (refine ⟨⟨_, _, rfl⟩, ?_⟩; (first | exact drows_brow _ | exact drows_nrow _ | exact drows_irow _ | exact drows_wrow _ | assumption | (simp [isDRows, brow, C.isD]; done) | (rw [← List.map_append]; first | exact drows_brow _ | exact drows_nrow _ | exact drows_irow _ | exact drows_wrow _))) | (simp; done) | refine ⟨?_, ?_⟩))))
      · simp only [allL, lkE_cons, lkE_nil, WkC, WkC0, WkEnt, TrL, rlook, frzEs, isDRows, Option.some.injEq, Nat.reduceEqDiff, ↓reduceIte, reduceCtorEq, true_and, and_true, exists_eq_left', ne_eq, not_false_eq_true, true_or]
        all_goals (try ((repeat' (first | (first | exact drows_brow _ | exact drows_nrow _ | exact drows_irow _ | exact drows_wrow _ | assumption | (simp [C.isD]; done) | (rw [← List.map_append]; first | exact drows_brow _ | exact drows_nrow _ | exact drows_irow _ | exact drows_wrow _)) | rfl | refine ⟨?_, ?_⟩ | (left; (first | exact drows_brow _ | exact drows_nrow _ | exact drows_irow _ | exact drows_wrow _ | assumption | (simp [isDRows, brow, C.isD]; done) | (rw [← List.map_append]; first | exact drows_brow _ | exact drows_nrow _ | exact drows_irow _ | exact drows_wrow _)))))))
      · simp [rlook]
      · first | (simp; done) | (intro k hk; simp [rlook]; omega)
    rintro ⟨k, hk⟩
    simp only [keepS, keepE, Option.getD_some, lk_cons, lkE_cons, List.cons_append, List.nil_append, Nat.reduceEqDiff, ↓reduceIte]
    try simp only [x_seq]
    refine aw_reg 1616 (RG.go fun Q hQ => ?_)
    simp only [RX, eff, ev_t, lk_cons, setS_cons, setS_nil, AOp.isCall, setD, setEs, presOf, AOp.needs, SV.one?, SV.pre, binV, idsOf, AOp.rds, AOp.ops, SV.ids, C.ids0, Option.map_some, List.map_nil, List.nil_append, true_and, and_self, Bool.false_eq_true, Nat.reduceAdd, Nat.reduceEqDiff, ↓reduceIte, List.append_nil]
    repeat refine ⟨by (first | omega | (simp; omega) | (simp; done) | exact ⟨by omega, by omega⟩ | exact ⟨by omega, by simp; omega⟩ | exact ⟨by simp; omega, by simp; omega⟩ | exact ⟨by simp, by simp; omega⟩ | (intro h; rw [h]; rfl) | (intro h; refine ⟨fun h2 => ?_, h⟩; rw [h, h2]; rfl) | (intro h; refine ⟨?_, h⟩; simp [inR] at h; omega) | (intro h; simp [inR] at h; omega) | assumption), ?_⟩
    refine hQ _ _ _ _ _ (RG.nil ?_)
    try simp only [x_seq, x_tn]
    refine aw_cond _ rfl trivial (fun ht => ?_) (fun hf => ?_)
    · have hk' : k < w.its.length := by simpa using ht
      have hr2 : ((w.its.map irow)[((k : Int)).toNat]?).getD [] = [.v (.int .i64 w.its[k].b), .sl (w.its[k].d.map brow)] := map_get irow hk' []
      have hps := pushItems_succ first count w.its k hk'
      have hpk : (pushItems first count (w.its.take k)).length ≤ 1000000 := by have := pushItems_len first count (w.its.take k); simp at this; omega
      obtain ⟨q1, q2, q3⟩ := hrng _ (List.getElem_mem hk')
      have w5 : IntKind.i64.wrap (w.its[k].b - first) = w.its[k].b - first := w64 _ (by omega) (by omega)
      try simp only [x_seq, x_block, x_skip, x_tn]
      refine aw_reg 1664 (RG.go fun Q hQ => ?_)
      simp only [RX, eff, ev_t, lk_cons, lkE_cons, lkE_nil, setS_cons, setS_nil, setE_cons, setE_nil, AOp.isCall, setD, setEs, presOf, AOp.needs, SV.one?, SV.pre, SV.cells, idsOf, AOp.rds, AOp.ops, SV.ids, C.ids0, splice, List.take_succ_cons, List.take_zero, List.drop_succ_cons, List.drop_zero, List.length_cons, List.length_nil, List.map_cons, List.map_nil, List.nil_append, List.cons_append, and_true, true_and, and_self, Bool.false_eq_true, Nat.reduceAdd, Nat.reduceEqDiff, ↓reduceIte, Nat.zero_add, Nat.le_refl, List.append_nil, hr2]
      repeat refine ⟨by (first | omega | (simp; omega) | (simp; done) | exact ⟨by omega, by omega⟩ | exact ⟨by omega, by simp; omega⟩ | exact ⟨by simp; omega, by simp; omega⟩ | exact ⟨by simp, by simp; omega⟩ | (intro h; rw [h]; rfl) | (intro h; refine ⟨fun h2 => ?_, h⟩; rw [h, h2]; rfl) | (intro h; refine ⟨?_, h⟩; simp [inR] at h; omega) | (intro h; simp [inR] at h; omega) | assumption), ?_⟩
      refine hQ _ _ _ _ _ (RG.nil ?_)
      try simp only [x_seq, x_tn]
      refine aw_reg 1760 (RG.go fun Q hQ => ?_)
      simp only [RX, eff, ev_t, lk_cons, lkE_cons, setS_cons, setS_nil, setE_cons, AOp.isCall, setD, setEs, presOf, AOp.needs, SV.one?, SV.pre, SV.cells, binV, idsOf, AOp.rds, AOp.ops, SV.ids, C.ids0, splice, List.take_zero, List.drop_succ_cons, List.drop_zero, List.length_cons, List.length_nil, List.getElem?_cons_zero, Option.map_some, List.map_cons, List.map_nil, List.nil_append, List.cons_append, true_and, and_self, Bool.false_eq_true, Nat.reduceAdd, Nat.reduceEqDiff, Nat.reduceLeDiff, ↓reduceIte, Nat.zero_add, List.append_nil, Nat.add_zero, w5]
      repeat refine ⟨by (first | omega | (simp; omega) | (simp; done) | exact ⟨by omega, by omega⟩ | exact ⟨by omega, by simp; omega⟩ | exact ⟨by simp; omega, by simp; omega⟩ | exact ⟨by simp, by simp; omega⟩ | (intro h; rw [h]; rfl) | (intro h; refine ⟨fun h2 => ?_, h⟩; rw [h, h2]; rfl) | (intro h; refine ⟨?_, h⟩; simp [inR] at h; omega) | (intro h; simp [inR] at h; omega) | assumption), ?_⟩
      refine hQ _ _ _ _ _ (RG.nil ?_)
      try simp only [x_seq, x_tn]
      refine aw_reg 1888 (RG.go fun Q hQ => ?_)
      simp only [RX, eff, ev_t, ev_k, lk_cons, lkE_cons, setS_cons, setS_nil, AOp.isCall, setD, setEs, presOf, AOp.needs, SV.one?, SV.pre, gval, binV, idsOf, AOp.rds, AOp.ops, SV.ids, C.ids0, List.getElem?_cons_zero, List.getElem?_cons_succ, Option.map_some, List.map_nil, List.nil_append, List.cons_append, and_true, true_and, and_self, Bool.true_and, Bool.false_eq_true, beq_true, implies_true, imp_self, Bool.if_false_right, Bool.decide_eq_true, ge_iff_le, Nat.reduceAdd, Nat.reduceEqDiff, ↓reduceIte, Nat.zero_add, List.append_nil, Nat.add_zero]
      repeat refine ⟨by (first | omega | (simp; omega) | (simp; done) | exact ⟨by omega, by omega⟩ | exact ⟨by omega, by simp; omega⟩ | exact ⟨by simp; omega, by simp; omega⟩ | exact ⟨by simp, by simp; omega⟩ | (intro h; rw [h]; rfl) | (intro h; refine ⟨fun h2 => ?_, h⟩; rw [h, h2]; rfl) | (intro h; refine ⟨?_, h⟩; simp [inR] at h; omega) | (intro h; simp [inR] at h; omega) | assumption), ?_⟩
      refine hQ _ _ _ _ _ (RG.nil ?_)
      try simp only [x_tn]
      refine aw_cond _ rfl trivial (fun ht => ?_) (fun hf => ?_)
      · have hin : inC count (shIt first w.its[k]) = true := ht
        rw [if_pos hin] at hps
        try simp only [x_seq, x_block, x_skip, x_ret, x_exit, x_tn, x_tr, x_tx, x_bn, x_br, x_bx, x_ln, x_lr, x_lx, Nat.reduceEqDiff, ↓reduceIte, if_true, if_false, reduceCtorEq]
        refine aw_reg 2080 (RG.go fun Q hQ => ?_)
        simp only [RX, eff, ev_t, lk_cons, lkE_cons, lkE_nil, setS_cons, setS_nil, setE_cons, setE_nil, AOp.isCall, setD, setEs, presOf, AOp.needs, SV.one?, SV.pre, SV.cells, idsOf, AOp.rds, AOp.ops, SV.ids, C.ids0, rowsOf, srcOf, bSRows, List.take_succ_cons, List.take_zero, List.drop_zero, List.length_cons, List.length_nil, Option.map_some, List.map_cons, List.map_nil, List.nil_append, List.cons_append, true_and, and_self, Bool.false_eq_true, Nat.reduceAdd, Nat.reduceEqDiff, ↓reduceIte, Nat.zero_add, Nat.le_refl, List.append_nil]
        repeat refine ⟨by (first | omega | (simp; omega) | (simp; done) | exact ⟨by omega, by omega⟩ | exact ⟨by omega, by simp; omega⟩ | exact ⟨by simp; omega, by simp; omega⟩ | exact ⟨by simp, by simp; omega⟩ | (intro h; rw [h]; rfl) | (intro h; refine ⟨fun h2 => ?_, h⟩; rw [h, h2]; rfl) | (intro h; refine ⟨?_, h⟩; simp [inR] at h; omega) | (intro h; simp [inR] at h; omega) | assumption), ?_⟩
        refine hQ _ _ _ _ _ (RG.nil ?_)
        try simp only [x_tn, x_bn]
        refine aw_reg 2192 (RG.go fun Q hQ => ?_)
        simp only [RX, eff, ev_t, ev_k, lk_cons, setS_cons, setS_nil, AOp.isCall, setD, setEs, presOf, AOp.needs, SV.one?, SV.pre, binV, idsOf, AOp.rds, AOp.ops, SV.ids, C.ids0, Option.map_some, List.map_nil, List.nil_append, true_and, and_self, Bool.false_eq_true, Nat.reduceAdd, Nat.reduceEqDiff, ↓reduceIte, List.append_nil, wi k _ hk' (by omega)]
        repeat refine ⟨by (first | omega | (simp; omega) | (simp; done) | exact ⟨by omega, by omega⟩ | exact ⟨by omega, by simp; omega⟩ | exact ⟨by simp; omega, by simp; omega⟩ | exact ⟨by simp, by simp; omega⟩ | (intro h; rw [h]; rfl) | (intro h; refine ⟨fun h2 => ?_, h⟩; rw [h, h2]; rfl) | (intro h; refine ⟨?_, h⟩; simp [inR] at h; omega) | (intro h; simp [inR] at h; omega) | assumption), ?_⟩
        refine hQ _ _ _ _ _ (RG.nil ?_)
        try simp only [x_ln]
        refine ⟨⟨k + 1, hk'⟩, ?_, by simp only; omega⟩
        refine Le.lit [] [(5001, 2128)] _ _ ?_ ?_ ?_ ?_
        · simp only [allL, lk_cons, lkE_cons, lkE_nil, WkSV, WkSV1, WkC, WkC0, rlook, frzEs, Nat.reduceEqDiff, ↓reduceIte, reduceCtorEq, and_true, ne_eq, not_false_eq_true]
          all_goals (try ((repeat' (first | exact trivial | rfl | exact rfl | (refine ⟨⟨_, _, rfl⟩, ?_⟩; (first | exact drows_brow _ | exact drows_nrow _ | exact drows_irow _ | exact drows_wrow _ | assumption | (simp [isDRows, brow, C.isD]; done) | (rw [← List.map_append]; first | exact drows_brow _ | exact drows_nrow _ | exact drows_irow _ | exact drows_wrow _))) | (simp; done) | refine ⟨?_, ?_⟩))))
        · simp only [allL, lkE_cons, lkE_nil, WkC, WkC0, WkEnt, TrL, rlook, frzEs, isDRows, Option.some.injEq, Nat.reduceEqDiff, ↓reduceIte, reduceCtorEq, true_and, and_true, exists_eq_left', ne_eq, not_false_eq_true, true_or]
          all_goals (rw [hps, List.map_append]; (repeat' (first | (first | exact drows_brow _ | exact drows_nrow _ | exact drows_irow _ | exact drows_wrow _ | assumption | (simp [C.isD]; done) | (rw [← List.map_append]; first | exact drows_brow _ | exact drows_nrow _ | exact drows_irow _ | exact drows_wrow _)) | rfl | refine ⟨?_, ?_⟩ | (left; (first | exact drows_brow _ | exact drows_nrow _ | exact drows_irow _ | exact drows_wrow _ | assumption | (simp [isDRows, brow, C.isD]; done) | (rw [← List.map_append]; first | exact drows_brow _ | exact drows_nrow _ | exact drows_irow _ | exact drows_wrow _))))))
        · simp [rlook]
        · first | (simp; done) | (intro k hk; simp [rlook]; omega)
      have hin : inC count (shIt first w.its[k]) = false := hf
      rw [hin, if_neg (by simp)] at hps
      try simp only [x_skip, x_tn, x_bn]
      refine aw_reg 2256 (RG.go fun Q hQ => ?_)
      simp only [RX, eff, ev_t, ev_k, lk_cons, setS_cons, setS_nil, AOp.isCall, setD, setEs, presOf, AOp.needs, SV.one?, SV.pre, binV, idsOf, AOp.rds, AOp.ops, SV.ids, C.ids0, Option.map_some, List.map_nil, List.nil_append, true_and, and_self, Bool.false_eq_true, Nat.reduceAdd, Nat.reduceEqDiff, ↓reduceIte, List.append_nil, wi k _ hk' (by omega)]
      repeat refine ⟨by (first | omega | (simp; omega) | (simp; done) | exact ⟨by omega, by omega⟩ | exact ⟨by omega, by simp; omega⟩ | exact ⟨by simp; omega, by simp; omega⟩ | exact ⟨by simp, by simp; omega⟩ | (intro h; rw [h]; rfl) | (intro h; refine ⟨fun h2 => ?_, h⟩; rw [h, h2]; rfl) | (intro h; refine ⟨?_, h⟩; simp [inR] at h; omega) | (intro h; simp [inR] at h; omega) | assumption), ?_⟩
      refine hQ _ _ _ _ _ (RG.nil ?_)
      try simp only [x_ln]
      refine ⟨⟨k + 1, hk'⟩, ?_, by simp only; omega⟩
      refine Le.lit [] [] _ _ ?_ ?_ ?_ ?_
      · simp only [allL, lk_cons, lkE_cons, lkE_nil, WkSV, WkSV1, WkC, WkC0, rlook, frzEs, Nat.reduceEqDiff, ↓reduceIte, reduceCtorEq, and_true, ne_eq, not_false_eq_true]
        all_goals (try ((repeat' (first | exact trivial | rfl | exact rfl | (refine ⟨⟨_, _, rfl⟩, ?_⟩; (first | exact drows_brow _ | exact drows_nrow _ | exact drows_irow _ | exact drows_wrow _ | assumption | (simp [isDRows, brow, C.isD]; done) | (rw [← List.map_append]; first | exact drows_brow _ | exact drows_nrow _ | exact drows_irow _ | exact drows_wrow _))) | (simp; done) | refine ⟨?_, ?_⟩))))
      · simp only [allL, lkE_cons, lkE_nil, WkC, WkC0, WkEnt, TrL, rlook, frzEs, isDRows, Option.some.injEq, Nat.reduceEqDiff, ↓reduceIte, reduceCtorEq, true_and, and_true, exists_eq_left', ne_eq, not_false_eq_true, true_or]
        all_goals (rw [hps]; (repeat' (first | (first | exact drows_brow _ | exact drows_nrow _ | exact drows_irow _ | exact drows_wrow _ | assumption | (simp [C.isD]; done) | (rw [← List.map_append]; first | exact drows_brow _ | exact drows_nrow _ | exact drows_irow _ | exact drows_wrow _)) | rfl | refine ⟨?_, ?_⟩ | (left; (first | exact drows_brow _ | exact drows_nrow _ | exact drows_irow _ | exact drows_wrow _ | assumption | (simp [isDRows, brow, C.isD]; done) | (rw [← List.map_append]; first | exact drows_brow _ | exact drows_nrow _ | exact drows_irow _ | exact drows_wrow _))))))
      · simp [rlook]
      · first | (simp; done) | (intro k hk; simp [rlook]; omega)
    have hk' : k = w.its.length := by simp at hf; omega
    subst hk'
    simp only [List.take_length]
    obtain ⟨pit, hpit⟩ : ∃ p, p = pushItems first count w.its := ⟨_, rfl⟩
    have hpw : pushW first count w = if pit.isEmpty then [] else [⟨w.s, pit⟩] := by rw [hpit]; rfl
    simp only [← hpit] at hpl ⊢
    try simp only [x_seq, x_exit, x_tn, x_tx, x_bx, x_lx, ↓reduceIte]
    refine aw_reg 2320 (RG.go fun Q hQ => ?_)
    simp only [RX, eff, ev_t, ev_k, lk_cons, lkE_cons, setS_cons, setS_nil, AOp.isCall, setD, setEs, presOf, AOp.needs, SV.one?, SV.pre, binV, idsOf, AOp.rds, AOp.ops, SV.ids, C.ids0, rowsOf, Option.map_some, List.map_nil, List.nil_append, List.cons_append, true_and, and_self, Bool.false_eq_true, gt_iff_lt, Nat.reduceAdd, Nat.reduceEqDiff, ↓reduceIte, Option.bind_some, List.append_nil]
    repeat refine ⟨by (first | omega | (simp; omega) | (simp; done) | exact ⟨by omega, by omega⟩ | exact ⟨by omega, by simp; omega⟩ | exact ⟨by simp; omega, by simp; omega⟩ | exact ⟨by simp, by simp; omega⟩ | (intro h; rw [h]; rfl) | (intro h; refine ⟨fun h2 => ?_, h⟩; rw [h, h2]; rfl) | (intro h; refine ⟨?_, h⟩; simp [inR] at h; omega) | (intro h; simp [inR] at h; omega) | assumption), ?_⟩
    refine hQ _ _ _ _ _ (RG.nil ?_)
    try simp only [x_tn]
    refine aw_cond _ rfl trivial (fun ht => ?_) (fun hf => ?_)
    · have hne : pit.isEmpty = false := by cases hpe : pit with
        | nil => rw [hpe] at ht; simp at ht
        | cons a b => rfl
      rw [hne, if_neg (by simp)] at hpw
      try simp only [x_seq, x_block, x_skip, x_ret, x_exit, x_tn, x_tr, x_tx, x_bn, x_br, x_bx, x_ln, x_lr, x_lx, Nat.reduceEqDiff, ↓reduceIte, if_true, if_false, reduceCtorEq]
      refine aw_reg 2400 (RG.go fun Q hQ => ?_)
      simp only [RX, eff, ev_t, lk_cons, lkE_cons, lkE_nil, setS_cons, setS_nil, setE_cons, setE_nil, AOp.isCall, setD, setEs, presOf, AOp.needs, SV.one?, SV.pre, SV.cells, idsOf, AOp.rds, AOp.ops, SV.ids, C.ids0, rowsOf, srcOf, bldFold, bSRows, splice, List.take_succ_cons, List.take_zero, List.drop_succ_cons, List.drop_zero, List.length_cons, List.length_nil, List.getElem?_cons_zero, List.getElem?_cons_succ, Option.map_some, List.map_cons, List.map_nil, List.nil_append, List.cons_append, true_and, and_self, Bool.false_eq_true, Nat.reduceAdd, Nat.reduceEqDiff, Nat.reduceLeDiff, ↓reduceIte, Nat.zero_add, Nat.le_refl, List.append_nil, Nat.add_zero]
      repeat refine ⟨by (first | omega | (simp; omega) | (simp; done) | exact ⟨by omega, by omega⟩ | exact ⟨by omega, by simp; omega⟩ | exact ⟨by simp; omega, by simp; omega⟩ | exact ⟨by simp, by simp; omega⟩ | (intro h; rw [h]; rfl) | (intro h; refine ⟨fun h2 => ?_, h⟩; rw [h, h2]; rfl) | (intro h; refine ⟨?_, h⟩; simp [inR] at h; omega) | (intro h; simp [inR] at h; omega) | assumption), ?_⟩
      refine hQ _ _ _ _ _ (RG.nil ?_)
      try simp only [x_tn, x_bn]
      refine aw_reg 2592 (RG.go fun Q hQ => ?_)
      simp only [RX, eff, ev_t, ev_k, lk_cons, setS_cons, setS_nil, AOp.isCall, setD, setEs, presOf, AOp.needs, SV.one?, SV.pre, binV, idsOf, AOp.rds, AOp.ops, SV.ids, C.ids0, Option.map_some, List.map_nil, List.nil_append, true_and, and_self, Bool.false_eq_true, Nat.reduceAdd, Nat.reduceEqDiff, ↓reduceIte, List.append_nil, wi i _ hi' (by omega)]
      repeat refine ⟨by (first | omega | (simp; omega) | (simp; done) | exact ⟨by omega, by omega⟩ | exact ⟨by omega, by simp; omega⟩ | exact ⟨by simp; omega, by simp; omega⟩ | exact ⟨by simp, by simp; omega⟩ | (intro h; rw [h]; rfl) | (intro h; refine ⟨fun h2 => ?_, h⟩; rw [h, h2]; rfl) | (intro h; refine ⟨?_, h⟩; simp [inR] at h; omega) | (intro h; simp [inR] at h; omega) | assumption), ?_⟩
      refine hQ _ _ _ _ _ (RG.nil ?_)
      try simp only [x_ln]
      refine ⟨⟨i + 1, hi'⟩, ?_, by simp only; omega⟩
      refine (Le.tell [5001] 2512 55 2 _ ((pushWs first count (sub.take (i + 1))).map wrow) false rfl (by rw [hsucc, hpw, List.map_append]; refine tell_app ?_ _; exact ⟨⟨.inl rfl, .inr (.inr ⟨_, _, _, _, rfl, rfl, rfl, drows_irow _⟩), trivial⟩, trivial⟩)).trans ?_
      refine Le.lit [] [(5000, 2512)] _ _ ?_ ?_ ?_ ?_
      · simp only [allL, lk_cons, lkE_cons, lkE_nil, WkSV, WkSV1, WkC, WkC0, rlook, frzEs, frzE, setE_cons, Nat.reduceEqDiff, ↓reduceIte, reduceCtorEq, and_true, ne_eq, not_false_eq_true]
        all_goals (try ((repeat' (first | exact trivial | rfl | exact rfl | (refine ⟨⟨_, _, rfl⟩, ?_⟩; (first | exact drows_brow _ | exact drows_nrow _ | exact drows_irow _ | exact drows_wrow _ | assumption | (simp [isDRows, brow, C.isD]; done) | (rw [← List.map_append]; first | exact drows_brow _ | exact drows_nrow _ | exact drows_irow _ | exact drows_wrow _))) | (simp; done) | refine ⟨?_, ?_⟩))))
      · simp only [allL, lkE_cons, lkE_nil, WkC, WkC0, WkEnt, TrL, rlook, frzEs, frzE, setE_cons, isDRows, Option.some.injEq, Nat.reduceEqDiff, ↓reduceIte, reduceCtorEq, true_and, and_true, exists_eq_left', ne_eq, not_false_eq_true, true_or]
        all_goals (try ((repeat' (first | (first | exact drows_brow _ | exact drows_nrow _ | exact drows_irow _ | exact drows_wrow _ | assumption | (simp [isDRows, brow, C.isD]; done) | (rw [← List.map_append]; first | exact drows_brow _ | exact drows_nrow _ | exact drows_irow _ | exact drows_wrow _)) | rfl | refine ⟨?_, ?_⟩ | (left; (first | exact drows_brow _ | exact drows_nrow _ | exact drows_irow _ | exact drows_wrow _ | assumption | (simp [isDRows, brow, C.isD]; done) | (rw [← List.map_append]; first | exact drows_brow _ | exact drows_nrow _ | exact drows_irow _ | exact drows_wrow _)))))))
      · simp [rlook]
      · first | (simp; done) | (intro k hk; simp [rlook]; omega)
    have hne : pit.isEmpty = true := by cases hpe : pit with
      | nil => rfl
      | cons a b => rw [hpe] at hf; simp at hf
    rw [hne, if_pos rfl] at hpw
    try simp only [x_skip, x_tn, x_bn]
    refine aw_reg 2656 (RG.go fun Q hQ => ?_)
    simp only [RX, eff, ev_t, ev_k, lk_cons, setS_cons, setS_nil, AOp.isCall, setD, setEs, presOf, AOp.needs, SV.one?, SV.pre, binV, idsOf, AOp.rds, AOp.ops, SV.ids, C.ids0, Option.map_some, List.map_nil, List.nil_append, true_and, and_self, Bool.false_eq_true, Nat.reduceAdd, Nat.reduceEqDiff, ↓reduceIte, List.append_nil, wi i _ hi' (by omega)]
    repeat refine ⟨by (first | omega | (simp; omega) | (simp; done) | exact ⟨by omega, by omega⟩ | exact ⟨by omega, by simp; omega⟩ | exact ⟨by simp; omega, by simp; omega⟩ | exact ⟨by simp, by simp; omega⟩ | (intro h; rw [h]; rfl) | (intro h; refine ⟨fun h2 => ?_, h⟩; rw [h, h2]; rfl) | (intro h; refine ⟨?_, h⟩; simp [inR] at h; omega) | (intro h; simp [inR] at h; omega) | assumption), ?_⟩
    refine hQ _ _ _ _ _ (RG.nil ?_)
    try simp only [x_ln]
    refine ⟨⟨i + 1, hi'⟩, ?_, by simp only; omega⟩
    refine Le.lit [] [] _ _ ?_ ?_ ?_ ?_
    · simp only [allL, lk_cons, lkE_cons, lkE_nil, WkSV, WkSV1, WkC, WkC0, rlook, frzEs, Nat.reduceEqDiff, ↓reduceIte, reduceCtorEq, and_true, ne_eq, not_false_eq_true]
      all_goals (try ((repeat' (first | exact trivial | rfl | exact rfl | (refine ⟨⟨_, _, rfl⟩, ?_⟩; (first | exact drows_brow _ | exact drows_nrow _ | exact drows_irow _ | exact drows_wrow _ | assumption | (simp [isDRows, brow, C.isD]; done) | (rw [← List.map_append]; first | exact drows_brow _ | exact drows_nrow _ | exact drows_irow _ | exact drows_wrow _))) | (simp; done) | refine ⟨?_, ?_⟩))))
    · simp only [allL, lkE_cons, lkE_nil, WkC, WkC0, WkEnt, TrL, rlook, frzEs, isDRows, Option.some.injEq, Nat.reduceEqDiff, ↓reduceIte, reduceCtorEq, true_and, and_true, exists_eq_left', ne_eq, not_false_eq_true, true_or]
      all_goals (rw [hsucc, hpw, List.append_nil]; (repeat' (first | (first | exact drows_brow _ | exact drows_nrow _ | exact drows_irow _ | exact drows_wrow _ | assumption | (simp [C.isD]; done) | (rw [← List.map_append]; first | exact drows_brow _ | exact drows_nrow _ | exact drows_irow _ | exact drows_wrow _)) | rfl | refine ⟨?_, ?_⟩ | (left; (first | exact drows_brow _ | exact drows_nrow _ | exact drows_irow _ | exact drows_wrow _ | assumption | (simp [isDRows, brow, C.isD]; done) | (rw [← List.map_append]; first | exact drows_brow _ | exact drows_nrow _ | exact drows_irow _ | exact drows_wrow _))))))
    · simp [rlook]
    · first | (simp; done) | (intro k hk; simp [rlook]; omega)
  have hi' : i = sub.length := by simp at hf; omega
  subst hi'
  simp only [List.take_length]
  try simp only [x_seq, x_exit, x_tn, x_tx, x_bx, x_lx, ↓reduceIte]
  refine aw_reg 2720 (RG.go fun Q hQ => ?_)
  simp only [RX, eff, ev_t, ev_k, lk_cons, lkE_cons, setS_cons, setS_nil, setE_cons, AOp.isCall, setD, setEs, presOf, AOp.needs, SV.one?, SV.pre, SV.cells, idsOf, AOp.rds, AOp.ops, SV.ids, C.ids0, splice, List.take_succ_cons, List.take_zero, List.drop_succ_cons, List.drop_zero, List.length_cons, List.length_nil, List.map_cons, List.map_nil, List.nil_append, List.cons_append, true_and, and_self, Bool.false_eq_true, Nat.reduceAdd, Nat.reduceEqDiff, ↓reduceIte, Nat.zero_add, Nat.le_refl, List.append_nil]
  repeat refine ⟨by (first | omega | (simp; omega) | (simp; done) | exact ⟨by omega, by omega⟩ | exact ⟨by omega, by simp; omega⟩ | exact ⟨by simp; omega, by simp; omega⟩ | exact ⟨by simp, by simp; omega⟩ | (intro h; rw [h]; rfl) | (intro h; refine ⟨fun h2 => ?_, h⟩; rw [h, h2]; rfl) | (intro h; refine ⟨?_, h⟩; simp [inR] at h; omega) | (intro h; simp [inR] at h; omega) | assumption), ?_⟩
  refine hQ _ _ _ _ _ (RG.nil ?_)
  try simp only [x_ret, x_tn]
  refine Fin.data [5000] (.inr rfl) rfl (by (first | exact trivial | exact ⟨trivial, trivial⟩ | exact ⟨trivial, trivial, trivial⟩)) ?_
  simp only [mkSt_sl, lk_cons, lkE_cons, WkSV, WkSV1, WkC, WkC0, TrL, frzEs, frzE, setE_cons, Nat.reduceEqDiff, ↓reduceIte, and_true]
  all_goals ((repeat' (first | exact trivial | rfl | exact rfl | (refine ⟨⟨_, _, rfl⟩, ?_⟩; (first | exact drows_brow _ | exact drows_nrow _ | exact drows_irow _ | exact drows_wrow _ | assumption | (simp [isDRows, brow, C.isD]; done) | (rw [← List.map_append]; first | exact drows_brow _ | exact drows_nrow _ | exact drows_irow _ | exact drows_wrow _))) | (simp; done) | refine ⟨?_, ?_⟩)))

end Go.Abs

namespace Go.Abs
open Go Go.Proofs
set_option maxRecDepth 100000
set_option linter.unusedSimpArgs false
set_option maxHeartbeats 4000000

def vOne : VOL := ⟨0, 3, 1, 2, [1, 2], 0, 0, false, 0, [], [⟨1, [⟨2, [120]⟩]⟩]⟩
theorem vOne_ok : Vok vOne := ⟨by decide, by decide, by decide, by decide⟩
theorem vOne_right : rightV vOne = true := by decide

theorem vC_one : volC vOne = [.v (.int .i64 0), .v (.int .i64 3), .v (.int .i64 1), .v (.int .i64 2), .sl [[.v (.int .i64 1)], [.v (.int .i64 2)]], .v (.int .i64 0), .v (.int .i64 0), .v (.bool false), .v (.int .i64 0), .sl [], .sl [[.v (.int .i64 1), .sl [[.v (.int .i64 2), .sl [brow 120]]]]]] := rfl

theorem volume_State_two : Con Try.prog 35 [.agg (volC vOne), I 2] [] (.tup [.c (.sl []), I 31]) [] := by
  have ct := volume_time_con vOne 2 1
  refine C_volume_State (Nat.le_of_ble_eq_true rfl) (Nat.le_of_ble_eq_true rfl) ?_
  simp only [A_volume_State, argL, objL, List.length_nil, Nat.zero_add, x_seq]
  refine aw_reg 16 (RG.go fun Q hQ => ?_)
  simp only [RX, eff, ev_t, ev_k, lk_cons, lkE_nil, setS_cons, setS_nil, setE_nil, AOp.isCall, setD, setEs, presOf, AOp.needs, SV.pre, SV.cells, idsOf, AOp.rds, AOp.ops, SV.ids, List.map_cons, List.map_nil, List.nil_append, true_and, and_self, Bool.false_eq_true, reduceCtorEq, Nat.reduceAdd, Nat.reduceEqDiff, ↓reduceIte, List.append_nil, vC_one]
  repeat refine ⟨by (first | omega | (simp; omega) | (simp; done) | exact ⟨by omega, by omega⟩ | exact ⟨by omega, by simp; omega⟩ | exact ⟨by simp; omega, by simp; omega⟩ | exact ⟨by simp, by simp; omega⟩ | (intro h; rw [h]; rfl) | (intro h; refine ⟨fun h2 => ?_, h⟩; rw [h, h2]; rfl) | (intro h; refine ⟨?_, h⟩; simp [inR] at h; omega) | (intro h; simp [inR] at h; omega) | assumption), ?_⟩
  refine hQ _ _ _ _ _ (RG.nil ?_)
  try simp only [x_seq, x_tn]
  refine aw_draw 96 (RG.go fun Q hQ => ?_)
  simp only [RX, eff, ev_t, lk_cons, lkE_cons, setS_cons, setS_nil, AOp.isCall, setD, setEs, presOf, AOp.needs, SV.one?, SV.pre, idsOf, AOp.rds, AOp.ops, SV.ids, C.ids0, List.take_succ_cons, List.take_zero, List.drop_zero, List.length_cons, List.length_nil, List.map_nil, List.nil_append, List.cons_append, true_and, and_self, Bool.false_eq_true, reduceCtorEq, Nat.reduceAdd, Nat.reduceEqDiff, ↓reduceIte, Nat.zero_add, Nat.le_refl, List.append_nil]
  repeat refine ⟨by (first | omega | (simp; omega) | (simp; done) | exact ⟨by omega, by omega⟩ | exact ⟨by omega, by simp; omega⟩ | exact ⟨by simp; omega, by simp; omega⟩ | exact ⟨by simp, by simp; omega⟩ | (intro h; rw [h]; rfl) | (intro h; refine ⟨fun h2 => ?_, h⟩; rw [h, h2]; rfl) | (intro h; refine ⟨?_, h⟩; simp [inR] at h; omega) | (intro h; simp [inR] at h; omega) | assumption), ?_⟩
  refine hQ _ _ _ _ _ ?_
  refine RG.call [] (volume_Len_con vOne) (by (repeat' (first | exact tr_nil | refine tr_cons ?_ ?_ | exact tr_v | exact tr_sl | exact tr_nils | exact tr_agg (by repeat' (first | exact trivial | rfl | exact rfl | refine ⟨?_, ?_⟩)) | exact tr_opt (by simpa using hg) tr_v | exact tr_opt (by simpa using hg) tr_sl | exact tr_opt (by simpa using hg) (tr_agg (by repeat' (first | exact trivial | rfl | exact rfl | refine ⟨?_, ?_⟩)))))) trivial (by (first | exact .inl trivial | exact .inr ⟨rfl, trivial⟩)) ?_
  refine RG.go fun Q hQ => ?_
  simp only [RX, setS_cons, setS_nil, AOp.isCall, setD, reduceCtorEq, Nat.reduceAdd, Nat.reduceEqDiff, ↓reduceIte]
  repeat refine ⟨by (first | omega | (simp; omega) | (simp; done) | exact ⟨by omega, by omega⟩ | exact ⟨by omega, by simp; omega⟩ | exact ⟨by simp; omega, by simp; omega⟩ | exact ⟨by simp, by simp; omega⟩ | (intro h; rw [h]; rfl) | (intro h; refine ⟨fun h2 => ?_, h⟩; rw [h, h2]; rfl) | (intro h; refine ⟨?_, h⟩; simp [inR] at h; omega) | (intro h; simp [inR] at h; omega) | assumption), ?_⟩
  refine hQ _ _ _ _ _ ?_
  refine RG.call [] (ct) (by (repeat' (first | exact tr_nil | refine tr_cons ?_ ?_ | exact tr_v | exact tr_sl | exact tr_nils | exact tr_agg (by repeat' (first | exact trivial | rfl | exact rfl | refine ⟨?_, ?_⟩)) | exact tr_opt (by simpa using hg) tr_v | exact tr_opt (by simpa using hg) tr_sl | exact tr_opt (by simpa using hg) (tr_agg (by repeat' (first | exact trivial | rfl | exact rfl | refine ⟨?_, ?_⟩)))))) trivial (by (first | exact .inl trivial | exact .inr ⟨rfl, trivial⟩)) ?_
  refine RG.go fun Q hQ => ?_
  simp only [RX, eff, ev_t, lk_cons, setS_cons, setS_nil, AOp.isCall, setD, setEs, presOf, AOp.needs, idsOf, AOp.rds, List.map_nil, List.nil_append, true_and, Bool.false_eq_true, reduceCtorEq, Nat.reduceAdd, Nat.reduceEqDiff, ↓reduceIte]
  repeat refine ⟨by (first | omega | (simp; omega) | (simp; done) | exact ⟨by omega, by omega⟩ | exact ⟨by omega, by simp; omega⟩ | exact ⟨by simp; omega, by simp; omega⟩ | exact ⟨by simp, by simp; omega⟩ | (intro h; rw [h]; rfl) | (intro h; refine ⟨fun h2 => ?_, h⟩; rw [h, h2]; rfl) | (intro h; refine ⟨?_, h⟩; simp [inR] at h; omega) | (intro h; simp [inR] at h; omega) | assumption), ?_⟩
  refine hQ _ _ _ _ _ (RG.nil ⟨by decide +kernel, ?_⟩)
  try simp only [x_seq, x_tn]
  refine aw_reg 224 (RG.go fun Q hQ => ?_)
  simp only [RX, eff, ev_t, ev_k, lk_cons, setS_cons, setS_nil, AOp.isCall, setD, setEs, presOf, AOp.needs, SV.one?, SV.pre, binV, idsOf, AOp.rds, AOp.ops, SV.ids, C.ids0, Option.map_some, List.map_nil, List.nil_append, true_and, and_self, Bool.false_eq_true, reduceCtorEq, Nat.reduceAdd, Nat.reduceEqDiff, ↓reduceIte, List.append_nil]
  repeat refine ⟨by (first | omega | (simp; omega) | (simp; done) | exact ⟨by omega, by omega⟩ | exact ⟨by omega, by simp; omega⟩ | exact ⟨by simp; omega, by simp; omega⟩ | exact ⟨by simp, by simp; omega⟩ | (intro h; rw [h]; rfl) | (intro h; refine ⟨fun h2 => ?_, h⟩; rw [h, h2]; rfl) | (intro h; refine ⟨?_, h⟩; simp [inR] at h; omega) | (intro h; simp [inR] at h; omega) | assumption), ?_⟩
  refine hQ _ _ _ _ _ (RG.nil ?_)
  try simp only [x_tn]
  refine aw_cond _ rfl trivial (fun ht => ?_) (fun hf => by cases hf)
  try simp only [x_seq]
  refine aw_reg 288 (RG.go fun Q hQ => ?_)
  simp only [RX, eff, ev_t, ev_k, lk_cons, setS_cons, setS_nil, AOp.isCall, setD, setEs, presOf, AOp.needs, idsOf, AOp.rds, List.map_nil, List.nil_append, true_and, Bool.false_eq_true, reduceCtorEq, Nat.reduceAdd, Nat.reduceEqDiff, ↓reduceIte]
  repeat refine ⟨by (first | omega | (simp; omega) | (simp; done) | exact ⟨by omega, by omega⟩ | exact ⟨by omega, by simp; omega⟩ | exact ⟨by simp; omega, by simp; omega⟩ | exact ⟨by simp, by simp; omega⟩ | (intro h; rw [h]; rfl) | (intro h; refine ⟨fun h2 => ?_, h⟩; rw [h, h2]; rfl) | (intro h; refine ⟨?_, h⟩; simp [inR] at h; omega) | (intro h; simp [inR] at h; omega) | assumption), ?_⟩
  refine hQ _ _ _ _ _ (RG.nil ?_)
  try simp only [x_ret, x_tn, x_tr]
  refine Fin.data [] (.inr rfl) rfl (by (first | exact trivial | exact ⟨trivial, trivial⟩ | exact ⟨trivial, trivial, trivial⟩)) ?_
  simp only [mkSt_sl, lk_cons, WkSV, WkSV1, WkC, WkC0, TrL, Nat.reduceEqDiff, ↓reduceIte, reduceCtorEq, true_and, and_true]
  all_goals ((repeat' (first | exact trivial | rfl | exact rfl | (refine ⟨⟨_, _, rfl⟩, ?_⟩; (first | exact drows_brow _ | exact drows_nrow _ | exact drows_irow _ | exact drows_wrow _ | assumption | (simp [isDRows, brow, C.isD]; done) | (rw [← List.map_append]; first | exact drows_brow _ | exact drows_nrow _ | exact drows_irow _ | exact drows_wrow _))) | (simp; done) | refine ⟨?_, ?_⟩)))

def nilR : List C := [.v (.slice none 0 0)]
def outR : Nat → List (List C)
  | 0 => [nilR, nilR, nilR]
  | 1 => [[.sl [brow 0]], nilR, nilR]
  | 2 => [[.sl [brow 0]], [.sl [brow 0]], nilR]
  | _ => [[.sl [brow 0]], [.sl [brow 0]], [.sl [brow 120]]]

theorem pureTB {r : List (List C)} {b : Bool} : (SV.tup [.c (.sl r), B b]).pureD := by
  intro s hs
  simp only [List.mem_cons, List.not_mem_nil, or_false] at hs
  rcases hs with rfl | rfl <;> rfl

theorem volume_State_one : Con Try.prog 35 [.agg (volC vOne), I 1] [] (.tup [.c (.sl (outR 3)), I 0]) [] := by
  have ct := volume_time_con vOne 1 1
  refine C_volume_State (Nat.le_of_ble_eq_true rfl) (Nat.le_of_ble_eq_true rfl) ?_
  simp only [A_volume_State, argL, objL, List.length_nil, Nat.zero_add, x_seq]
  refine aw_reg 16 (RG.go fun Q hQ => ?_)
  simp only [RX, eff, ev_t, ev_k, lk_cons, lkE_nil, setS_cons, setS_nil, setE_nil, AOp.isCall, setD, setEs, presOf, AOp.needs, SV.pre, SV.cells, idsOf, AOp.rds, AOp.ops, SV.ids, List.map_cons, List.map_nil, List.nil_append, true_and, and_self, Bool.false_eq_true, reduceCtorEq, Nat.reduceAdd, Nat.reduceEqDiff, ↓reduceIte, List.append_nil, vC_one]
  repeat refine ⟨by (first | omega | (simp; omega) | (simp; done) | exact ⟨by omega, by omega⟩ | exact ⟨by omega, by simp; omega⟩ | exact ⟨by simp; omega, by simp; omega⟩ | exact ⟨by simp, by simp; omega⟩ | (intro h; rw [h]; rfl) | (intro h; refine ⟨fun h2 => ?_, h⟩; rw [h, h2]; rfl) | (intro h; refine ⟨?_, h⟩; simp [inR] at h; omega) | (intro h; simp [inR] at h; omega) | assumption), ?_⟩
  refine hQ _ _ _ _ _ (RG.nil ?_)
  try simp only [x_seq, x_tn]
  refine aw_draw 96 (RG.go fun Q hQ => ?_)
  simp only [RX, eff, ev_t, lk_cons, lkE_cons, setS_cons, setS_nil, AOp.isCall, setD, setEs, presOf, AOp.needs, SV.one?, SV.pre, idsOf, AOp.rds, AOp.ops, SV.ids, C.ids0, List.take_succ_cons, List.take_zero, List.drop_zero, List.length_cons, List.length_nil, List.map_nil, List.nil_append, List.cons_append, true_and, and_self, Bool.false_eq_true, reduceCtorEq, Nat.reduceAdd, Nat.reduceEqDiff, ↓reduceIte, Nat.zero_add, Nat.le_refl, List.append_nil]
  repeat refine ⟨by (first | omega | (simp; omega) | (simp; done) | exact ⟨by omega, by omega⟩ | exact ⟨by omega, by simp; omega⟩ | exact ⟨by simp; omega, by simp; omega⟩ | exact ⟨by simp, by simp; omega⟩ | (intro h; rw [h]; rfl) | (intro h; refine ⟨fun h2 => ?_, h⟩; rw [h, h2]; rfl) | (intro h; refine ⟨?_, h⟩; simp [inR] at h; omega) | (intro h; simp [inR] at h; omega) | assumption), ?_⟩
  refine hQ _ _ _ _ _ ?_
  refine RG.call [] (volume_Len_con vOne) (by (repeat' (first | exact tr_nil | refine tr_cons ?_ ?_ | exact tr_v | exact tr_sl | exact tr_nils | exact tr_agg (by repeat' (first | exact trivial | rfl | exact rfl | refine ⟨?_, ?_⟩)) | exact tr_opt (by simpa using hg) tr_v | exact tr_opt (by simpa using hg) tr_sl | exact tr_opt (by simpa using hg) (tr_agg (by repeat' (first | exact trivial | rfl | exact rfl | refine ⟨?_, ?_⟩)))))) trivial (by (first | exact .inl trivial | exact .inr ⟨rfl, trivial⟩)) ?_
  refine RG.go fun Q hQ => ?_
  simp only [RX, setS_cons, setS_nil, AOp.isCall, setD, reduceCtorEq, Nat.reduceAdd, Nat.reduceEqDiff, ↓reduceIte]
  repeat refine ⟨by (first | omega | (simp; omega) | (simp; done) | exact ⟨by omega, by omega⟩ | exact ⟨by omega, by simp; omega⟩ | exact ⟨by simp; omega, by simp; omega⟩ | exact ⟨by simp, by simp; omega⟩ | (intro h; rw [h]; rfl) | (intro h; refine ⟨fun h2 => ?_, h⟩; rw [h, h2]; rfl) | (intro h; refine ⟨?_, h⟩; simp [inR] at h; omega) | (intro h; simp [inR] at h; omega) | assumption), ?_⟩
  refine hQ _ _ _ _ _ ?_
  refine RG.call [] (ct) (by (repeat' (first | exact tr_nil | refine tr_cons ?_ ?_ | exact tr_v | exact tr_sl | exact tr_nils | exact tr_agg (by repeat' (first | exact trivial | rfl | exact rfl | refine ⟨?_, ?_⟩)) | exact tr_opt (by simpa using hg) tr_v | exact tr_opt (by simpa using hg) tr_sl | exact tr_opt (by simpa using hg) (tr_agg (by repeat' (first | exact trivial | rfl | exact rfl | refine ⟨?_, ?_⟩)))))) trivial (by (first | exact .inl trivial | exact .inr ⟨rfl, trivial⟩)) ?_
  refine RG.go fun Q hQ => ?_
  simp only [RX, eff, ev_t, lk_cons, setS_cons, setS_nil, AOp.isCall, setD, setEs, presOf, AOp.needs, idsOf, AOp.rds, List.map_nil, List.nil_append, true_and, Bool.false_eq_true, reduceCtorEq, Nat.reduceAdd, Nat.reduceEqDiff, ↓reduceIte]
  repeat refine ⟨by (first | omega | (simp; omega) | (simp; done) | exact ⟨by omega, by omega⟩ | exact ⟨by omega, by simp; omega⟩ | exact ⟨by simp; omega, by simp; omega⟩ | exact ⟨by simp, by simp; omega⟩ | (intro h; rw [h]; rfl) | (intro h; refine ⟨fun h2 => ?_, h⟩; rw [h, h2]; rfl) | (intro h; refine ⟨?_, h⟩; simp [inR] at h; omega) | (intro h; simp [inR] at h; omega) | assumption), ?_⟩
  refine hQ _ _ _ _ _ (RG.nil ⟨by decide +kernel, ?_⟩)
  try simp only [x_seq, x_tn]
  refine aw_reg 224 (RG.go fun Q hQ => ?_)
  simp only [RX, eff, ev_t, ev_k, lk_cons, setS_cons, setS_nil, AOp.isCall, setD, setEs, presOf, AOp.needs, SV.one?, SV.pre, binV, idsOf, AOp.rds, AOp.ops, SV.ids, C.ids0, Option.map_some, List.map_nil, List.nil_append, true_and, and_self, Bool.false_eq_true, reduceCtorEq, Nat.reduceAdd, Nat.reduceEqDiff, ↓reduceIte, List.append_nil]
  repeat refine ⟨by (first | omega | (simp; omega) | (simp; done) | exact ⟨by omega, by omega⟩ | exact ⟨by omega, by simp; omega⟩ | exact ⟨by simp; omega, by simp; omega⟩ | exact ⟨by simp, by simp; omega⟩ | (intro h; rw [h]; rfl) | (intro h; refine ⟨fun h2 => ?_, h⟩; rw [h, h2]; rfl) | (intro h; refine ⟨?_, h⟩; simp [inR] at h; omega) | (intro h; simp [inR] at h; omega) | assumption), ?_⟩
  refine hQ _ _ _ _ _ (RG.nil ?_)
  try simp only [x_tn]
  refine aw_cond _ rfl trivial (fun ht => by cases ht) (fun hf => ?_)
  try simp only [x_seq, x_skip, x_tn]
  refine aw_reg 368 (RG.go fun Q hQ => ?_)
  simp only [RX, eff, foldMx, ev_t, ev_k, lk_cons, lkE_cons, lkE_nil, setS_cons, setS_nil, setE_cons, setE_nil, AOp.isCall, setD, setEs, presOf, AOp.needs, SV.one?, SV.pre, idsOf, AOp.rds, AOp.ops, SV.ids, C.ids0, List.getElem?_cons_zero, List.getElem?_cons_succ, Option.map_some, List.map_cons, List.map_nil, List.nil_append, List.cons_append, true_and, and_self, Bool.false_eq_true, reduceCtorEq, gt_iff_lt, Nat.reduceAdd, Nat.reduceEqDiff, Int.reduceToNat, ↓reduceIte, Nat.zero_add, List.append_nil, Int.cast_ofNat_Int, Int.reduceLT, Int.reduceLE]
  repeat refine ⟨by (first | omega | (simp; omega) | (simp; done) | exact ⟨by omega, by omega⟩ | exact ⟨by omega, by simp; omega⟩ | exact ⟨by simp; omega, by simp; omega⟩ | exact ⟨by simp, by simp; omega⟩ | (intro h; rw [h]; rfl) | (intro h; refine ⟨fun h2 => ?_, h⟩; rw [h, h2]; rfl) | (intro h; refine ⟨?_, h⟩; simp [inR] at h; omega) | (intro h; simp [inR] at h; omega) | assumption), ?_⟩
  refine hQ _ _ _ _ _ (RG.nil ?_)
  try simp only [x_seq, x_tn]
  simp only [List.replicate]
  refine aw_reg 480 (RG.go fun Q hQ => ?_)
  simp only [RX, eff, ev_t, ev_k, lk_cons, lkE_cons, setS_cons, setS_nil, AOp.isCall, setD, setEs, presOf, AOp.needs, SV.one?, SV.pre, idsOf, AOp.rds, AOp.ops, SV.ids, C.ids0, rowsOf, List.length_cons, List.length_nil, List.getElem?_cons_zero, List.getElem?_cons_succ, Option.map_some, List.map_nil, List.nil_append, List.cons_append, true_and, and_self, Bool.false_eq_true, reduceCtorEq, Nat.reduceAdd, Nat.reduceEqDiff, ↓reduceIte, Option.bind_some, Nat.zero_add, List.append_nil, Int.cast_ofNat_Int]
  repeat refine ⟨by (first | omega | (simp; omega) | (simp; done) | exact ⟨by omega, by omega⟩ | exact ⟨by omega, by simp; omega⟩ | exact ⟨by simp; omega, by simp; omega⟩ | exact ⟨by simp, by simp; omega⟩ | (intro h; rw [h]; rfl) | (intro h; refine ⟨fun h2 => ?_, h⟩; rw [h, h2]; rfl) | (intro h; refine ⟨?_, h⟩; simp [inR] at h; omega) | (intro h; simp [inR] at h; omega) | assumption), ?_⟩
  refine hQ _ _ _ _ _ (RG.nil ?_)
  try simp only [x_block, x_tn]
  refine aw_loopK (X := Bool) [1, 2, 7, 29, 30] (fun q => [(31, I (if q = true then 1 else 0))]) [16] (fun q => (if q = true then [(416, .arr 103 1 [[.v (.slice none 0 0)], [.v (.slice none 0 0)], [.osl 1376]] false), (1376, .arr 105 2 [[.v (.int .i64 1), .sl [brow 120]]] false)] else [(416, .arr 103 1 [[.v (.slice none 0 0)], [.v (.slice none 0 0)], [.v (.slice none 0 0)]] false)])) (fun q => (if q = true then 0 else 1)) (false) ?_ ?_
  · skip
    simp only [keepS, keepE, Option.getD_some, lk_cons, lkE_cons, List.cons_append, List.nil_append, Nat.reduceEqDiff, ↓reduceIte, reduceCtorEq]
    refine Le.lit [] [] _ _ ?_ ?_ ?_ ?_
    · simp only [allL, lk_cons, lkE_cons, lkE_nil, WkSV, WkSV1, WkC, WkC0, rlook, frzEs, Nat.reduceEqDiff, ↓reduceIte, reduceCtorEq, and_true, ne_eq, not_false_eq_true]
      all_goals (try ((repeat' (first | exact trivial | rfl | exact rfl | (refine ⟨⟨_, _, rfl⟩, ?_⟩; (first | exact drows_brow _ | exact drows_nrow _ | exact drows_irow _ | exact drows_wrow _ | assumption | (simp [isDRows, brow, C.isD]; done) | (rw [← List.map_append]; first | exact drows_brow _ | exact drows_nrow _ | exact drows_irow _ | exact drows_wrow _))) | (simp; done) | refine ⟨?_, ?_⟩))))
    · simp only [allL, lkE_cons, lkE_nil, WkC, WkC0, WkEnt, TrL, rlook, frzEs, isDRows, Option.some.injEq, Nat.reduceEqDiff, ↓reduceIte, reduceCtorEq, true_and, and_true, exists_eq_left', ne_eq, true_or]
      all_goals (simp [C.isD])
    · simp [rlook]
    · first | (simp; done) | (intro k hk; simp [rlook]; omega)
  rintro (_ | _)
  · skip
    simp only [keepS, keepE, Option.getD_some, lk_cons, lkE_cons, List.cons_append, List.nil_append, Nat.reduceEqDiff, ↓reduceIte, reduceCtorEq]
    try simp only [Bool.false_eq_true, if_false, if_true]
    try simp only [x_seq]
    refine aw_reg 576 (RG.go fun Q hQ => ?_)
    simp only [RX, eff, ev_t, lk_cons, setS_cons, setS_nil, AOp.isCall, setD, setEs, presOf, AOp.needs, SV.one?, SV.pre, binV, idsOf, AOp.rds, AOp.ops, SV.ids, C.ids0, Option.map_some, List.map_nil, List.nil_append, true_and, and_self, Bool.false_eq_true, Nat.reduceAdd, Nat.reduceEqDiff, ↓reduceIte, List.append_nil, Int.reduceLT]
    repeat refine ⟨by (first | omega | (simp; omega) | (simp; done) | exact ⟨by omega, by omega⟩ | exact ⟨by omega, by simp; omega⟩ | exact ⟨by simp; omega, by simp; omega⟩ | exact ⟨by simp, by simp; omega⟩ | (intro h; rw [h]; rfl) | (intro h; refine ⟨fun h2 => ?_, h⟩; rw [h, h2]; rfl) | (intro h; refine ⟨?_, h⟩; simp [inR] at h; omega) | (intro h; simp [inR] at h; omega) | assumption), ?_⟩
    refine hQ _ _ _ _ _ (RG.nil ?_)
    try simp only [x_seq, x_tn]
    refine aw_cond _ rfl trivial (fun ht => ?_) (fun hf => by cases hf)
    try simp only [x_seq, x_block, x_skip, x_tn]
    refine aw_reg 624 (RG.go fun Q hQ => ?_)
    simp only [RX, eff, ev_t, lk_cons, lkE_cons, lkE_nil, setS_cons, setS_nil, setE_cons, setE_nil, AOp.isCall, setD, setEs, presOf, AOp.needs, SV.one?, SV.pre, SV.cells, idsOf, AOp.rds, AOp.ops, SV.ids, C.ids0, Option.getD_some, splice, List.take_succ_cons, List.take_zero, List.drop_succ_cons, List.drop_zero, List.length_cons, List.length_nil, List.getElem?_cons_zero, List.map_cons, List.map_nil, List.nil_append, List.cons_append, true_and, and_self, Bool.false_eq_true, Nat.reduceAdd, Nat.reduceEqDiff, Int.reduceToNat, ↓reduceIte, Nat.zero_add, Nat.le_refl, List.append_nil, Int.cast_ofNat_Int, Int.reduceLT, Int.reduceLE]
    repeat refine ⟨by (first | omega | (simp; omega) | (simp; done) | exact ⟨by omega, by omega⟩ | exact ⟨by omega, by simp; omega⟩ | exact ⟨by simp; omega, by simp; omega⟩ | exact ⟨by simp, by simp; omega⟩ | (intro h; rw [h]; rfl) | (intro h; refine ⟨fun h2 => ?_, h⟩; rw [h, h2]; rfl) | (intro h; refine ⟨?_, h⟩; simp [inR] at h; omega) | (intro h; simp [inR] at h; omega) | assumption), ?_⟩
    refine hQ _ _ _ _ _ (RG.nil ?_)
    try simp only [x_seq, x_tn]
    refine aw_reg 720 (RG.go fun Q hQ => ?_)
    simp only [RX, eff, ev_t, ev_k, lk_cons, lkE_cons, setS_cons, setS_nil, AOp.isCall, setD, setEs, presOf, AOp.needs, SV.one?, SV.pre, idsOf, AOp.rds, AOp.ops, SV.ids, C.ids0, rowsOf, List.length_cons, List.length_nil, List.getElem?_cons_zero, List.getElem?_cons_succ, Option.map_some, List.map_nil, List.nil_append, List.cons_append, true_and, and_self, Bool.false_eq_true, Nat.reduceAdd, Nat.reduceEqDiff, ↓reduceIte, Option.bind_some, Nat.zero_add, List.append_nil, Int.cast_ofNat_Int]
    repeat refine ⟨by (first | omega | (simp; omega) | (simp; done) | exact ⟨by omega, by omega⟩ | exact ⟨by omega, by simp; omega⟩ | exact ⟨by simp; omega, by simp; omega⟩ | exact ⟨by simp, by simp; omega⟩ | (intro h; rw [h]; rfl) | (intro h; refine ⟨fun h2 => ?_, h⟩; rw [h, h2]; rfl) | (intro h; refine ⟨?_, h⟩; simp [inR] at h; omega) | (intro h; simp [inR] at h; omega) | assumption), ?_⟩
    refine hQ _ _ _ _ _ (RG.nil ?_)
    try simp only [x_block, x_tn]
    refine aw_loopK (X := Bool) [1, 2, 7, 9, 29, 30, 31, 36, 37] (fun q => [(38, I (if q = true then 1 else 0))]) [16, 656] (fun q => (if q = true then [(416, .arr 103 1 [[.v (.slice none 0 0)], [.v (.slice none 0 0)], [.osl 1376]] false), (1376, .arr 105 2 [[.v (.int .i64 1), .sl [brow 120]]] false)] else [(416, .arr 103 1 [[.v (.slice none 0 0)], [.v (.slice none 0 0)], [.v (.slice none 0 0)]] false)])) (fun q => (if q = true then 0 else 1)) (false) ?_ ?_
    · skip
      simp only [keepS, keepE, Option.getD_some, lk_cons, lkE_cons, List.cons_append, List.nil_append, Nat.reduceEqDiff, ↓reduceIte, reduceCtorEq]
      refine Le.lit [] [] _ _ ?_ ?_ ?_ ?_
      · simp only [allL, lk_cons, lkE_cons, lkE_nil, WkSV, WkSV1, WkC, WkC0, rlook, frzEs, Nat.reduceEqDiff, ↓reduceIte, reduceCtorEq, and_true, ne_eq, not_false_eq_true]
        all_goals (try ((repeat' (first | exact trivial | rfl | exact rfl | (refine ⟨⟨_, _, rfl⟩, ?_⟩; (first | exact drows_brow _ | exact drows_nrow _ | exact drows_irow _ | exact drows_wrow _ | assumption | (simp [isDRows, brow, C.isD]; done) | (rw [← List.map_append]; first | exact drows_brow _ | exact drows_nrow _ | exact drows_irow _ | exact drows_wrow _))) | (simp; done) | refine ⟨?_, ?_⟩))))
      · simp only [allL, lkE_cons, lkE_nil, WkC, WkC0, WkEnt, TrL, rlook, frzEs, isDRows, Option.some.injEq, Nat.reduceEqDiff, ↓reduceIte, reduceCtorEq, true_and, and_true, exists_eq_left', ne_eq, true_or]
        all_goals (simp [C.isD])
      · simp [rlook]
      · first | (simp; done) | (intro k hk; simp [rlook]; omega)
    rintro (_ | _)
    · skip
      simp only [keepS, keepE, Option.getD_some, lk_cons, lkE_cons, List.cons_append, List.nil_append, Nat.reduceEqDiff, ↓reduceIte, reduceCtorEq]
      try simp only [Bool.false_eq_true, if_false, if_true]
      try simp only [x_seq]
      refine aw_reg 816 (RG.go fun Q hQ => ?_)
      simp only [RX, eff, ev_t, lk_cons, setS_cons, setS_nil, AOp.isCall, setD, setEs, presOf, AOp.needs, SV.one?, SV.pre, binV, idsOf, AOp.rds, AOp.ops, SV.ids, C.ids0, Option.map_some, List.map_nil, List.nil_append, true_and, and_self, Bool.false_eq_true, Nat.reduceAdd, Nat.reduceEqDiff, ↓reduceIte, List.append_nil, Int.reduceLT]
      repeat refine ⟨by (first | omega | (simp; omega) | (simp; done) | exact ⟨by omega, by omega⟩ | exact ⟨by omega, by simp; omega⟩ | exact ⟨by simp; omega, by simp; omega⟩ | exact ⟨by simp, by simp; omega⟩ | (intro h; rw [h]; rfl) | (intro h; refine ⟨fun h2 => ?_, h⟩; rw [h, h2]; rfl) | (intro h; refine ⟨?_, h⟩; simp [inR] at h; omega) | (intro h; simp [inR] at h; omega) | assumption), ?_⟩
      refine hQ _ _ _ _ _ (RG.nil ?_)
      try simp only [x_seq, x_tn]
      refine aw_cond _ rfl trivial (fun ht => ?_) (fun hf => by cases hf)
      try simp only [x_seq, x_block, x_skip, x_tn]
      refine aw_reg 864 (RG.go fun Q hQ => ?_)
      simp only [RX, eff, ev_t, lk_cons, lkE_cons, lkE_nil, setS_cons, setS_nil, setE_cons, setE_nil, AOp.isCall, setD, setEs, presOf, AOp.needs, SV.one?, SV.pre, SV.cells, idsOf, AOp.rds, AOp.ops, SV.ids, C.ids0, Option.getD_some, splice, List.take_succ_cons, List.take_zero, List.drop_succ_cons, List.drop_zero, List.length_cons, List.length_nil, List.getElem?_cons_zero, List.map_cons, List.map_nil, List.nil_append, List.cons_append, true_and, and_self, Bool.false_eq_true, Nat.reduceAdd, Nat.reduceEqDiff, Int.reduceToNat, ↓reduceIte, Nat.zero_add, Nat.le_refl, List.append_nil, Int.cast_ofNat_Int, Int.reduceLT, Int.reduceLE]
      repeat refine ⟨by (first | omega | (simp; omega) | (simp; done) | exact ⟨by omega, by omega⟩ | exact ⟨by omega, by simp; omega⟩ | exact ⟨by simp; omega, by simp; omega⟩ | exact ⟨by simp, by simp; omega⟩ | (intro h; rw [h]; rfl) | (intro h; refine ⟨fun h2 => ?_, h⟩; rw [h, h2]; rfl) | (intro h; refine ⟨?_, h⟩; simp [inR] at h; omega) | (intro h; simp [inR] at h; omega) | assumption), ?_⟩
      refine hQ _ _ _ _ _ (RG.nil ?_)
      try simp only [x_seq, x_tn]
      refine aw_reg 960 (RG.go fun Q hQ => ?_)
      simp only [RX, eff, ev_t, ev_k, lk_cons, lkE_cons, setS_cons, setS_nil, AOp.isCall, setD, setEs, presOf, AOp.needs, SV.one?, SV.pre, gval, binV, idsOf, AOp.rds, AOp.ops, SV.ids, C.ids0, rowsOf, List.length_cons, List.length_nil, List.getElem?_cons_zero, Option.map_some, List.map_nil, List.nil_append, List.cons_append, and_true, true_and, and_self, Bool.true_and, Bool.false_eq_true, beq_true, implies_true, imp_self, Bool.if_false_right, Bool.decide_eq_true, ge_iff_le, Nat.reduceAdd, Nat.reduceEqDiff, ↓reduceIte, Option.bind_some, Nat.zero_add, List.append_nil, Nat.add_zero, Int.cast_ofNat_Int, Int.reduceLT, Int.reduceLE]
      repeat refine ⟨by (first | omega | (simp; omega) | (simp; done) | exact ⟨by omega, by omega⟩ | exact ⟨by omega, by simp; omega⟩ | exact ⟨by simp; omega, by simp; omega⟩ | exact ⟨by simp, by simp; omega⟩ | (intro h; rw [h]; rfl) | (intro h; refine ⟨fun h2 => ?_, h⟩; rw [h, h2]; rfl) | (intro h; refine ⟨?_, h⟩; simp [inR] at h; omega) | (intro h; simp [inR] at h; omega) | assumption), ?_⟩
      refine hQ _ _ _ _ _ (RG.nil ?_)
      try simp only [x_tn]
      refine aw_cond _ rfl trivial (fun ht => ?_) (fun hf => by cases hf)
      try simp only [x_seq, x_block, x_skip, x_ret, x_exit, x_tn, x_tr, x_tx, x_bn, x_br, x_bx, x_ln, x_lr, x_lx, Nat.reduceEqDiff, ↓reduceIte, if_true, if_false, reduceCtorEq]
      refine aw_draw 1152 (RG.go fun Q hQ => ?_)
      simp only [RX, eff, Nat.reduceMul, ev_t, lk_cons, lkE_cons, lkE_nil, setS_cons, setS_nil, setE_cons, setE_nil, AOp.isCall, setD, setEs, presOf, AOp.needs, SV.one?, SV.pre, SV.cells, idsOf, AOp.rds, AOp.ops, SV.ids, C.ids0, rowsOf, srcOf, Option.getD_some, bldFold, bSRows, splice, List.take_succ_cons, List.take_zero, List.drop_succ_cons, List.drop_zero, List.length_cons, List.length_nil, List.getElem?_cons_zero, List.getElem?_cons_succ, Option.map_some, List.map_cons, List.map_nil, List.nil_append, List.cons_append, and_true, true_and, and_self, Bool.false_eq_true, Nat.reduceAdd, Nat.reduceEqDiff, Nat.reduceLeDiff, Nat.reduceLT, Int.reduceToNat, ↓reduceIte, Nat.zero_add, Nat.le_refl, List.append_nil, Nat.add_zero, Int.cast_ofNat_Int, Int.reduceLT, Int.reduceLE, C_default]
      repeat refine ⟨by (first | omega | (simp; omega) | (simp; done) | exact ⟨by omega, by omega⟩ | exact ⟨by omega, by simp; omega⟩ | exact ⟨by simp; omega, by simp; omega⟩ | exact ⟨by simp, by simp; omega⟩ | (intro h; rw [h]; rfl) | (intro h; refine ⟨fun h2 => ?_, h⟩; rw [h, h2]; rfl) | (intro h; refine ⟨?_, h⟩; simp [inR] at h; omega) | (intro h; simp [inR] at h; omega) | assumption), ?_⟩
      refine hQ _ _ _ _ _ (RG.nil ⟨by decide +kernel, ?_⟩)
      try simp only [x_tn, x_bn]
      refine aw_reg 1456 (RG.go fun Q hQ => ?_)
      simp only [RX, eff, ev_t, ev_k, lk_cons, setS_cons, setS_nil, AOp.isCall, setD, setEs, presOf, AOp.needs, SV.one?, SV.pre, binV, idsOf, AOp.rds, AOp.ops, SV.ids, C.ids0, Option.map_some, List.map_nil, List.nil_append, true_and, and_self, Bool.false_eq_true, Nat.reduceAdd, Nat.reduceEqDiff, Int.reduceAdd, ↓reduceIte, List.append_nil]
      repeat refine ⟨by (first | omega | (simp; omega) | (simp; done) | exact ⟨by omega, by omega⟩ | exact ⟨by omega, by simp; omega⟩ | exact ⟨by simp; omega, by simp; omega⟩ | exact ⟨by simp, by simp; omega⟩ | (intro h; rw [h]; rfl) | (intro h; refine ⟨fun h2 => ?_, h⟩; rw [h, h2]; rfl) | (intro h; refine ⟨?_, h⟩; simp [inR] at h; omega) | (intro h; simp [inR] at h; omega) | assumption), ?_⟩
      refine hQ _ _ _ _ _ (RG.nil ?_)
      try simp only [x_ln, ↓reduceIte, reduceCtorEq]
      refine ⟨true, ?_, by simp⟩
      simp only [show IntKind.i64.wrap 1 = 1 from rfl, if_true, List.set_cons_succ, List.set_cons_zero, List.cons_append, List.nil_append]
      refine Le.lit2 [] [] _ _ ?_ ?_ ?_ ?_
      · simp only [allL, lk_cons, lkE_cons, lkE_nil, WkSV, WkSV1, WkC, WkC0, rlook, frzEs, Nat.reduceEqDiff, ↓reduceIte, reduceCtorEq, and_true, ne_eq, not_false_eq_true]
        all_goals (try ((repeat' (first | exact trivial | rfl | exact rfl | (refine ⟨⟨_, _, rfl⟩, ?_⟩; (first | exact drows_brow _ | exact drows_nrow _ | exact drows_irow _ | exact drows_wrow _ | assumption | (simp [isDRows, brow, C.isD]; done) | (rw [← List.map_append]; first | exact drows_brow _ | exact drows_nrow _ | exact drows_irow _ | exact drows_wrow _))) | (simp; done) | refine ⟨?_, ?_⟩))))
      · simp only [allL, lkE_cons, lkE_nil, WkC, WkC0, WkEnt2, TrL, rlook, frzEs, isDRows, Option.some.injEq, Nat.reduceEqDiff, ↓reduceIte, reduceCtorEq, true_and, and_true, exists_eq_left', ne_eq, not_false_eq_true, or_true, true_or]
        all_goals (try ((repeat' (first | (first | exact drows_brow _ | exact drows_nrow _ | exact drows_irow _ | exact drows_wrow _ | assumption | (simp [isDRows, brow, C.isD]; done) | (rw [← List.map_append]; first | exact drows_brow _ | exact drows_nrow _ | exact drows_irow _ | exact drows_wrow _)) | rfl | refine ⟨?_, ?_⟩ | (left; (first | exact drows_brow _ | exact drows_nrow _ | exact drows_irow _ | exact drows_wrow _ | assumption | (simp [isDRows, brow, C.isD]; done) | (rw [← List.map_append]; first | exact drows_brow _ | exact drows_nrow _ | exact drows_irow _ | exact drows_wrow _)))))))
      · simp [rlook]
      · first | (simp; done) | (intro k hk; simp [rlook]; omega)
    simp only [keepS, keepE, Option.getD_some, lk_cons, lkE_cons, List.cons_append, List.nil_append, Nat.reduceEqDiff, ↓reduceIte]
    try simp only [Bool.false_eq_true, if_false, if_true]
    try simp only [x_seq]
    refine aw_reg 1552 (RG.go fun Q hQ => ?_)
    simp only [RX, eff, ev_t, lk_cons, setS_cons, setS_nil, AOp.isCall, setD, setEs, presOf, AOp.needs, SV.one?, SV.pre, binV, idsOf, AOp.rds, AOp.ops, SV.ids, C.ids0, Option.map_some, List.map_nil, List.nil_append, true_and, and_self, Bool.false_eq_true, Nat.reduceAdd, Nat.reduceEqDiff, ↓reduceIte, List.append_nil, Int.reduceLT]
    repeat refine ⟨by (first | omega | (simp; omega) | (simp; done) | exact ⟨by omega, by omega⟩ | exact ⟨by omega, by simp; omega⟩ | exact ⟨by simp; omega, by simp; omega⟩ | exact ⟨by simp, by simp; omega⟩ | (intro h; rw [h]; rfl) | (intro h; refine ⟨fun h2 => ?_, h⟩; rw [h, h2]; rfl) | (intro h; refine ⟨?_, h⟩; simp [inR] at h; omega) | (intro h; simp [inR] at h; omega) | assumption), ?_⟩
    refine hQ _ _ _ _ _ (RG.nil ?_)
    try simp only [x_seq, x_tn]
    refine aw_cond _ rfl trivial (fun ht => by cases ht) (fun hf => ?_)
    try simp only [x_exit, x_tn, x_tx, x_bn, x_bx, x_lx, ↓reduceIte]
    refine aw_reg 1584 (RG.go fun Q hQ => ?_)
    simp only [RX, eff, ev_t, ev_k, lk_cons, setS_cons, setS_nil, AOp.isCall, setD, setEs, presOf, AOp.needs, SV.one?, SV.pre, binV, idsOf, AOp.rds, AOp.ops, SV.ids, C.ids0, Option.map_some, List.map_nil, List.nil_append, true_and, and_self, Bool.false_eq_true, Nat.reduceAdd, Nat.reduceEqDiff, Int.reduceAdd, ↓reduceIte, List.append_nil]
    repeat refine ⟨by (first | omega | (simp; omega) | (simp; done) | exact ⟨by omega, by omega⟩ | exact ⟨by omega, by simp; omega⟩ | exact ⟨by simp; omega, by simp; omega⟩ | exact ⟨by simp, by simp; omega⟩ | (intro h; rw [h]; rfl) | (intro h; refine ⟨fun h2 => ?_, h⟩; rw [h, h2]; rfl) | (intro h; refine ⟨?_, h⟩; simp [inR] at h; omega) | (intro h; simp [inR] at h; omega) | assumption), ?_⟩
    refine hQ _ _ _ _ _ (RG.nil ?_)
    try simp only [x_ln, ↓reduceIte, reduceCtorEq]
    refine ⟨true, ?_, by simp⟩
    simp only [show IntKind.i64.wrap 1 = 1 from rfl, if_true, List.cons_append, List.nil_append]
    refine Le.lit2 [] [] _ _ ?_ ?_ ?_ ?_
    · simp only [allL, lk_cons, lkE_cons, lkE_nil, WkSV, WkSV1, WkC, WkC0, rlook, frzEs, Nat.reduceEqDiff, ↓reduceIte, reduceCtorEq, and_true, ne_eq, not_false_eq_true]
      all_goals (try ((repeat' (first | exact trivial | rfl | exact rfl | (refine ⟨⟨_, _, rfl⟩, ?_⟩; (first | exact drows_brow _ | exact drows_nrow _ | exact drows_irow _ | exact drows_wrow _ | assumption | (simp [isDRows, brow, C.isD]; done) | (rw [← List.map_append]; first | exact drows_brow _ | exact drows_nrow _ | exact drows_irow _ | exact drows_wrow _))) | (simp; done) | refine ⟨?_, ?_⟩))))
    · simp only [allL, lkE_cons, lkE_nil, WkC, WkC0, WkEnt2, TrL, rlook, frzEs, isDRows, Option.some.injEq, Nat.reduceEqDiff, ↓reduceIte, reduceCtorEq, true_and, and_true, exists_eq_left', ne_eq, not_false_eq_true, or_true, true_or]
      all_goals (try ((repeat' (first | (first | exact drows_brow _ | exact drows_nrow _ | exact drows_irow _ | exact drows_wrow _ | assumption | (simp [isDRows, brow, C.isD]; done) | (rw [← List.map_append]; first | exact drows_brow _ | exact drows_nrow _ | exact drows_irow _ | exact drows_wrow _)) | rfl | refine ⟨?_, ?_⟩ | (left; (first | exact drows_brow _ | exact drows_nrow _ | exact drows_irow _ | exact drows_wrow _ | assumption | (simp [isDRows, brow, C.isD]; done) | (rw [← List.map_append]; first | exact drows_brow _ | exact drows_nrow _ | exact drows_irow _ | exact drows_wrow _)))))))
    · simp [rlook]
    · first | (simp; done) | (intro k hk; simp [rlook]; omega)
  simp only [keepS, keepE, Option.getD_some, lk_cons, lkE_cons, List.cons_append, List.nil_append, Nat.reduceEqDiff, ↓reduceIte, reduceCtorEq]
  try simp only [Bool.false_eq_true, if_false, if_true]
  try simp only [x_seq]
  refine aw_reg 1600 (RG.go fun Q hQ => ?_)
  simp only [RX, eff, ev_t, lk_cons, setS_cons, setS_nil, AOp.isCall, setD, setEs, presOf, AOp.needs, SV.one?, SV.pre, binV, idsOf, AOp.rds, AOp.ops, SV.ids, C.ids0, Option.map_some, List.map_nil, List.nil_append, true_and, and_self, Bool.false_eq_true, Nat.reduceAdd, Nat.reduceEqDiff, ↓reduceIte, List.append_nil, Int.reduceLT]
  repeat refine ⟨by (first | omega | (simp; omega) | (simp; done) | exact ⟨by omega, by omega⟩ | exact ⟨by omega, by simp; omega⟩ | exact ⟨by simp; omega, by simp; omega⟩ | exact ⟨by simp, by simp; omega⟩ | (intro h; rw [h]; rfl) | (intro h; refine ⟨fun h2 => ?_, h⟩; rw [h, h2]; rfl) | (intro h; refine ⟨?_, h⟩; simp [inR] at h; omega) | (intro h; simp [inR] at h; omega) | assumption), ?_⟩
  refine hQ _ _ _ _ _ (RG.nil ?_)
  try simp only [x_seq, x_tn]
  refine aw_cond _ rfl trivial (fun ht => by cases ht) (fun hf => ?_)
  try simp only [x_seq, x_exit, x_tn, x_tx, x_bx, x_lx, ↓reduceIte]
  refine aw_reg 1648 (RG.go fun Q hQ => ?_)
  simp only [RX, eff, ev_t, lk_cons, lkE_cons, lkE_nil, setS_cons, setS_nil, setE_cons, setE_nil, AOp.isCall, setD, setEs, presOf, AOp.needs, SV.one?, SV.pre, idsOf, AOp.rds, AOp.ops, SV.ids, C.ids0, rowsOf, List.length_cons, List.length_nil, List.map_cons, List.map_nil, List.nil_append, List.cons_append, true_and, and_self, Bool.false_eq_true, Nat.reduceAdd, Nat.reduceEqDiff, Int.reduceToNat, ↓reduceIte, Option.bind_some, Nat.zero_add, List.append_nil, Int.cast_ofNat_Int, Int.reduceLE]
  repeat refine ⟨by (first | omega | (simp; omega) | (simp; done) | exact ⟨by omega, by omega⟩ | exact ⟨by omega, by simp; omega⟩ | exact ⟨by simp; omega, by simp; omega⟩ | exact ⟨by simp, by simp; omega⟩ | (intro h; rw [h]; rfl) | (intro h; refine ⟨fun h2 => ?_, h⟩; rw [h, h2]; rfl) | (intro h; refine ⟨?_, h⟩; simp [inR] at h; omega) | (intro h; simp [inR] at h; omega) | assumption), ?_⟩
  refine hQ _ _ _ _ _ (RG.nil ?_)
  try simp only [x_seq, x_tn]
  refine aw_reg 1744 (RG.go fun Q hQ => ?_)
  simp only [RX, eff, ev_t, ev_k, lk_cons, lkE_cons, setS_cons, setS_nil, AOp.isCall, setD, setEs, presOf, AOp.needs, SV.one?, SV.pre, idsOf, AOp.rds, AOp.ops, SV.ids, C.ids0, rowsOf, List.length_cons, List.length_nil, List.map_nil, List.nil_append, List.cons_append, true_and, and_self, Bool.false_eq_true, Nat.reduceAdd, Nat.reduceEqDiff, ↓reduceIte, Option.bind_some, Nat.zero_add, List.append_nil, Int.cast_ofNat_Int]
  repeat refine ⟨by (first | omega | (simp; omega) | (simp; done) | exact ⟨by omega, by omega⟩ | exact ⟨by omega, by simp; omega⟩ | exact ⟨by simp; omega, by simp; omega⟩ | exact ⟨by simp, by simp; omega⟩ | (intro h; rw [h]; rfl) | (intro h; refine ⟨fun h2 => ?_, h⟩; rw [h, h2]; rfl) | (intro h; refine ⟨?_, h⟩; simp [inR] at h; omega) | (intro h; simp [inR] at h; omega) | assumption), ?_⟩
  refine hQ _ _ _ _ _ (RG.nil ?_)
  try simp only [x_block, x_tn]
  have cA0 : Con Try.prog 58 [.c (.sl []), I 1] [] (.tup [.c (.sl []), B false]) [] := hist_At_con [] 1 (by decide) trivial (by simp)
  have cA1 : Con Try.prog 58 [.c (.sl [[.v (.int .i64 1), .sl [brow 120]]]), I 1] [] (.tup [.c (.sl [brow 120]), B true]) [] := hist_At_con [⟨1, [120]⟩] 1 (by decide) (by simp [rise]) (by simp)
  refine aw_loopK (X := { q : Nat // q ≤ 3 }) [1, 2, 7, 12, 74] (fun q => [(75, I q.1)]) [16] (fun q => [(1680, .arr 43 1 (outR q.1) false), (416, .arr 103 1 [[.v (.slice none 0 0)], [.v (.slice none 0 0)], [.osl 1376]] false), (1376, .arr 105 2 [[.v (.int .i64 1), .sl [brow 120]]] true)]) (fun q => 3 - q.1) (⟨0, by omega⟩) ?_ ?_
  · skip
    simp only [keepS, keepE, Option.getD_some, lk_cons, lkE_cons, List.cons_append, List.nil_append, Nat.reduceEqDiff, ↓reduceIte]
    refine Le.lit2 [] [] _ _ ?_ ?_ ?_ ?_
    · simp only [Int.cast_ofNat_Int, allL, lk_cons, lkE_cons, lkE_nil, WkSV, WkSV1, WkC, WkC0, rlook, frzEs, Nat.reduceEqDiff, ↓reduceIte, reduceCtorEq, and_true, ne_eq, not_false_eq_true]
      all_goals (try ((repeat' (first | exact trivial | rfl | exact rfl | (refine ⟨⟨_, _, rfl⟩, ?_⟩; (first | exact drows_brow _ | exact drows_nrow _ | exact drows_irow _ | exact drows_wrow _ | assumption | (simp [isDRows, brow, C.isD]; done) | (rw [← List.map_append]; first | exact drows_brow _ | exact drows_nrow _ | exact drows_irow _ | exact drows_wrow _))) | (simp; done) | refine ⟨?_, ?_⟩))))
    · simp only [allL, lkE_cons, lkE_nil, WkC, WkC0, WkEnt2, TrL, rlook, frzEs, isDRows, Option.some.injEq, Nat.reduceEqDiff, ↓reduceIte, reduceCtorEq, true_and, and_true, exists_eq_left', ne_eq, not_false_eq_true, or_true, true_or]
      all_goals (exact ⟨rfl, .inl ⟨rfl, by simp [outR, nilR, C.isD]⟩⟩)
    · simp [rlook]
    · first | (simp; done) | (intro k hk; simp [rlook]; omega)
  rintro ⟨q, hq⟩
  simp only [keepS, keepE, Option.getD_some, lk_cons, lkE_cons, List.cons_append, List.nil_append, Nat.reduceEqDiff, ↓reduceIte]
  obtain rfl | rfl | rfl | rfl : q = 0 ∨ q = 1 ∨ q = 2 ∨ q = 3 := by omega
  · skip
    try simp only [x_seq]
    refine aw_reg 1824 (RG.go fun Q hQ => ?_)
    simp only [RX, eff, ev_t, lk_cons, setS_cons, setS_nil, AOp.isCall, setD, setEs, presOf, AOp.needs, SV.one?, SV.pre, binV, idsOf, AOp.rds, AOp.ops, SV.ids, C.ids0, Option.map_some, List.map_nil, List.nil_append, true_and, and_self, Bool.false_eq_true, Nat.reduceAdd, Nat.reduceEqDiff, ↓reduceIte, List.append_nil, Int.cast_ofNat_Int, Int.reduceLT]
    repeat refine ⟨by (first | omega | (simp; omega) | (simp; done) | exact ⟨by omega, by omega⟩ | exact ⟨by omega, by simp; omega⟩ | exact ⟨by simp; omega, by simp; omega⟩ | exact ⟨by simp, by simp; omega⟩ | (intro h; rw [h]; rfl) | (intro h; refine ⟨fun h2 => ?_, h⟩; rw [h, h2]; rfl) | (intro h; refine ⟨?_, h⟩; simp [inR] at h; omega) | (intro h; simp [inR] at h; omega) | assumption), ?_⟩
    refine hQ _ _ _ _ _ (RG.nil ?_)
    try simp only [x_seq, x_tn]
    refine aw_cond _ rfl trivial (fun ht => ?_) (fun hf => by cases hf)
    try simp only [x_seq, x_block, x_skip, x_tn]
    refine aw_reg 1872 (RG.go fun Q hQ => ?_)
    simp only [RX, eff, ev_t, lk_cons, setS_cons, setS_nil, AOp.isCall, setD, setEs, presOf, AOp.needs, idsOf, AOp.rds, List.map_nil, List.nil_append, true_and, Bool.false_eq_true, Nat.reduceAdd, Nat.reduceEqDiff, ↓reduceIte]
    repeat refine ⟨by (first | omega | (simp; omega) | (simp; done) | exact ⟨by omega, by omega⟩ | exact ⟨by omega, by simp; omega⟩ | exact ⟨by simp; omega, by simp; omega⟩ | exact ⟨by simp, by simp; omega⟩ | (intro h; rw [h]; rfl) | (intro h; refine ⟨fun h2 => ?_, h⟩; rw [h, h2]; rfl) | (intro h; refine ⟨?_, h⟩; simp [inR] at h; omega) | (intro h; simp [inR] at h; omega) | assumption), ?_⟩
    refine hQ _ _ _ _ _ (RG.nil ?_)
    try simp only [x_seq, x_tn]
    refine aw_reg 1936 (RG.go fun Q hQ => ?_)
    simp only [RX, eff, ev_t, lk_cons, lkE_cons, setS_cons, setS_nil, AOp.isCall, setD, setEs, presOf, AOp.needs, SV.one?, SV.pre, idsOf, AOp.rds, AOp.ops, SV.ids, C.ids0, Option.getD_some, List.length_cons, List.length_nil, List.getElem?_cons_zero, List.map_nil, List.nil_append, List.cons_append, true_and, and_self, Bool.false_eq_true, Nat.reduceAdd, Nat.reduceEqDiff, Nat.reduceLT, Int.reduceToNat, ↓reduceIte, Nat.zero_add, List.append_nil, Int.cast_ofNat_Int, Int.reduceLT, Int.reduceLE, C_default]
    repeat refine ⟨by (first | omega | (simp; omega) | (simp; done) | exact ⟨by omega, by omega⟩ | exact ⟨by omega, by simp; omega⟩ | exact ⟨by simp; omega, by simp; omega⟩ | exact ⟨by simp, by simp; omega⟩ | (intro h; rw [h]; rfl) | (intro h; refine ⟨fun h2 => ?_, h⟩; rw [h, h2]; rfl) | (intro h; refine ⟨?_, h⟩; simp [inR] at h; omega) | (intro h; simp [inR] at h; omega) | assumption), ?_⟩
    refine hQ _ _ _ _ _ ?_
    refine RG.call [] (cA0) (by (repeat' (first | exact tr_nil | refine tr_cons ?_ ?_ | exact tr_v | exact tr_sl | exact tr_nils | exact tr_agg (by repeat' (first | exact trivial | rfl | exact rfl | refine ⟨?_, ?_⟩)) | exact tr_opt (by simpa using hg) tr_v | exact tr_opt (by simpa using hg) tr_sl | exact tr_opt (by simpa using hg) (tr_agg (by repeat' (first | exact trivial | rfl | exact rfl | refine ⟨?_, ?_⟩)))))) trivial (by exact .inr ⟨pureTB, trivial⟩) ?_
    refine RG.go fun Q hQ => ?_
    simp only [RX, eff, ev_t, lk_cons, setS_cons, setS_nil, AOp.isCall, setD, setEs, presOf, AOp.needs, SV.pre, SV.core, idsOf, AOp.rds, AOp.ops, SV.ids, List.getElem?_cons_zero, List.getElem?_cons_succ, Option.map_some, List.map_nil, List.nil_append, true_and, and_self, Bool.false_eq_true, Nat.reduceAdd, Nat.reduceEqDiff, ↓reduceIte, List.append_nil]
    repeat refine ⟨by (first | omega | (simp; omega) | (simp; done) | exact ⟨by omega, by omega⟩ | exact ⟨by omega, by simp; omega⟩ | exact ⟨by simp; omega, by simp; omega⟩ | exact ⟨by simp, by simp; omega⟩ | (intro h; rw [h]; rfl) | (intro h; refine ⟨fun h2 => ?_, h⟩; rw [h, h2]; rfl) | (intro h; refine ⟨?_, h⟩; simp [inR] at h; omega) | (intro h; simp [inR] at h; omega) | assumption), ?_⟩
    refine hQ _ _ _ _ _ (RG.nil ?_)
    try simp only [x_seq, x_tn]
    refine aw_reg 2144 (RG.go fun Q hQ => ?_)
    simp only [RX, eff, ev_t, lk_cons, setS_cons, setS_nil, AOp.isCall, setD, setEs, presOf, AOp.needs, SV.one?, SV.pre, unV, idsOf, AOp.rds, AOp.ops, SV.ids, C.ids0, Option.map_some, List.map_nil, List.nil_append, true_and, and_self, Bool.false_eq_true, Bool.not_false, Nat.reduceAdd, Nat.reduceEqDiff, ↓reduceIte, List.append_nil]
    repeat refine ⟨by (first | omega | (simp; omega) | (simp; done) | exact ⟨by omega, by omega⟩ | exact ⟨by omega, by simp; omega⟩ | exact ⟨by simp; omega, by simp; omega⟩ | exact ⟨by simp, by simp; omega⟩ | (intro h; rw [h]; rfl) | (intro h; refine ⟨fun h2 => ?_, h⟩; rw [h, h2]; rfl) | (intro h; refine ⟨?_, h⟩; simp [inR] at h; omega) | (intro h; simp [inR] at h; omega) | assumption), ?_⟩
    refine hQ _ _ _ _ _ (RG.nil ?_)
    try simp only [x_tn]
    refine aw_cond _ rfl trivial (fun ht => ?_) (fun hf => by cases hf)
    try simp only [x_seq, x_block, x_skip, x_ret, x_exit, x_tn, x_tr, x_tx, x_bn, x_br, x_bx, x_ln, x_lr, x_lx, Nat.reduceEqDiff, ↓reduceIte, if_true, if_false, reduceCtorEq]
    refine aw_reg 2208 (RG.go fun Q hQ => ?_)
    simp only [RX, eff, foldMx, ev_t, ev_k, lk_cons, lkE_cons, lkE_nil, setS_cons, setS_nil, setE_cons, setE_nil, AOp.isCall, setD, setEs, presOf, AOp.needs, SV.one?, SV.pre, idsOf, AOp.rds, AOp.ops, SV.ids, C.ids0, List.getElem?_cons_zero, List.getElem?_cons_succ, Option.map_some, List.map_cons, List.map_nil, List.nil_append, List.cons_append, true_and, and_self, Bool.false_eq_true, gt_iff_lt, Nat.reduceAdd, Nat.reduceEqDiff, Int.reduceToNat, ↓reduceIte, Nat.zero_add, List.append_nil, Int.cast_ofNat_Int, Int.reduceLT, Int.reduceLE]
    repeat refine ⟨by (first | omega | (simp; omega) | (simp; done) | exact ⟨by omega, by omega⟩ | exact ⟨by omega, by simp; omega⟩ | exact ⟨by simp; omega, by simp; omega⟩ | exact ⟨by simp, by simp; omega⟩ | (intro h; rw [h]; rfl) | (intro h; refine ⟨fun h2 => ?_, h⟩; rw [h, h2]; rfl) | (intro h; refine ⟨?_, h⟩; simp [inR] at h; omega) | (intro h; simp [inR] at h; omega) | assumption), ?_⟩
    refine hQ _ _ _ _ _ (RG.nil ?_)
    try simp only [x_tn]
    refine aw_reg 2320 (RG.go fun Q hQ => ?_)
    simp only [RX, eff, ev_t, lk_cons, lkE_cons, setS_cons, setS_nil, setE_cons, AOp.isCall, setD, setEs, presOf, AOp.needs, SV.one?, SV.pre, SV.cells, idsOf, AOp.rds, AOp.ops, SV.ids, C.ids0, Option.getD_some, splice, List.take_zero, List.drop_succ_cons, List.drop_zero, List.length_cons, List.length_nil, List.getElem?_cons_zero, List.map_cons, List.map_nil, List.nil_append, List.cons_append, true_and, and_self, Bool.false_eq_true, Nat.reduceAdd, Nat.reduceEqDiff, Nat.reduceLT, Int.reduceToNat, ↓reduceIte, Nat.zero_add, Nat.le_refl, List.append_nil, Int.cast_ofNat_Int, Int.reduceLT, Int.reduceLE, outR, nilR]
    repeat refine ⟨by (first | omega | (simp; omega) | (simp; done) | exact ⟨by omega, by omega⟩ | exact ⟨by omega, by simp; omega⟩ | exact ⟨by simp; omega, by simp; omega⟩ | exact ⟨by simp, by simp; omega⟩ | (intro h; rw [h]; rfl) | (intro h; refine ⟨fun h2 => ?_, h⟩; rw [h, h2]; rfl) | (intro h; refine ⟨?_, h⟩; simp [inR] at h; omega) | (intro h; simp [inR] at h; omega) | assumption), ?_⟩
    refine hQ _ _ _ _ _ (RG.nil ?_)
    try simp only [x_tn, x_bn]
    refine aw_reg 2432 (RG.go fun Q hQ => ?_)
    simp only [RX, eff, ev_t, ev_k, lk_cons, setS_cons, setS_nil, AOp.isCall, setD, setEs, presOf, AOp.needs, SV.one?, SV.pre, binV, idsOf, AOp.rds, AOp.ops, SV.ids, C.ids0, Option.map_some, List.map_nil, List.nil_append, true_and, and_self, Bool.false_eq_true, Nat.reduceAdd, Nat.reduceEqDiff, Int.reduceAdd, ↓reduceIte, List.append_nil]
    repeat refine ⟨by (first | omega | (simp; omega) | (simp; done) | exact ⟨by omega, by omega⟩ | exact ⟨by omega, by simp; omega⟩ | exact ⟨by simp; omega, by simp; omega⟩ | exact ⟨by simp, by simp; omega⟩ | (intro h; rw [h]; rfl) | (intro h; refine ⟨fun h2 => ?_, h⟩; rw [h, h2]; rfl) | (intro h; refine ⟨?_, h⟩; simp [inR] at h; omega) | (intro h; simp [inR] at h; omega) | assumption), ?_⟩
    refine hQ _ _ _ _ _ (RG.nil ?_)
    try simp only [x_ln]
    refine ⟨⟨1, by omega⟩, ?_, by simp⟩
    simp only [List.replicate, List.set_cons_zero]
    refine (Le.tell [2256] 1680 43 1 _ (outR 1) false rfl ?_).trans ?_
    · exact ⟨⟨.inr (.inr ⟨_, _, _, _, rfl, rfl, rfl, by simp [isDRows, brow, C.isD]⟩), trivial⟩, ⟨.inl rfl, trivial⟩, ⟨.inl rfl, trivial⟩, trivial⟩
    simp only [show IntKind.i64.wrap 1 = 1 from rfl]
    refine Le.lit2 [] [] _ _ ?_ ?_ ?_ ?_
    · simp only [Int.cast_ofNat_Int, allL, lk_cons, lkE_cons, lkE_nil, WkSV, WkSV1, WkC, WkC0, rlook, frzEs, frzE, setE_cons, Nat.reduceEqDiff, ↓reduceIte, reduceCtorEq, and_true, ne_eq, not_false_eq_true]
      all_goals (try ((repeat' (first | exact trivial | rfl | exact rfl | (refine ⟨⟨_, _, rfl⟩, ?_⟩; (first | exact drows_brow _ | exact drows_nrow _ | exact drows_irow _ | exact drows_wrow _ | assumption | (simp [isDRows, brow, C.isD]; done) | (rw [← List.map_append]; first | exact drows_brow _ | exact drows_nrow _ | exact drows_irow _ | exact drows_wrow _))) | (simp; done) | refine ⟨?_, ?_⟩))))
    · simp only [allL, lkE_cons, lkE_nil, WkC, WkC0, WkEnt2, TrL, rlook, frzEs, frzE, setE_cons, isDRows, Option.some.injEq, Nat.reduceEqDiff, ↓reduceIte, reduceCtorEq, true_and, and_true, exists_eq_left', ne_eq, not_false_eq_true, or_true, true_or]
      all_goals (exact .inl (by simp [outR, nilR, C.isD]))
    · simp [rlook]
    · first | (simp; done) | (intro k hk; simp [rlook]; omega)
  · skip
    try simp only [x_seq]
    refine aw_reg 1824 (RG.go fun Q hQ => ?_)
    simp only [RX, eff, ev_t, lk_cons, setS_cons, setS_nil, AOp.isCall, setD, setEs, presOf, AOp.needs, SV.one?, SV.pre, binV, idsOf, AOp.rds, AOp.ops, SV.ids, C.ids0, Option.map_some, List.map_nil, List.nil_append, true_and, and_self, Bool.false_eq_true, Nat.reduceAdd, Nat.reduceEqDiff, ↓reduceIte, List.append_nil, Int.cast_ofNat_Int, Int.reduceLT]
    repeat refine ⟨by (first | omega | (simp; omega) | (simp; done) | exact ⟨by omega, by omega⟩ | exact ⟨by omega, by simp; omega⟩ | exact ⟨by simp; omega, by simp; omega⟩ | exact ⟨by simp, by simp; omega⟩ | (intro h; rw [h]; rfl) | (intro h; refine ⟨fun h2 => ?_, h⟩; rw [h, h2]; rfl) | (intro h; refine ⟨?_, h⟩; simp [inR] at h; omega) | (intro h; simp [inR] at h; omega) | assumption), ?_⟩
    refine hQ _ _ _ _ _ (RG.nil ?_)
    try simp only [x_seq, x_tn]
    refine aw_cond _ rfl trivial (fun ht => ?_) (fun hf => by cases hf)
    try simp only [x_seq, x_block, x_skip, x_tn]
    refine aw_reg 1872 (RG.go fun Q hQ => ?_)
    simp only [RX, eff, ev_t, lk_cons, setS_cons, setS_nil, AOp.isCall, setD, setEs, presOf, AOp.needs, idsOf, AOp.rds, List.map_nil, List.nil_append, true_and, Bool.false_eq_true, Nat.reduceAdd, Nat.reduceEqDiff, ↓reduceIte]
    repeat refine ⟨by (first | omega | (simp; omega) | (simp; done) | exact ⟨by omega, by omega⟩ | exact ⟨by omega, by simp; omega⟩ | exact ⟨by simp; omega, by simp; omega⟩ | exact ⟨by simp, by simp; omega⟩ | (intro h; rw [h]; rfl) | (intro h; refine ⟨fun h2 => ?_, h⟩; rw [h, h2]; rfl) | (intro h; refine ⟨?_, h⟩; simp [inR] at h; omega) | (intro h; simp [inR] at h; omega) | assumption), ?_⟩
    refine hQ _ _ _ _ _ (RG.nil ?_)
    try simp only [x_seq, x_tn]
    refine aw_reg 1936 (RG.go fun Q hQ => ?_)
    simp only [RX, eff, ev_t, lk_cons, lkE_cons, setS_cons, setS_nil, AOp.isCall, setD, setEs, presOf, AOp.needs, SV.one?, SV.pre, idsOf, AOp.rds, AOp.ops, SV.ids, C.ids0, Option.getD_some, List.length_cons, List.length_nil, List.getElem?_cons_zero, List.getElem?_cons_succ, List.map_nil, List.nil_append, List.cons_append, true_and, and_self, Bool.false_eq_true, Nat.reduceAdd, Nat.reduceEqDiff, Nat.reduceLT, Int.reduceToNat, ↓reduceIte, Nat.zero_add, List.append_nil, Int.cast_ofNat_Int, Int.reduceLT, Int.reduceLE, C_default]
    repeat refine ⟨by (first | omega | (simp; omega) | (simp; done) | exact ⟨by omega, by omega⟩ | exact ⟨by omega, by simp; omega⟩ | exact ⟨by simp; omega, by simp; omega⟩ | exact ⟨by simp, by simp; omega⟩ | (intro h; rw [h]; rfl) | (intro h; refine ⟨fun h2 => ?_, h⟩; rw [h, h2]; rfl) | (intro h; refine ⟨?_, h⟩; simp [inR] at h; omega) | (intro h; simp [inR] at h; omega) | assumption), ?_⟩
    refine hQ _ _ _ _ _ ?_
    refine RG.call [] (cA0) (by (repeat' (first | exact tr_nil | refine tr_cons ?_ ?_ | exact tr_v | exact tr_sl | exact tr_nils | exact tr_agg (by repeat' (first | exact trivial | rfl | exact rfl | refine ⟨?_, ?_⟩)) | exact tr_opt (by simpa using hg) tr_v | exact tr_opt (by simpa using hg) tr_sl | exact tr_opt (by simpa using hg) (tr_agg (by repeat' (first | exact trivial | rfl | exact rfl | refine ⟨?_, ?_⟩)))))) trivial (by exact .inr ⟨pureTB, trivial⟩) ?_
    refine RG.go fun Q hQ => ?_
    simp only [RX, eff, ev_t, lk_cons, setS_cons, setS_nil, AOp.isCall, setD, setEs, presOf, AOp.needs, SV.pre, SV.core, idsOf, AOp.rds, AOp.ops, SV.ids, List.getElem?_cons_zero, List.getElem?_cons_succ, Option.map_some, List.map_nil, List.nil_append, true_and, and_self, Bool.false_eq_true, Nat.reduceAdd, Nat.reduceEqDiff, ↓reduceIte, List.append_nil]
    repeat refine ⟨by (first | omega | (simp; omega) | (simp; done) | exact ⟨by omega, by omega⟩ | exact ⟨by omega, by simp; omega⟩ | exact ⟨by simp; omega, by simp; omega⟩ | exact ⟨by simp, by simp; omega⟩ | (intro h; rw [h]; rfl) | (intro h; refine ⟨fun h2 => ?_, h⟩; rw [h, h2]; rfl) | (intro h; refine ⟨?_, h⟩; simp [inR] at h; omega) | (intro h; simp [inR] at h; omega) | assumption), ?_⟩
    refine hQ _ _ _ _ _ (RG.nil ?_)
    try simp only [x_seq, x_tn]
    refine aw_reg 2144 (RG.go fun Q hQ => ?_)
    simp only [RX, eff, ev_t, lk_cons, setS_cons, setS_nil, AOp.isCall, setD, setEs, presOf, AOp.needs, SV.one?, SV.pre, unV, idsOf, AOp.rds, AOp.ops, SV.ids, C.ids0, Option.map_some, List.map_nil, List.nil_append, true_and, and_self, Bool.false_eq_true, Bool.not_false, Nat.reduceAdd, Nat.reduceEqDiff, ↓reduceIte, List.append_nil]
    repeat refine ⟨by (first | omega | (simp; omega) | (simp; done) | exact ⟨by omega, by omega⟩ | exact ⟨by omega, by simp; omega⟩ | exact ⟨by simp; omega, by simp; omega⟩ | exact ⟨by simp, by simp; omega⟩ | (intro h; rw [h]; rfl) | (intro h; refine ⟨fun h2 => ?_, h⟩; rw [h, h2]; rfl) | (intro h; refine ⟨?_, h⟩; simp [inR] at h; omega) | (intro h; simp [inR] at h; omega) | assumption), ?_⟩
    refine hQ _ _ _ _ _ (RG.nil ?_)
    try simp only [x_tn]
    refine aw_cond _ rfl trivial (fun ht => ?_) (fun hf => by cases hf)
    try simp only [x_seq, x_block, x_skip, x_ret, x_exit, x_tn, x_tr, x_tx, x_bn, x_br, x_bx, x_ln, x_lr, x_lx, Nat.reduceEqDiff, ↓reduceIte, if_true, if_false, reduceCtorEq]
    refine aw_reg 2208 (RG.go fun Q hQ => ?_)
    simp only [RX, eff, foldMx, ev_t, ev_k, lk_cons, lkE_cons, lkE_nil, setS_cons, setS_nil, setE_cons, setE_nil, AOp.isCall, setD, setEs, presOf, AOp.needs, SV.one?, SV.pre, idsOf, AOp.rds, AOp.ops, SV.ids, C.ids0, List.getElem?_cons_zero, List.getElem?_cons_succ, Option.map_some, List.map_cons, List.map_nil, List.nil_append, List.cons_append, true_and, and_self, Bool.false_eq_true, gt_iff_lt, Nat.reduceAdd, Nat.reduceEqDiff, Int.reduceToNat, ↓reduceIte, Nat.zero_add, List.append_nil, Int.cast_ofNat_Int, Int.reduceLT, Int.reduceLE]
    repeat refine ⟨by (first | omega | (simp; omega) | (simp; done) | exact ⟨by omega, by omega⟩ | exact ⟨by omega, by simp; omega⟩ | exact ⟨by simp; omega, by simp; omega⟩ | exact ⟨by simp, by simp; omega⟩ | (intro h; rw [h]; rfl) | (intro h; refine ⟨fun h2 => ?_, h⟩; rw [h, h2]; rfl) | (intro h; refine ⟨?_, h⟩; simp [inR] at h; omega) | (intro h; simp [inR] at h; omega) | assumption), ?_⟩
    refine hQ _ _ _ _ _ (RG.nil ?_)
    try simp only [x_tn]
    refine aw_reg 2320 (RG.go fun Q hQ => ?_)
    simp only [RX, eff, ev_t, lk_cons, lkE_cons, setS_cons, setS_nil, setE_cons, AOp.isCall, setD, setEs, presOf, AOp.needs, SV.one?, SV.pre, SV.cells, idsOf, AOp.rds, AOp.ops, SV.ids, C.ids0, Option.getD_some, splice, List.take_zero, List.drop_succ_cons, List.drop_zero, List.length_cons, List.length_nil, List.getElem?_cons_zero, List.getElem?_cons_succ, List.map_cons, List.map_nil, List.nil_append, List.cons_append, true_and, and_self, Bool.false_eq_true, Nat.reduceAdd, Nat.reduceEqDiff, Nat.reduceLT, Int.reduceToNat, ↓reduceIte, Nat.zero_add, Nat.le_refl, List.append_nil, Int.cast_ofNat_Int, Int.reduceLT, Int.reduceLE, outR, nilR]
    repeat refine ⟨by (first | omega | (simp; omega) | (simp; done) | exact ⟨by omega, by omega⟩ | exact ⟨by omega, by simp; omega⟩ | exact ⟨by simp; omega, by simp; omega⟩ | exact ⟨by simp, by simp; omega⟩ | (intro h; rw [h]; rfl) | (intro h; refine ⟨fun h2 => ?_, h⟩; rw [h, h2]; rfl) | (intro h; refine ⟨?_, h⟩; simp [inR] at h; omega) | (intro h; simp [inR] at h; omega) | assumption), ?_⟩
    refine hQ _ _ _ _ _ (RG.nil ?_)
    try simp only [x_tn, x_bn]
    refine aw_reg 2432 (RG.go fun Q hQ => ?_)
    simp only [RX, eff, ev_t, ev_k, lk_cons, setS_cons, setS_nil, AOp.isCall, setD, setEs, presOf, AOp.needs, SV.one?, SV.pre, binV, idsOf, AOp.rds, AOp.ops, SV.ids, C.ids0, Option.map_some, List.map_nil, List.nil_append, true_and, and_self, Bool.false_eq_true, Nat.reduceAdd, Nat.reduceEqDiff, Int.reduceAdd, ↓reduceIte, List.append_nil]
    repeat refine ⟨by (first | omega | (simp; omega) | (simp; done) | exact ⟨by omega, by omega⟩ | exact ⟨by omega, by simp; omega⟩ | exact ⟨by simp; omega, by simp; omega⟩ | exact ⟨by simp, by simp; omega⟩ | (intro h; rw [h]; rfl) | (intro h; refine ⟨fun h2 => ?_, h⟩; rw [h, h2]; rfl) | (intro h; refine ⟨?_, h⟩; simp [inR] at h; omega) | (intro h; simp [inR] at h; omega) | assumption), ?_⟩
    refine hQ _ _ _ _ _ (RG.nil ?_)
    try simp only [x_ln]
    refine ⟨⟨2, by omega⟩, ?_, by simp⟩
    simp only [List.replicate, List.set_cons_succ, List.set_cons_zero]
    refine (Le.tell [2256] 1680 43 1 _ (outR 2) false rfl ?_).trans ?_
    · exact ⟨⟨.inl rfl, trivial⟩, ⟨.inr (.inr ⟨_, _, _, _, rfl, rfl, rfl, by simp [isDRows, brow, C.isD]⟩), trivial⟩, ⟨.inl rfl, trivial⟩, trivial⟩
    simp only [show IntKind.i64.wrap 2 = 2 from rfl]
    refine Le.lit2 [] [] _ _ ?_ ?_ ?_ ?_
    · simp only [Int.cast_ofNat_Int, allL, lk_cons, lkE_cons, lkE_nil, WkSV, WkSV1, WkC, WkC0, rlook, frzEs, frzE, setE_cons, Nat.reduceEqDiff, ↓reduceIte, reduceCtorEq, and_true, ne_eq, not_false_eq_true]
      all_goals (try ((repeat' (first | exact trivial | rfl | exact rfl | (refine ⟨⟨_, _, rfl⟩, ?_⟩; (first | exact drows_brow _ | exact drows_nrow _ | exact drows_irow _ | exact drows_wrow _ | assumption | (simp [isDRows, brow, C.isD]; done) | (rw [← List.map_append]; first | exact drows_brow _ | exact drows_nrow _ | exact drows_irow _ | exact drows_wrow _))) | (simp; done) | refine ⟨?_, ?_⟩))))
    · simp only [allL, lkE_cons, lkE_nil, WkC, WkC0, WkEnt2, TrL, rlook, frzEs, frzE, setE_cons, isDRows, Option.some.injEq, Nat.reduceEqDiff, ↓reduceIte, reduceCtorEq, true_and, and_true, exists_eq_left', ne_eq, not_false_eq_true, or_true, true_or]
      all_goals (exact .inl (by simp [outR, nilR, C.isD]))
    · simp [rlook]
    · first | (simp; done) | (intro k hk; simp [rlook]; omega)
  · skip
    try simp only [x_seq]
    refine aw_reg 1824 (RG.go fun Q hQ => ?_)
    simp only [RX, eff, ev_t, lk_cons, setS_cons, setS_nil, AOp.isCall, setD, setEs, presOf, AOp.needs, SV.one?, SV.pre, binV, idsOf, AOp.rds, AOp.ops, SV.ids, C.ids0, Option.map_some, List.map_nil, List.nil_append, true_and, and_self, Bool.false_eq_true, Nat.reduceAdd, Nat.reduceEqDiff, ↓reduceIte, List.append_nil, Int.cast_ofNat_Int, Int.reduceLT]
    repeat refine ⟨by (first | omega | (simp; omega) | (simp; done) | exact ⟨by omega, by omega⟩ | exact ⟨by omega, by simp; omega⟩ | exact ⟨by simp; omega, by simp; omega⟩ | exact ⟨by simp, by simp; omega⟩ | (intro h; rw [h]; rfl) | (intro h; refine ⟨fun h2 => ?_, h⟩; rw [h, h2]; rfl) | (intro h; refine ⟨?_, h⟩; simp [inR] at h; omega) | (intro h; simp [inR] at h; omega) | assumption), ?_⟩
    refine hQ _ _ _ _ _ (RG.nil ?_)
    try simp only [x_seq, x_tn]
    refine aw_cond _ rfl trivial (fun ht => ?_) (fun hf => by cases hf)
    try simp only [x_seq, x_block, x_skip, x_tn]
    refine aw_reg 1872 (RG.go fun Q hQ => ?_)
    simp only [RX, eff, ev_t, lk_cons, setS_cons, setS_nil, AOp.isCall, setD, setEs, presOf, AOp.needs, idsOf, AOp.rds, List.map_nil, List.nil_append, true_and, Bool.false_eq_true, Nat.reduceAdd, Nat.reduceEqDiff, ↓reduceIte]
    repeat refine ⟨by (first | omega | (simp; omega) | (simp; done) | exact ⟨by omega, by omega⟩ | exact ⟨by omega, by simp; omega⟩ | exact ⟨by simp; omega, by simp; omega⟩ | exact ⟨by simp, by simp; omega⟩ | (intro h; rw [h]; rfl) | (intro h; refine ⟨fun h2 => ?_, h⟩; rw [h, h2]; rfl) | (intro h; refine ⟨?_, h⟩; simp [inR] at h; omega) | (intro h; simp [inR] at h; omega) | assumption), ?_⟩
    refine hQ _ _ _ _ _ (RG.nil ?_)
    try simp only [x_seq, x_tn]
    refine aw_reg 1936 (RG.go fun Q hQ => ?_)
    simp only [RX, eff, ev_t, lk_cons, lkE_cons, setS_cons, setS_nil, AOp.isCall, setD, setEs, presOf, AOp.needs, SV.one?, SV.pre, idsOf, AOp.rds, AOp.ops, SV.ids, C.ids0, Option.getD_some, List.length_cons, List.length_nil, List.getElem?_cons_zero, List.getElem?_cons_succ, List.map_nil, List.nil_append, List.cons_append, true_and, and_self, Bool.false_eq_true, Nat.reduceAdd, Nat.reduceEqDiff, Nat.reduceLT, Int.reduceToNat, ↓reduceIte, Nat.zero_add, List.append_nil, Int.cast_ofNat_Int, Int.reduceLT, Int.reduceLE, C_default]
    repeat refine ⟨by (first | omega | (simp; omega) | (simp; done) | exact ⟨by omega, by omega⟩ | exact ⟨by omega, by simp; omega⟩ | exact ⟨by simp; omega, by simp; omega⟩ | exact ⟨by simp, by simp; omega⟩ | (intro h; rw [h]; rfl) | (intro h; refine ⟨fun h2 => ?_, h⟩; rw [h, h2]; rfl) | (intro h; refine ⟨?_, h⟩; simp [inR] at h; omega) | (intro h; simp [inR] at h; omega) | assumption), ?_⟩
    refine hQ _ _ _ _ _ ?_
    refine RG.call [1376] (cA1) (by (repeat' (first | exact tr_nil | refine tr_cons ?_ ?_ | exact tr_v | exact tr_sl | exact tr_nils | exact tr_agg (by (repeat' (first | exact trivial | rfl | exact rfl | (refine ⟨by simp, _, _, _, rfl, ?_⟩; (first | exact drows_brow _ | exact drows_nrow _ | exact drows_irow _ | exact drows_wrow _ | assumption | (simp [isDRows, brow, C.isD]; done) | (rw [← List.map_append]; first | exact drows_brow _ | exact drows_nrow _ | exact drows_irow _ | exact drows_wrow _))) | refine ⟨?_, ?_⟩))) | exact tr_view (by simp) rfl (by (first | exact drows_brow _ | exact drows_nrow _ | exact drows_irow _ | exact drows_wrow _ | assumption | (simp [isDRows, brow, C.isD]; done) | (rw [← List.map_append]; first | exact drows_brow _ | exact drows_nrow _ | exact drows_irow _ | exact drows_wrow _)))))) (by repeat' (first | exact trivial | refine views1 rfl ?_)) (by exact .inr ⟨pureTB, ⟨_, _, _, rfl⟩, trivial⟩) ?_
    refine RG.go fun Q hQ => ?_
    simp only [RX, eff, ev_t, lk_cons, setS_cons, setS_nil, AOp.isCall, setD, setEs, presOf, AOp.needs, SV.pre, SV.core, idsOf, AOp.rds, AOp.ops, SV.ids, List.getElem?_cons_zero, List.getElem?_cons_succ, Option.map_some, List.map_nil, List.nil_append, true_and, and_self, Bool.false_eq_true, Nat.reduceAdd, Nat.reduceEqDiff, ↓reduceIte, List.append_nil]
    repeat refine ⟨by (first | omega | (simp; omega) | (simp; done) | exact ⟨by omega, by omega⟩ | exact ⟨by omega, by simp; omega⟩ | exact ⟨by simp; omega, by simp; omega⟩ | exact ⟨by simp, by simp; omega⟩ | (intro h; rw [h]; rfl) | (intro h; refine ⟨fun h2 => ?_, h⟩; rw [h, h2]; rfl) | (intro h; refine ⟨?_, h⟩; simp [inR] at h; omega) | (intro h; simp [inR] at h; omega) | assumption), ?_⟩
    refine hQ _ _ _ _ _ (RG.nil ?_)
    try simp only [x_seq, x_tn]
    refine aw_reg 2144 (RG.go fun Q hQ => ?_)
    simp only [RX, eff, ev_t, lk_cons, setS_cons, setS_nil, AOp.isCall, setD, setEs, presOf, AOp.needs, SV.one?, SV.pre, unV, idsOf, AOp.rds, AOp.ops, SV.ids, C.ids0, Option.map_some, List.map_nil, List.nil_append, true_and, and_self, Bool.false_eq_true, Bool.not_true, Nat.reduceAdd, Nat.reduceEqDiff, ↓reduceIte, List.append_nil]
    repeat refine ⟨by (first | omega | (simp; omega) | (simp; done) | exact ⟨by omega, by omega⟩ | exact ⟨by omega, by simp; omega⟩ | exact ⟨by simp; omega, by simp; omega⟩ | exact ⟨by simp, by simp; omega⟩ | (intro h; rw [h]; rfl) | (intro h; refine ⟨fun h2 => ?_, h⟩; rw [h, h2]; rfl) | (intro h; refine ⟨?_, h⟩; simp [inR] at h; omega) | (intro h; simp [inR] at h; omega) | assumption), ?_⟩
    refine hQ _ _ _ _ _ (RG.nil ?_)
    try simp only [x_tn]
    refine aw_cond _ rfl trivial (fun ht => by cases ht) (fun hf => ?_)
    try simp only [x_skip, x_tn]
    refine aw_reg 2320 (RG.go fun Q hQ => ?_)
    simp only [RX, eff, ev_t, lk_cons, lkE_cons, setS_cons, setS_nil, setE_cons, AOp.isCall, setD, setEs, presOf, AOp.needs, SV.one?, SV.pre, SV.cells, idsOf, AOp.rds, AOp.ops, SV.ids, C.ids0, Option.getD_some, splice, List.take_zero, List.drop_succ_cons, List.drop_zero, List.length_cons, List.length_nil, List.getElem?_cons_zero, List.getElem?_cons_succ, List.map_cons, List.map_nil, List.nil_append, List.cons_append, true_and, and_self, Bool.false_eq_true, Nat.reduceAdd, Nat.reduceEqDiff, Nat.reduceLT, Int.reduceToNat, ↓reduceIte, Nat.zero_add, Nat.le_refl, List.append_nil, Int.cast_ofNat_Int, Int.reduceLT, Int.reduceLE, outR, nilR]
    repeat refine ⟨by (first | omega | (simp; omega) | (simp; done) | exact ⟨by omega, by omega⟩ | exact ⟨by omega, by simp; omega⟩ | exact ⟨by simp; omega, by simp; omega⟩ | exact ⟨by simp, by simp; omega⟩ | (intro h; rw [h]; rfl) | (intro h; refine ⟨fun h2 => ?_, h⟩; rw [h, h2]; rfl) | (intro h; refine ⟨?_, h⟩; simp [inR] at h; omega) | (intro h; simp [inR] at h; omega) | assumption), ?_⟩
    refine hQ _ _ _ _ _ (RG.nil ?_)
    try simp only [x_tn, x_bn]
    refine aw_reg 2432 (RG.go fun Q hQ => ?_)
    simp only [RX, eff, ev_t, ev_k, lk_cons, setS_cons, setS_nil, AOp.isCall, setD, setEs, presOf, AOp.needs, SV.one?, SV.pre, binV, idsOf, AOp.rds, AOp.ops, SV.ids, C.ids0, Option.map_some, List.map_nil, List.nil_append, true_and, and_self, Bool.false_eq_true, Nat.reduceAdd, Nat.reduceEqDiff, Int.reduceAdd, ↓reduceIte, List.append_nil]
    repeat refine ⟨by (first | omega | (simp; omega) | (simp; done) | exact ⟨by omega, by omega⟩ | exact ⟨by omega, by simp; omega⟩ | exact ⟨by simp; omega, by simp; omega⟩ | exact ⟨by simp, by simp; omega⟩ | (intro h; rw [h]; rfl) | (intro h; refine ⟨fun h2 => ?_, h⟩; rw [h, h2]; rfl) | (intro h; refine ⟨?_, h⟩; simp [inR] at h; omega) | (intro h; simp [inR] at h; omega) | assumption), ?_⟩
    refine hQ _ _ _ _ _ (RG.nil ?_)
    try simp only [x_ln]
    refine ⟨⟨3, by omega⟩, ?_, by simp⟩
    simp only [List.set_cons_succ, List.set_cons_zero, show IntKind.i64.wrap 3 = 3 from rfl]
    refine Le.lit2 [] [] _ _ ?_ ?_ ?_ ?_
    · simp only [Int.cast_ofNat_Int, allL, lk_cons, lkE_cons, lkE_nil, WkSV, WkSV1, WkC, WkC0, rlook, frzEs, Nat.reduceEqDiff, ↓reduceIte, reduceCtorEq, and_true, ne_eq, not_false_eq_true]
      all_goals (try ((repeat' (first | exact trivial | rfl | exact rfl | (refine ⟨⟨_, _, rfl⟩, ?_⟩; (first | exact drows_brow _ | exact drows_nrow _ | exact drows_irow _ | exact drows_wrow _ | assumption | (simp [isDRows, brow, C.isD]; done) | (rw [← List.map_append]; first | exact drows_brow _ | exact drows_nrow _ | exact drows_irow _ | exact drows_wrow _))) | (simp; done) | refine ⟨?_, ?_⟩))))
    · simp only [allL, lkE_cons, lkE_nil, WkC, WkC0, WkEnt2, TrL, rlook, frzEs, isDRows, Option.some.injEq, Nat.reduceEqDiff, ↓reduceIte, reduceCtorEq, true_and, and_true, exists_eq_left', ne_eq, not_false_eq_true, or_true, true_or]
      all_goals (exact ⟨rfl, .inl ⟨rfl, by simp [outR, C.isD]⟩⟩)
    · simp [rlook]
    · first | (simp; done) | (intro k hk; simp [rlook]; omega)
  · skip
    try simp only [x_seq]
    refine aw_reg 1824 (RG.go fun Q hQ => ?_)
    simp only [RX, eff, ev_t, lk_cons, setS_cons, setS_nil, AOp.isCall, setD, setEs, presOf, AOp.needs, SV.one?, SV.pre, binV, idsOf, AOp.rds, AOp.ops, SV.ids, C.ids0, Option.map_some, List.map_nil, List.nil_append, true_and, and_self, Bool.false_eq_true, Nat.reduceAdd, Nat.reduceEqDiff, ↓reduceIte, List.append_nil, Int.cast_ofNat_Int, Int.reduceLT]
    repeat refine ⟨by (first | omega | (simp; omega) | (simp; done) | exact ⟨by omega, by omega⟩ | exact ⟨by omega, by simp; omega⟩ | exact ⟨by simp; omega, by simp; omega⟩ | exact ⟨by simp, by simp; omega⟩ | (intro h; rw [h]; rfl) | (intro h; refine ⟨fun h2 => ?_, h⟩; rw [h, h2]; rfl) | (intro h; refine ⟨?_, h⟩; simp [inR] at h; omega) | (intro h; simp [inR] at h; omega) | assumption), ?_⟩
    refine hQ _ _ _ _ _ (RG.nil ?_)
    try simp only [x_seq, x_tn]
    refine aw_cond _ rfl trivial (fun ht => by cases ht) (fun hf => ?_)
    try simp only [x_seq, x_exit, x_tn, x_tx, x_bx, x_lx, ↓reduceIte]
    refine aw_reg 2672 (RG.go fun Q hQ => ?_)
    simp only [RX, eff, ev_t, ev_k, lk_cons, setS_cons, setS_nil, AOp.isCall, setD, setEs, presOf, AOp.needs, idsOf, AOp.rds, List.map_nil, List.nil_append, true_and, Bool.false_eq_true, Nat.reduceAdd, Nat.reduceEqDiff, ↓reduceIte]
    repeat refine ⟨by (first | omega | (simp; omega) | (simp; done) | exact ⟨by omega, by omega⟩ | exact ⟨by omega, by simp; omega⟩ | exact ⟨by simp; omega, by simp; omega⟩ | exact ⟨by simp, by simp; omega⟩ | (intro h; rw [h]; rfl) | (intro h; refine ⟨fun h2 => ?_, h⟩; rw [h, h2]; rfl) | (intro h; refine ⟨?_, h⟩; simp [inR] at h; omega) | (intro h; simp [inR] at h; omega) | assumption), ?_⟩
    refine hQ _ _ _ _ _ (RG.nil ?_)
    try simp only [x_ret, x_tn]
    refine Fin.data [1680] (.inr rfl) rfl (by (first | exact trivial | exact ⟨trivial, trivial⟩ | exact ⟨trivial, trivial, trivial⟩)) ?_
    simp only [mkSt_sl, lk_cons, lkE_cons, WkSV, WkSV1, WkC, WkC0, TrL, frzEs, frzE, setE_cons, isDRows, Option.some.injEq, Nat.reduceEqDiff, ↓reduceIte, and_true]
    all_goals (exact ⟨⟨_, _, rfl⟩, by simp [outR, C.isD]⟩)

end Go.Abs

namespace Go.Abs
open Go Go.Proofs
set_option maxRecDepth 100000
set_option linter.unusedSimpArgs false
set_option maxHeartbeats 4000000

def cmd1 : CMD := ⟨0, 0, 3, 1, 2, [1, 2], 0, 0, 0, []⟩
def vNil : VOL := ⟨0, 3, 1, 2, [1, 2], 0, 0, false, 0, [], []⟩
def cmd2 : CMD := ⟨2, 0, 0, 0, 0, [], 0, 0, 0, [⟨2, [120]⟩]⟩
def cmd3 : CMD := ⟨0, 0, 0, 0, 0, [], 0, 0, 0, []⟩

theorem new1 : newR cmd1 = (vNil, 0) := by rw [newR, if_pos (by decide)]; rfl
theorem new3 : newR cmd3 = (zeroV, 23) := by rw [newR, if_neg (by decide)]
theorem do2 : doPut vNil [⟨2, [120]⟩] = done vOne := by rw [doPut, if_neg (by decide), if_pos (by decide)]; rfl

theorem pureTA {cs : List C} {x : Value} (h : ∀ c ∈ cs, c.isD = true) : (SV.tup [.agg cs, .c (.v x)]).pureD := by
  intro s hs
  simp only [List.mem_cons, List.not_mem_nil, or_false] at hs
  rcases hs with rfl | rfl
  · exact h
  · rfl
theorem pureTC {r : List (List C)} {x : Value} : (SV.tup [.c (.sl r), .c (.v x)]).pureD := by
  intro s hs
  simp only [List.mem_cons, List.not_mem_nil, or_false] at hs
  rcases hs with rfl | rfl <;> rfl

theorem push1 : pushV vOne 1 0 = (⟨0, 1, 1, 1, 0, 1, 0, [⟨1, [⟨0, [120]⟩]⟩]⟩, true) := by
  rw [pushV, if_pos (by decide)]; rfl

theorem mementolaw16_known_con : Con Try.prog 11 [] [] (B true) [] := by
  have cN1 := volume_New_con cmd1 (by decide)
  rw [new1] at cN1
  have cN3 := volume_New_con cmd3 (by decide)
  rw [new3] at cN3
  have cD := volume_Do_put vNil cmd2 ⟨by decide, by decide, by decide, by decide⟩ rfl (by decide) (by decide)
  rw [show cmd2.items = [⟨2, [120]⟩] from rfl, do2] at cD
  have cP := volume_Push_con vOne 1 0 vOne_ok vOne_right
  rw [push1] at cP
  have cR := volume_Right_con vOne vOne_ok
  rw [vOne_right] at cR
  have cL := volume_Low_con vOne (by decide)
  rw [show lowV vOne = 1 from rfl] at cL
  refine C_mementolaw16_known (Nat.le_of_ble_eq_true rfl) (Nat.le_of_ble_eq_true rfl) ?_
  simp only [A_mementolaw16_known, argL, objL, List.length_nil, x_seq]
  refine aw_reg 16 (RG.go fun Q hQ => ?_)
  simp only [RX, eff, ev_k, setS_nil, AOp.isCall, setD, setEs, presOf, AOp.needs, idsOf, AOp.rds, List.map_nil, List.nil_append, true_and, Bool.false_eq_true, Nat.reduceAdd, ↓reduceIte]
  repeat refine ⟨by (first | omega | (simp; omega) | (simp; done) | exact ⟨by omega, by omega⟩ | exact ⟨by omega, by simp; omega⟩ | exact ⟨by simp; omega, by simp; omega⟩ | exact ⟨by simp, by simp; omega⟩ | (intro h; rw [h]; rfl) | (intro h; refine ⟨fun h2 => ?_, h⟩; rw [h, h2]; rfl) | (intro h; refine ⟨?_, h⟩; simp [inR] at h; omega) | (intro h; simp [inR] at h; omega) | assumption), ?_⟩
  refine hQ _ _ _ _ _ (RG.nil ?_)
  try simp only [x_seq, x_tn]
  refine aw_reg 64 (RG.go fun Q hQ => ?_)
  simp only [RX, eff, ev_t, ev_k, lk_cons, lkE_nil, setS_cons, setS_nil, setE_nil, AOp.isCall, setD, setEs, presOf, AOp.needs, SV.pre, SV.cells, idsOf, AOp.rds, AOp.ops, SV.ids, C.ids0, bldFold, bSRows, splice, List.take_succ_cons, List.take_zero, List.drop_succ_cons, List.drop_zero, List.length_cons, List.length_nil, Option.map_some, List.map_cons, List.map_nil, List.nil_append, List.cons_append, true_and, and_self, Bool.false_eq_true, reduceCtorEq, Nat.reduceAdd, Nat.reduceEqDiff, Nat.reduceLeDiff, ↓reduceIte, Nat.zero_add, List.append_nil]
  repeat refine ⟨by (first | omega | (simp; omega) | (simp; done) | exact ⟨by omega, by omega⟩ | exact ⟨by omega, by simp; omega⟩ | exact ⟨by simp; omega, by simp; omega⟩ | exact ⟨by simp, by simp; omega⟩ | (intro h; rw [h]; rfl) | (intro h; refine ⟨fun h2 => ?_, h⟩; rw [h, h2]; rfl) | (intro h; refine ⟨?_, h⟩; simp [inR] at h; omega) | (intro h; simp [inR] at h; omega) | assumption), ?_⟩
  refine hQ _ _ _ _ _ ?_
  refine RG.callo [] [64] (cN1) (.mk (by (repeat' (first | exact tr_nil | refine tr_cons ?_ ?_ | exact tr_v | exact tr_sl | exact tr_nils | exact tr_agg (by (repeat' (first | exact trivial | rfl | exact rfl | (refine ⟨by simp, _, _, _, rfl, ?_⟩; (first | exact drows_brow _ | exact drows_nrow _ | exact drows_irow _ | exact drows_wrow _ | assumption | (simp [isDRows, brow, C.isD]; done) | (rw [← List.map_append]; first | exact drows_brow _ | exact drows_nrow _ | exact drows_irow _ | exact drows_wrow _))) | refine ⟨?_, ?_⟩))) | exact tr_view (by simp) rfl (by (first | exact drows_brow _ | exact drows_nrow _ | exact drows_irow _ | exact drows_wrow _ | assumption | (simp [isDRows, brow, C.isD]; done) | (rw [← List.map_append]; first | exact drows_brow _ | exact drows_nrow _ | exact drows_irow _ | exact drows_wrow _)))))) (by first | trivial | (simp only [Int.cast_ofNat_Int, setEs, setE_cons, setE_nil, TrL, TrSV, TrC, TrC0, TrEnt, Views, Frozen, lk_cons, lk_nil, lkE_cons, lkE_nil, ev_t, ev_k, List.map_cons, List.map_nil, List.getElem?_cons_zero, List.getElem?_cons_succ, List.getElem?_nil, List.mem_cons, List.not_mem_nil, or_false, false_or, or_true, true_or, Nat.reduceEqDiff, Nat.reduceAdd, ↓reduceIte, if_true, if_false, reduceCtorEq, true_and, and_true, and_self, exists_eq_left, exists_eq_left', ne_eq, not_false_eq_true, Option.some.injEq, Ent.arr.injEq, Ent.box.injEq, List.length_cons, List.length_nil, isDRows, List.append_nil, List.nil_append]; done) | (simp only [Int.cast_ofNat_Int, setEs, setE_cons, setE_nil, TrL, TrSV, TrC, TrC0, TrEnt, Views, Frozen, lk_cons, lk_nil, lkE_cons, lkE_nil, ev_t, ev_k, List.map_cons, List.map_nil, List.getElem?_cons_zero, List.getElem?_cons_succ, List.getElem?_nil, List.mem_cons, List.not_mem_nil, or_false, false_or, or_true, true_or, Nat.reduceEqDiff, Nat.reduceAdd, ↓reduceIte, if_true, if_false, reduceCtorEq, true_and, and_true, and_self, exists_eq_left, exists_eq_left', ne_eq, not_false_eq_true, Option.some.injEq, Ent.arr.injEq, Ent.box.injEq, List.length_cons, List.length_nil, isDRows, List.append_nil, List.nil_append]; trivial) | (simp only [Int.cast_ofNat_Int, setEs, setE_cons, setE_nil, TrL, TrSV, TrC, TrC0, TrEnt, Views, Frozen, lk_cons, lk_nil, lkE_cons, lkE_nil, ev_t, ev_k, List.map_cons, List.map_nil, List.getElem?_cons_zero, List.getElem?_cons_succ, List.getElem?_nil, List.mem_cons, List.not_mem_nil, or_false, false_or, or_true, true_or, Nat.reduceEqDiff, Nat.reduceAdd, ↓reduceIte, if_true, if_false, reduceCtorEq, true_and, and_true, and_self, exists_eq_left, exists_eq_left', ne_eq, not_false_eq_true, Option.some.injEq, Ent.arr.injEq, Ent.box.injEq, List.length_cons, List.length_nil, isDRows, List.append_nil, List.nil_append]; repeat' (first | (first | exact drows_brow _ | exact drows_nrow _ | exact drows_irow _ | exact drows_wrow _ | assumption | (simp [isDRows, brow, C.isD]; done) | (rw [← List.map_append]; first | exact drows_brow _ | exact drows_nrow _ | exact drows_irow _ | exact drows_wrow _)) | refine ⟨?_, ?_⟩))) (by simp) (by simp) (views1 rfl trivial) (by first | (simp [lkE_cons, lkE_nil]; done) | (intro j hj; simp at hj; simp only [setEs, setE_cons, setE_nil, lkE_cons, lkE_nil]; repeat rw [if_neg (by omega)])) (by first | (simp [Ent.pure]; done) | (simp [Ent.pure]; repeat' (first | (first | exact drows_brow _ | exact drows_nrow _ | exact drows_irow _ | exact drows_wrow _ | assumption | (simp [isDRows, brow, C.isD]; done) | (rw [← List.map_append]; first | exact drows_brow _ | exact drows_nrow _ | exact drows_irow _ | exact drows_wrow _)) | refine ⟨?_, ?_⟩))) (by simp) (by simp)) ?_
  refine RG.go fun Q hQ => ?_
  simp only [RX, eff, ev_t, lk_cons, lkE_cons, lkE_nil, setS_cons, setS_nil, setE_cons, setE_nil, AOp.isCall, setD, setEs, presOf, AOp.needs, SV.one?, SV.pre, SV.core, SV.cells, idsOf, AOp.rds, AOp.ops, SV.ids, C.ids0, splice, List.take_zero, List.drop_zero, List.length_cons, List.length_nil, List.getElem?_cons_zero, List.getElem?_cons_succ, Option.map_some, List.map_cons, List.map_nil, List.nil_append, List.cons_append, and_true, true_and, and_self, Bool.false_eq_true, reduceCtorEq, Nat.reduceAdd, Nat.reduceEqDiff, ↓reduceIte, Nat.zero_add, Nat.le_refl, renSV, renSV1, renC, renC0, renEnt, backUps, List.zip_nil_right, List.zipIdx_nil, List.filterMap_cons, List.filterMap_nil, List.append_nil, List.range_zero, Nat.sub_self]
  simp only [setE_cons, setEs, List.drop_succ_cons, List.drop_zero, List.length_cons, List.length_nil, List.map_cons, List.map_nil, true_and, Nat.reduceAdd, Nat.reduceEqDiff, ↓reduceIte, Nat.zero_add, renC, renC0, List.append_nil, volC, vC, vNil]
  repeat refine ⟨by (first | omega | (simp; omega) | (simp; done) | exact ⟨by omega, by omega⟩ | exact ⟨by omega, by simp; omega⟩ | exact ⟨by simp; omega, by simp; omega⟩ | exact ⟨by simp, by simp; omega⟩ | (intro h; rw [h]; rfl) | (intro h; refine ⟨fun h2 => ?_, h⟩; rw [h, h2]; rfl) | (intro h; refine ⟨?_, h⟩; simp [inR] at h; omega) | (intro h; simp [inR] at h; omega) | assumption), ?_⟩
  refine hQ _ _ _ _ _ (RG.nil ?_)
  try simp only [x_seq, x_tn]
  refine aw_reg 240 (RG.go fun Q hQ => ?_)
  simp only [RX, eff, ev_t, ev_k, lk_cons, lkE_cons, lkE_nil, setS_cons, setS_nil, setE_cons, setE_nil, AOp.isCall, setD, setEs, presOf, AOp.needs, SV.one?, SV.pre, SV.cells, idsOf, AOp.rds, AOp.ops, SV.ids, C.ids0, bldFold, bSRows, splice, List.take_succ_cons, List.take_zero, List.drop_succ_cons, List.drop_zero, List.length_cons, List.length_nil, Option.map_some, List.map_cons, List.map_nil, List.nil_append, List.cons_append, true_and, and_self, Bool.false_eq_true, reduceCtorEq, Nat.reduceAdd, Nat.reduceEqDiff, Nat.reduceLeDiff, ↓reduceIte, Nat.zero_add, Nat.le_refl, List.append_nil]
  refine ⟨⟨by simp, by simp [isDRows, C.isD]⟩, hQ _ _ _ _ _ ?_⟩
  refine RG.callo [] [304] (cD) (.mk (by (repeat' (first | exact tr_nil | refine tr_cons ?_ ?_ | exact tr_v | exact tr_sl | exact tr_nils | exact tr_agg (by (repeat' (first | exact trivial | rfl | exact rfl | (refine ⟨by simp, _, _, _, rfl, ?_⟩; (first | exact drows_brow _ | exact drows_nrow _ | exact drows_irow _ | exact drows_wrow _ | assumption | (simp [isDRows, brow, C.isD]; done) | (rw [← List.map_append]; first | exact drows_brow _ | exact drows_nrow _ | exact drows_irow _ | exact drows_wrow _))) | refine ⟨?_, ?_⟩))) | exact tr_view (by simp) rfl (by (first | exact drows_brow _ | exact drows_nrow _ | exact drows_irow _ | exact drows_wrow _ | assumption | (simp [isDRows, brow, C.isD]; done) | (rw [← List.map_append]; first | exact drows_brow _ | exact drows_nrow _ | exact drows_irow _ | exact drows_wrow _)))))) (by first | trivial | (simp only [Int.cast_ofNat_Int, setEs, setE_cons, setE_nil, TrL, TrSV, TrC, TrC0, TrEnt, Views, Frozen, lk_cons, lk_nil, lkE_cons, lkE_nil, ev_t, ev_k, List.map_cons, List.map_nil, List.getElem?_cons_zero, List.getElem?_cons_succ, List.getElem?_nil, List.mem_cons, List.not_mem_nil, or_false, false_or, or_true, true_or, Nat.reduceEqDiff, Nat.reduceAdd, ↓reduceIte, if_true, if_false, reduceCtorEq, true_and, and_true, and_self, exists_eq_left, exists_eq_left', ne_eq, not_false_eq_true, Option.some.injEq, Ent.arr.injEq, Ent.box.injEq, List.length_cons, List.length_nil, isDRows, List.append_nil, List.nil_append]; done) | (simp only [Int.cast_ofNat_Int, setEs, setE_cons, setE_nil, TrL, TrSV, TrC, TrC0, TrEnt, Views, Frozen, lk_cons, lk_nil, lkE_cons, lkE_nil, ev_t, ev_k, List.map_cons, List.map_nil, List.getElem?_cons_zero, List.getElem?_cons_succ, List.getElem?_nil, List.mem_cons, List.not_mem_nil, or_false, false_or, or_true, true_or, Nat.reduceEqDiff, Nat.reduceAdd, ↓reduceIte, if_true, if_false, reduceCtorEq, true_and, and_true, and_self, exists_eq_left, exists_eq_left', ne_eq, not_false_eq_true, Option.some.injEq, Ent.arr.injEq, Ent.box.injEq, List.length_cons, List.length_nil, isDRows, List.append_nil, List.nil_append]; trivial) | (simp only [Int.cast_ofNat_Int, setEs, setE_cons, setE_nil, TrL, TrSV, TrC, TrC0, TrEnt, Views, Frozen, lk_cons, lk_nil, lkE_cons, lkE_nil, ev_t, ev_k, List.map_cons, List.map_nil, List.getElem?_cons_zero, List.getElem?_cons_succ, List.getElem?_nil, List.mem_cons, List.not_mem_nil, or_false, false_or, or_true, true_or, Nat.reduceEqDiff, Nat.reduceAdd, ↓reduceIte, if_true, if_false, reduceCtorEq, true_and, and_true, and_self, exists_eq_left, exists_eq_left', ne_eq, not_false_eq_true, Option.some.injEq, Ent.arr.injEq, Ent.box.injEq, List.length_cons, List.length_nil, isDRows, List.append_nil, List.nil_append]; repeat' (first | (first | exact drows_brow _ | exact drows_nrow _ | exact drows_irow _ | exact drows_wrow _ | assumption | (simp [isDRows, brow, C.isD]; done) | (rw [← List.map_append]; first | exact drows_brow _ | exact drows_nrow _ | exact drows_irow _ | exact drows_wrow _)) | refine ⟨?_, ?_⟩))) (by simp) (by simp) (views1 rfl trivial) (by first | (simp [lkE_cons, lkE_nil]; done) | (intro j hj; simp at hj; simp only [setEs, setE_cons, setE_nil, lkE_cons, lkE_nil]; repeat rw [if_neg (by omega)])) (by first | (simp [Ent.pure]; done) | (simp [Ent.pure]; repeat' (first | (first | exact drows_brow _ | exact drows_nrow _ | exact drows_irow _ | exact drows_wrow _ | assumption | (simp [isDRows, brow, C.isD]; done) | (rw [← List.map_append]; first | exact drows_brow _ | exact drows_nrow _ | exact drows_irow _ | exact drows_wrow _)) | refine ⟨?_, ?_⟩))) (by simp) (by simp)) ?_
  refine RG.go fun Q hQ => ?_
  simp only [RX, eff, ev_t, lk_cons, lkE_cons, lkE_nil, setS_cons, setS_nil, setE_cons, setE_nil, AOp.isCall, setD, setEs, presOf, AOp.needs, SV.one?, SV.pre, SV.core, SV.cells, idsOf, AOp.rds, AOp.ops, SV.ids, C.ids0, splice, List.take_zero, List.drop_zero, List.length_cons, List.length_nil, List.getElem?_cons_zero, List.getElem?_cons_succ, Option.map_some, List.map_cons, List.map_nil, List.nil_append, List.cons_append, and_true, true_and, and_self, Bool.false_eq_true, reduceCtorEq, Nat.reduceAdd, Nat.reduceEqDiff, ↓reduceIte, Nat.zero_add, Nat.le_refl, renSV, renSV1, renEnt, backUps, List.zip_nil_right, List.zipIdx_nil, List.filterMap_cons, List.filterMap_nil, List.append_nil, List.range_zero, Nat.sub_self]
  simp only [lkE_cons, setE_cons, setEs, List.drop_succ_cons, List.drop_zero, List.length_cons, List.length_nil, List.map_cons, List.map_nil, true_and, and_self, Nat.reduceAdd, Nat.reduceEqDiff, ↓reduceIte, Nat.zero_add, Nat.le_refl, renC, renC0, List.append_nil, Int.cast_ofNat_Int, volC, vC, vOne, repC, done, lenV]
  repeat refine ⟨by (first | omega | (simp; omega) | (simp; done) | exact ⟨by omega, by omega⟩ | exact ⟨by omega, by simp; omega⟩ | exact ⟨by simp; omega, by simp; omega⟩ | exact ⟨by simp, by simp; omega⟩ | (intro h; rw [h]; rfl) | (intro h; refine ⟨fun h2 => ?_, h⟩; rw [h, h2]; rfl) | (intro h; refine ⟨?_, h⟩; simp [inR] at h; omega) | (intro h; simp [inR] at h; omega) | assumption), ?_⟩
  refine hQ _ _ _ _ _ (RG.nil ?_)
  try simp only [x_seq, x_tn]
  refine aw_reg 496 (RG.go fun Q hQ => ?_)
  simp only [RX, eff, ev_t, lk_cons, lkE_cons, setS_cons, setS_nil, AOp.isCall, setD, setEs, presOf, AOp.needs, SV.one?, SV.pre, idsOf, AOp.rds, AOp.ops, SV.ids, C.ids0, List.take_succ_cons, List.take_zero, List.drop_zero, List.length_cons, List.length_nil, List.map_nil, List.nil_append, List.cons_append, true_and, and_self, Bool.false_eq_true, reduceCtorEq, Nat.reduceAdd, Nat.reduceEqDiff, ↓reduceIte, Nat.zero_add, Nat.le_refl, List.append_nil]
  repeat refine ⟨by (first | omega | (simp; omega) | (simp; done) | exact ⟨by omega, by omega⟩ | exact ⟨by omega, by simp; omega⟩ | exact ⟨by simp; omega, by simp; omega⟩ | exact ⟨by simp, by simp; omega⟩ | (intro h; rw [h]; rfl) | (intro h; refine ⟨fun h2 => ?_, h⟩; rw [h, h2]; rfl) | (intro h; refine ⟨?_, h⟩; simp [inR] at h; omega) | (intro h; simp [inR] at h; omega) | assumption), ?_⟩
  refine hQ _ _ _ _ _ ?_
  refine RG.call [] (volume_State_one) (by (repeat' (first | exact tr_nil | refine tr_cons ?_ ?_ | exact tr_v | exact tr_sl | exact tr_nils | exact tr_agg (by repeat' (first | exact trivial | rfl | exact rfl | refine ⟨?_, ?_⟩)) | exact tr_opt (by simpa using hg) tr_v | exact tr_opt (by simpa using hg) tr_sl | exact tr_opt (by simpa using hg) (tr_agg (by repeat' (first | exact trivial | rfl | exact rfl | refine ⟨?_, ?_⟩)))))) trivial (by exact .inr ⟨pureTC, trivial⟩) ?_
  refine RG.go fun Q hQ => ?_
  simp only [RX, eff, ev_t, lk_cons, setS_cons, setS_nil, AOp.isCall, setD, setEs, presOf, AOp.needs, SV.pre, SV.core, idsOf, AOp.rds, AOp.ops, SV.ids, List.getElem?_cons_zero, List.getElem?_cons_succ, Option.map_some, List.map_nil, List.nil_append, true_and, and_self, Bool.false_eq_true, reduceCtorEq, Nat.reduceAdd, Nat.reduceEqDiff, ↓reduceIte, List.append_nil]
  repeat refine ⟨by (first | omega | (simp; omega) | (simp; done) | exact ⟨by omega, by omega⟩ | exact ⟨by omega, by simp; omega⟩ | exact ⟨by simp; omega, by simp; omega⟩ | exact ⟨by simp, by simp; omega⟩ | (intro h; rw [h]; rfl) | (intro h; refine ⟨fun h2 => ?_, h⟩; rw [h, h2]; rfl) | (intro h; refine ⟨?_, h⟩; simp [inR] at h; omega) | (intro h; simp [inR] at h; omega) | assumption), ?_⟩
  refine hQ _ _ _ _ _ (RG.nil ?_)
  try simp only [x_seq, x_tn]
  refine aw_reg 640 (RG.go fun Q hQ => ?_)
  simp only [RX, eff, ev_t, lk_cons, lkE_cons, setS_cons, setS_nil, AOp.isCall, setD, setEs, presOf, AOp.needs, SV.one?, SV.pre, idsOf, AOp.rds, AOp.ops, SV.ids, C.ids0, List.take_succ_cons, List.take_zero, List.drop_zero, List.length_cons, List.length_nil, List.map_nil, List.nil_append, List.cons_append, true_and, and_self, Bool.false_eq_true, reduceCtorEq, Nat.reduceAdd, Nat.reduceEqDiff, ↓reduceIte, Nat.zero_add, Nat.le_refl, List.append_nil]
  repeat refine ⟨by (first | omega | (simp; omega) | (simp; done) | exact ⟨by omega, by omega⟩ | exact ⟨by omega, by simp; omega⟩ | exact ⟨by simp; omega, by simp; omega⟩ | exact ⟨by simp, by simp; omega⟩ | (intro h; rw [h]; rfl) | (intro h; refine ⟨fun h2 => ?_, h⟩; rw [h, h2]; rfl) | (intro h; refine ⟨?_, h⟩; simp [inR] at h; omega) | (intro h; simp [inR] at h; omega) | assumption), ?_⟩
  refine hQ _ _ _ _ _ ?_
  refine RG.call [] (volume_State_two) (by (repeat' (first | exact tr_nil | refine tr_cons ?_ ?_ | exact tr_v | exact tr_sl | exact tr_nils | exact tr_agg (by repeat' (first | exact trivial | rfl | exact rfl | refine ⟨?_, ?_⟩)) | exact tr_opt (by simpa using hg) tr_v | exact tr_opt (by simpa using hg) tr_sl | exact tr_opt (by simpa using hg) (tr_agg (by repeat' (first | exact trivial | rfl | exact rfl | refine ⟨?_, ?_⟩)))))) trivial (by exact .inr ⟨pureTC, trivial⟩) ?_
  refine RG.go fun Q hQ => ?_
  simp only [RX, eff, ev_t, lk_cons, setS_cons, setS_nil, AOp.isCall, setD, setEs, presOf, AOp.needs, SV.pre, SV.core, idsOf, AOp.rds, AOp.ops, SV.ids, List.getElem?_cons_zero, List.getElem?_cons_succ, Option.map_some, List.map_nil, List.nil_append, true_and, and_self, Bool.false_eq_true, reduceCtorEq, Nat.reduceAdd, Nat.reduceEqDiff, ↓reduceIte, List.append_nil]
  repeat refine ⟨by (first | omega | (simp; omega) | (simp; done) | exact ⟨by omega, by omega⟩ | exact ⟨by omega, by simp; omega⟩ | exact ⟨by simp; omega, by simp; omega⟩ | exact ⟨by simp, by simp; omega⟩ | (intro h; rw [h]; rfl) | (intro h; refine ⟨fun h2 => ?_, h⟩; rw [h, h2]; rfl) | (intro h; refine ⟨?_, h⟩; simp [inR] at h; omega) | (intro h; simp [inR] at h; omega) | assumption), ?_⟩
  refine hQ _ _ _ _ _ (RG.nil ?_)
  try simp only [x_seq, x_tn]
  refine aw_reg 784 (RG.go fun Q hQ => ?_)
  simp only [RX, eff, ev_t, lk_cons, lkE_cons, setS_cons, setS_nil, AOp.isCall, setD, setEs, presOf, AOp.needs, SV.one?, SV.pre, idsOf, AOp.rds, AOp.ops, SV.ids, C.ids0, List.take_succ_cons, List.take_zero, List.drop_zero, List.length_cons, List.length_nil, List.map_nil, List.nil_append, List.cons_append, true_and, and_self, Bool.false_eq_true, reduceCtorEq, Nat.reduceAdd, Nat.reduceEqDiff, ↓reduceIte, Nat.zero_add, Nat.le_refl, List.append_nil]
  repeat refine ⟨by (first | omega | (simp; omega) | (simp; done) | exact ⟨by omega, by omega⟩ | exact ⟨by omega, by simp; omega⟩ | exact ⟨by simp; omega, by simp; omega⟩ | exact ⟨by simp, by simp; omega⟩ | (intro h; rw [h]; rfl) | (intro h; refine ⟨fun h2 => ?_, h⟩; rw [h, h2]; rfl) | (intro h; refine ⟨?_, h⟩; simp [inR] at h; omega) | (intro h; simp [inR] at h; omega) | assumption), ?_⟩
  refine hQ _ _ _ _ _ ?_
  refine RG.call [] (cP) (by (repeat' (first | exact tr_nil | refine tr_cons ?_ ?_ | exact tr_v | exact tr_sl | exact tr_nils | exact tr_agg (by repeat' (first | exact trivial | rfl | exact rfl | refine ⟨?_, ?_⟩)) | exact tr_opt (by simpa using hg) tr_v | exact tr_opt (by simpa using hg) tr_sl | exact tr_opt (by simpa using hg) (tr_agg (by repeat' (first | exact trivial | rfl | exact rfl | refine ⟨?_, ?_⟩)))))) trivial (by exact .inr ⟨pureTA (by decide), trivial⟩) ?_
  refine RG.go fun Q hQ => ?_
  simp only [RX, eff, ev_t, lk_cons, lkE_cons, lkE_nil, setS_cons, setS_nil, setE_cons, setE_nil, AOp.isCall, setD, setEs, presOf, AOp.needs, SV.one?, SV.pre, SV.core, SV.cells, idsOf, AOp.rds, AOp.ops, SV.ids, C.ids0, splice, List.take_zero, List.length_cons, List.length_nil, List.getElem?_cons_zero, List.getElem?_cons_succ, Option.map_some, List.map_cons, List.map_nil, List.nil_append, List.cons_append, and_true, true_and, and_self, Bool.false_eq_true, reduceCtorEq, Nat.reduceAdd, Nat.reduceEqDiff, ↓reduceIte, Nat.zero_add, Nat.le_refl, List.append_nil]
  simp only [setE_cons, setEs, List.drop_succ_cons, List.drop_zero, List.length_cons, List.length_nil, List.map_cons, List.map_nil, true_and, Nat.reduceAdd, Nat.reduceEqDiff, ↓reduceIte, Nat.zero_add, List.append_nil, pushC, puC]
  repeat refine ⟨by (first | omega | (simp; omega) | (simp; done) | exact ⟨by omega, by omega⟩ | exact ⟨by omega, by simp; omega⟩ | exact ⟨by simp; omega, by simp; omega⟩ | exact ⟨by simp, by simp; omega⟩ | (intro h; rw [h]; rfl) | (intro h; refine ⟨fun h2 => ?_, h⟩; rw [h, h2]; rfl) | (intro h; refine ⟨?_, h⟩; simp [inR] at h; omega) | (intro h; simp [inR] at h; omega) | assumption), ?_⟩
  refine hQ _ _ _ _ _ (RG.nil ?_)
  try simp only [x_seq, x_tn]
  refine aw_reg 944 (RG.go fun Q hQ => ?_)
  simp only [RX, eff, setS_cons, setS_nil, AOp.isCall, setD, setEs, presOf, AOp.needs, idsOf, AOp.rds, AOp.ops, bldFold, Option.map_some, List.map_nil, List.nil_append, true_and, Bool.false_eq_true, reduceCtorEq, Nat.reduceAdd, Nat.reduceEqDiff, ↓reduceIte]
  repeat refine ⟨by (first | omega | (simp; omega) | (simp; done) | exact ⟨by omega, by omega⟩ | exact ⟨by omega, by simp; omega⟩ | exact ⟨by simp; omega, by simp; omega⟩ | exact ⟨by simp, by simp; omega⟩ | (intro h; rw [h]; rfl) | (intro h; refine ⟨fun h2 => ?_, h⟩; rw [h, h2]; rfl) | (intro h; refine ⟨?_, h⟩; simp [inR] at h; omega) | (intro h; simp [inR] at h; omega) | assumption), ?_⟩
  refine hQ _ _ _ _ _ ?_
  refine RG.call [] (cN3) (by (repeat' (first | exact tr_nil | refine tr_cons ?_ ?_ | exact tr_v | exact tr_sl | exact tr_nils | exact tr_agg (by repeat' (first | exact trivial | rfl | exact rfl | refine ⟨?_, ?_⟩)) | exact tr_opt (by simpa using hg) tr_v | exact tr_opt (by simpa using hg) tr_sl | exact tr_opt (by simpa using hg) (tr_agg (by repeat' (first | exact trivial | rfl | exact rfl | refine ⟨?_, ?_⟩)))))) trivial (by exact .inr ⟨pureTA (by decide), trivial⟩) ?_
  refine RG.go fun Q hQ => ?_
  simp only [RX, eff, ev_t, lk_cons, lkE_cons, lkE_nil, setS_cons, setS_nil, setE_cons, setE_nil, AOp.isCall, setD, setEs, presOf, AOp.needs, SV.one?, SV.pre, SV.core, SV.cells, idsOf, AOp.rds, AOp.ops, SV.ids, C.ids0, splice, List.take_zero, List.length_cons, List.length_nil, List.getElem?_cons_zero, List.getElem?_cons_succ, Option.map_some, List.map_cons, List.map_nil, List.nil_append, List.cons_append, and_true, true_and, and_self, Bool.false_eq_true, reduceCtorEq, Nat.reduceAdd, Nat.reduceEqDiff, ↓reduceIte, Nat.zero_add, Nat.le_refl, List.append_nil]
  simp only [setE_cons, setEs, List.drop_succ_cons, List.drop_zero, List.length_cons, List.length_nil, List.map_cons, List.map_nil, true_and, Nat.reduceAdd, Nat.reduceEqDiff, ↓reduceIte, Nat.zero_add, List.append_nil, volC, vC, zeroV]
  repeat refine ⟨by (first | omega | (simp; omega) | (simp; done) | exact ⟨by omega, by omega⟩ | exact ⟨by omega, by simp; omega⟩ | exact ⟨by simp; omega, by simp; omega⟩ | exact ⟨by simp, by simp; omega⟩ | (intro h; rw [h]; rfl) | (intro h; refine ⟨fun h2 => ?_, h⟩; rw [h, h2]; rfl) | (intro h; refine ⟨?_, h⟩; simp [inR] at h; omega) | (intro h; simp [inR] at h; omega) | assumption), ?_⟩
  refine hQ _ _ _ _ _ (RG.nil ?_)
  try simp only [x_seq, x_tn]
  refine aw_reg 1104 (RG.go fun Q hQ => ?_)
  simp only [RX, eff, ev_t, ev_k, lk_cons, lkE_cons, setS_cons, setS_nil, AOp.isCall, setD, setEs, presOf, AOp.needs, SV.one?, SV.pre, gval, binV, idsOf, AOp.rds, AOp.ops, SV.ids, C.ids0, List.take_succ_cons, List.take_zero, List.drop_zero, List.length_cons, List.length_nil, List.getElem?_cons_zero, List.getElem?_cons_succ, Option.map_some, List.map_nil, List.nil_append, List.cons_append, true_and, and_self, Bool.and_true, Bool.false_eq_true, implies_true, reduceCtorEq, Nat.reduceAdd, Nat.reduceEqDiff, ↓reduceIte, Nat.zero_add, Nat.le_refl, BEq.rfl, List.append_nil, Nat.add_zero]
  repeat refine ⟨by (first | omega | (simp; omega) | (simp; done) | exact ⟨by omega, by omega⟩ | exact ⟨by omega, by simp; omega⟩ | exact ⟨by simp; omega, by simp; omega⟩ | exact ⟨by simp, by simp; omega⟩ | (intro h; rw [h]; rfl) | (intro h; refine ⟨fun h2 => ?_, h⟩; rw [h, h2]; rfl) | (intro h; refine ⟨?_, h⟩; simp [inR] at h; omega) | (intro h; simp [inR] at h; omega) | assumption), ?_⟩
  refine hQ _ _ _ _ _ ?_
  refine RG.callg _ _ [] rfl (fun hg => ⟨_, volume_Len_con vOne, tr_cons (tr_opt (by simpa using hg) (tr_agg (by (repeat' (first | exact trivial | rfl | exact rfl | (refine ⟨⟨_, _, rfl⟩, ?_⟩; (first | exact drows_brow _ | exact drows_nrow _ | exact drows_irow _ | exact drows_wrow _ | assumption | (simp [isDRows, brow, C.isD]; done) | (rw [← List.map_append]; first | exact drows_brow _ | exact drows_nrow _ | exact drows_irow _ | exact drows_wrow _))) | (simp; done) | refine ⟨?_, ?_⟩))))) tr_nil, trivial, .inl trivial⟩) ?_
  refine RG.go fun Q hQ => ?_
  have hstr : (ByteArray.toList ⟨#[rowByte (brow 120)]⟩ == ByteArray.toList ⟨#[120]⟩) = true := (str_eq [120] [120] (by simp) (by simp)).trans (by simp)
  simp only [RX, eff, ev_t, ev_k, lk_cons, lkE_cons, setS_cons, setS_nil, AOp.isCall, setD, setEs, presOf, AOp.needs, SV.one?, SV.pre, gval, binV, idsOf, AOp.rds, AOp.ops, SV.ids, C.ids0, rowsOf, Option.getD_some, List.take_succ_cons, List.take_zero, List.drop_succ_cons, List.drop_zero, List.length_cons, List.length_nil, List.getElem?_cons_zero, List.getElem?_cons_succ, Option.map_some, List.map_cons, List.map_nil, List.nil_append, List.cons_append, and_true, true_and, and_self, Bool.and_true, Bool.false_eq_true, implies_true, true_implies, reduceCtorEq, Nat.reduceAdd, Nat.reduceEqDiff, Nat.reduceLT, Int.reduceToNat, ↓reduceIte, Option.bind_some, Nat.zero_add, Nat.le_refl, BEq.rfl, List.append_nil, Int.cast_ofNat_Int, Int.reduceLT, Int.reduceLE, C_default, outR, lenV, vOne, wrow, wrC, irow, itC, hstr]
  refine ⟨isByteRow_brow [120], hQ _ _ _ _ _ ?_⟩
  refine RG.callg _ _ [] rfl (fun hg => ⟨_, cR, tr_cons (tr_opt (by simpa using hg) (tr_agg (by (repeat' (first | exact trivial | rfl | exact rfl | (refine ⟨⟨_, _, rfl⟩, ?_⟩; (first | exact drows_brow _ | exact drows_nrow _ | exact drows_irow _ | exact drows_wrow _ | assumption | (simp [isDRows, brow, C.isD]; done) | (rw [← List.map_append]; first | exact drows_brow _ | exact drows_nrow _ | exact drows_irow _ | exact drows_wrow _))) | (simp; done) | refine ⟨?_, ?_⟩))))) tr_nil, trivial, .inl trivial⟩) ?_
  refine RG.go fun Q hQ => ?_
  simp only [RX, eff, ev_t, ev_k, lk_cons, lkE_cons, setS_cons, setS_nil, AOp.isCall, setD, setEs, presOf, AOp.needs, SV.one?, SV.pre, gval, idsOf, AOp.rds, AOp.ops, SV.ids, C.ids0, List.take_succ_cons, List.take_zero, List.drop_zero, List.length_cons, List.length_nil, List.map_nil, List.nil_append, List.cons_append, true_and, and_self, Bool.and_true, Bool.false_eq_true, implies_true, reduceCtorEq, Nat.reduceAdd, Nat.reduceEqDiff, ↓reduceIte, Nat.zero_add, Nat.le_refl, BEq.rfl, List.append_nil]
  repeat refine ⟨by (first | omega | (simp; omega) | (simp; done) | exact ⟨by omega, by omega⟩ | exact ⟨by omega, by simp; omega⟩ | exact ⟨by simp; omega, by simp; omega⟩ | exact ⟨by simp, by simp; omega⟩ | (intro h; rw [h]; rfl) | (intro h; refine ⟨fun h2 => ?_, h⟩; rw [h, h2]; rfl) | (intro h; refine ⟨?_, h⟩; simp [inR] at h; omega) | (intro h; simp [inR] at h; omega) | assumption), ?_⟩
  refine hQ _ _ _ _ _ ?_
  refine RG.callg _ _ [] rfl (fun hg => ⟨_, cL, tr_cons (tr_opt (by simpa using hg) (tr_agg (by (repeat' (first | exact trivial | rfl | exact rfl | (refine ⟨⟨_, _, rfl⟩, ?_⟩; (first | exact drows_brow _ | exact drows_nrow _ | exact drows_irow _ | exact drows_wrow _ | assumption | (simp [isDRows, brow, C.isD]; done) | (rw [← List.map_append]; first | exact drows_brow _ | exact drows_nrow _ | exact drows_irow _ | exact drows_wrow _))) | (simp; done) | refine ⟨?_, ?_⟩))))) tr_nil, trivial, .inl trivial⟩) ?_
  refine RG.go fun Q hQ => ?_
  simp only [RX, eff, ev_t, ev_k, lk_cons, setS_cons, setS_nil, AOp.isCall, setD, setEs, presOf, AOp.needs, SV.one?, SV.pre, gval, binV, idsOf, AOp.rds, AOp.ops, SV.ids, C.ids0, Option.map_some, List.map_nil, List.nil_append, true_and, and_self, Bool.and_true, Bool.false_eq_true, implies_true, reduceCtorEq, Nat.reduceAdd, Nat.reduceEqDiff, ↓reduceIte, BEq.rfl, List.append_nil]
  repeat refine ⟨by (first | omega | (simp; omega) | (simp; done) | exact ⟨by omega, by omega⟩ | exact ⟨by omega, by simp; omega⟩ | exact ⟨by simp; omega, by simp; omega⟩ | exact ⟨by simp, by simp; omega⟩ | (intro h; rw [h]; rfl) | (intro h; refine ⟨fun h2 => ?_, h⟩; rw [h, h2]; rfl) | (intro h; refine ⟨?_, h⟩; simp [inR] at h; omega) | (intro h; simp [inR] at h; omega) | assumption), ?_⟩
  refine hQ _ _ _ _ _ (RG.nil ?_)
  try simp only [x_ret, x_tn]
  exact Fin.b (.inr rfl) rfl trivial rfl

end Go.Abs

namespace Go.Abs
open Go Go.Proofs
set_option maxRecDepth 100000
set_option linter.unusedSimpArgs false
set_option maxHeartbeats 4000000

theorem chunks_nn {b p : Int} (hb : 0 ≤ b) (hp : 1 ≤ p) : 0 ≤ chunksN b p ∧ chunksN b p ≤ b + p := by
  unfold chunksN
  rw [Int.tdiv_eq_ediv_of_nonneg (by omega)]
  exact ⟨Int.ediv_nonneg (by omega) (by omega), by have := Int.ediv_le_self p (show 0 ≤ b + p - 1 by omega); omega⟩

theorem mementoref16_Chunks_con (b p : Int) (hb : 0 ≤ b ∧ b ≤ 100000) (hp : 1 ≤ p ∧ p ≤ 100000) : Con Try.prog 39 [I b, I p] [] (I (chunksN b p)) [] := by
  have h := chunks_nn hb.1 hp.1
  have w1 : IntKind.i64.wrap (b + p) = b + p := w64 _ (by omega) (by omega)
  have w2 : IntKind.i64.wrap (b + p - 1) = b + p - 1 := w64 _ (by omega) (by omega)
  have w3 : IntKind.i64.wrap ((b + p - 1).tdiv p) = chunksN b p := by
    show IntKind.i64.wrap (chunksN b p) = _
    exact w64 _ (by omega) (by omega)
  refine C_mementoref16_Chunks (Nat.le_of_ble_eq_true rfl) (Nat.le_of_ble_eq_true rfl) ?_
  simp only [A_mementoref16_Chunks, argL, objL, List.length_nil, Nat.zero_add, x_seq]
  refine aw_reg 16 (RG.go fun Q hQ => ?_)
  simp only [RX, eff, ev_k, setS_cons, setS_nil, AOp.isCall, setD, setEs, presOf, AOp.needs, idsOf, AOp.rds, List.map_nil, List.nil_append, true_and, Bool.false_eq_true, reduceCtorEq, Nat.reduceAdd, Nat.reduceEqDiff, ↓reduceIte]
  repeat refine ⟨by (first | omega | (simp; omega) | (simp; done) | exact ⟨by omega, by omega⟩ | exact ⟨by omega, by simp; omega⟩ | exact ⟨by simp; omega, by simp; omega⟩ | exact ⟨by simp, by simp; omega⟩ | (intro h; rw [h]; rfl) | (intro h; refine ⟨fun h2 => ?_, h⟩; rw [h, h2]; rfl) | (intro h; refine ⟨?_, h⟩; simp [inR] at h; omega) | (intro h; simp [inR] at h; omega) | assumption), ?_⟩
  refine hQ _ _ _ _ _ (RG.nil ?_)
  try simp only [x_seq, x_tn]
  refine aw_reg 64 (RG.go fun Q hQ => ?_)
  simp only [RX, eff, ev_t, ev_k, lk_cons, setS_cons, setS_nil, AOp.isCall, setD, setEs, presOf, AOp.needs, SV.one?, SV.pre, binV, idsOf, AOp.rds, AOp.ops, SV.ids, C.ids0, Option.map_some, List.map_nil, List.nil_append, true_and, and_self, Bool.false_eq_true, reduceCtorEq, Nat.reduceAdd, Nat.reduceEqDiff, ↓reduceIte, List.append_nil, w1, w2, w3]
  repeat refine ⟨by (first | omega | (simp; omega) | (simp; done) | exact ⟨by omega, by omega⟩ | exact ⟨by omega, by simp; omega⟩ | exact ⟨by simp; omega, by simp; omega⟩ | exact ⟨by simp, by simp; omega⟩ | (intro h; rw [h]; rfl) | (intro h; refine ⟨fun h2 => ?_, h⟩; rw [h, h2]; rfl) | (intro h; refine ⟨?_, h⟩; simp [inR] at h; omega) | (intro h; simp [inR] at h; omega) | assumption), ?_⟩
  refine hQ _ _ _ _ _ (RG.nil ?_)
  try simp only [x_ret, x_tn]
  exact Fin.scalar (.inr rfl) rfl trivial rfl trivial

def PL (i : Nat) : List Int := (List.range i).map fun j => ((1 + j % 7 : Nat) : Int)
theorem PL_succ (i : Nat) : PL (i + 1) = PL i ++ [((1 + i % 7 : Nat) : Int)] := by simp [PL, List.range_succ]
theorem PL_len (i : Nat) : (PL i).length = i := by simp [PL]
theorem PL_in (i : Nat) : ∀ x ∈ PL i, inR x 1 7 = true := by
  intro x hx
  obtain ⟨j, _, rfl⟩ := List.mem_map.1 hx
  rw [inR_iff]; omega

def formR (n p k : Nat) (r : Int) (g : Nat) : Bool := decide (1 ≤ n) && decide (n ≤ 256) && decide (1 ≤ p) && decide (p ≤ n) && decide (1 ≤ k) && decide (k ≤ 32) && decide (r = 0) && (decide (¬ g % 3 = 0) || (decide (2 ≤ g % 10) && decide (g % 10 ≤ 8)))
def formP (n p : Nat) (r : Int) (g : Nat) : List Int :=
  let m := (chunksN n (max p 1 : Nat) + r).toNat
  if 0 < m ∧ g % 3 = 0 then (PL m).set (m - 1) ((g % 10 : Nat) - 1 : Int) else PL m
def formC (n p k : Nat) (r : Int) (g : Nat) : CMD := ⟨0, 7, n, k, p, formP n p r g, 0, 0, 0, []⟩

theorem form_shape (n p k : Nat) (r : Int) (g : Nat) (hr : r = -1 ∨ r = 0 ∨ r = 1) : shapeV (newV (formC n p k r g)) = formR n p k r g := by
  have e : shapeV (newV (formC n p k r g)) = (inR 7 0 7 && inR n 1 256 && inR k 1 32 && inR p 1 n && decide (((formP n p r g).length : Int) = chunksN n p) && inR 0 0 1099511627776 && (formP n p r g).all fun n => inR n 1 7) := rfl
  rw [e]
  by_cases h1 : 1 ≤ n ∧ n ≤ 256 ∧ 1 ≤ p ∧ p ≤ n ∧ 1 ≤ k ∧ k ≤ 32
  · obtain ⟨a1, a2, a3, a4, a5, a6⟩ := h1
    have hq : max p 1 = p := by omega
    have hch : 1 ≤ chunksN n p := by
      unfold chunksN
      rw [Int.tdiv_eq_ediv_of_nonneg (by omega)]
      have := Int.mul_ediv_self_le (x := (n : Int) + p - 1) (k := p) (by omega)
      have h2 : (1 : Int) ≤ ((n : Int) + p - 1) / p := by
        rw [Int.le_ediv_iff_mul_le (by omega)]; omega
      exact h2
    have hlen : (formP n p r g).length = (chunksN n p + r).toNat := by
      unfold formP; rw [hq]; simp only; split <;> simp [PL_len]
    have i1 : inR n 1 256 = true := by rw [inR_iff]; omega
    have i2 : inR k 1 32 = true := by rw [inR_iff]; omega
    have i3 : inR p 1 n = true := by rw [inR_iff]; omega
    rw [i1, i2, i3, hlen]
    by_cases h0 : r = 0
    · subst h0
      have hall : ((formP n p 0 g).all fun n => inR n 1 7) = (decide (¬ g % 3 = 0) || (decide (2 ≤ g % 10) && decide (g % 10 ≤ 8))) := by
        have hm : 0 < (chunksN n p + 0).toNat := by omega
        obtain ⟨m, hmm⟩ : ∃ m, m = (chunksN n p + 0).toNat := ⟨_, rfl⟩
        rw [← hmm] at hm
        by_cases hg : g % 3 = 0
        · have hf : formP n p 0 g = (PL m).set (m - 1) ((g % 10 : Nat) - 1 : Int) := by
            unfold formP; rw [hq]; simp only [← hmm]; rw [if_pos ⟨hm, hg⟩]
          rw [hf]
          by_cases hc : 2 ≤ g % 10 ∧ g % 10 ≤ 8
          · rw [List.all_eq_true.2]
            · simp [hc]
            · intro x hx
              rcases List.mem_or_eq_of_mem_set hx with h | h
              · exact PL_in m x h
              · rw [h, inR_iff]; omega
          · rw [all_no (i := m - 1) (by simp [PL_len]; omega)]
            · simp [hg]; omega
            · rw [List.getElem_set_self]
              rw [← Bool.not_eq_true, inR_iff]; omega
        · have hf : formP n p 0 g = PL m := by
            unfold formP; rw [hq]; simp only [← hmm]; rw [if_neg (by simp [hg])]
          rw [hf, List.all_eq_true.2 (PL_in m)]
          simp [hg]
      rw [hall]
      simp [formR, a1, a2, a3, a4, a5, a6, inR]
      omega
    · have : decide (((chunksN n p + r).toNat : Int) = chunksN n p) = false := by
        rw [decide_eq_false_iff_not]; omega
      rw [this]
      simp [formR, h0]
  · have h2 : formR n p k r g = false := by
      rw [Bool.eq_false_iff]; intro hh
      simp only [formR, Bool.and_eq_true, decide_eq_true_eq] at hh
      exact h1 (by omega)
    rw [h2, Bool.eq_false_iff]
    intro hh
    simp only [Bool.and_eq_true, inR_iff] at hh
    exact h1 (by omega)

theorem VolumeForms_con (bl per sz g : Nat) (less : Int) (h1 : bl < 65536) (h2 : per < 65536) (h3 : sz < 256) (h4 : g < 256) (h5 : -128 ≤ less ∧ less ≤ 127) :
    Con Try.prog 10 [.c (.v (.int .u16 bl)), .c (.v (.int .u16 per)), .c (.v (.int .u8 sz)), .c (.v (.int .u8 g)), .c (.v (.int .i8 less))] [] (B true) [] := by
  have m1 : (bl : Int).tmod 300 = ((bl % 300 : Nat) : Int) := by rw [Int.tmod_eq_emod_of_nonneg (by omega)]; omega
  have m2 : (per : Int).tmod 300 = ((per % 300 : Nat) : Int) := by rw [Int.tmod_eq_emod_of_nonneg (by omega)]; omega
  have m3 : (sz : Int).tmod 40 = ((sz % 40 : Nat) : Int) := by rw [Int.tmod_eq_emod_of_nonneg (by omega)]; omega
  have m4 : (g : Int).tmod 3 = ((g % 3 : Nat) : Int) := by rw [Int.tmod_eq_emod_of_nonneg (by omega)]; omega
  have m5 : (g : Int).tmod 10 = ((g % 10 : Nat) : Int) := by rw [Int.tmod_eq_emod_of_nonneg (by omega)]; omega
  obtain ⟨r, hr, hr1⟩ : ∃ r, less.tmod 2 = r ∧ (r = -1 ∨ r = 0 ∨ r = 1) := ⟨_, rfl, by
    by_cases h : 0 ≤ less
    · rw [Int.tmod_eq_emod_of_nonneg h]; omega
    · rw [show less = -(-less) by omega, Int.neg_tmod, Int.tmod_eq_emod_of_nonneg (by omega)]; omega⟩
  obtain ⟨n, hn⟩ : ∃ n, n = bl % 300 := ⟨_, rfl⟩
  obtain ⟨p, hp⟩ : ∃ p, p = per % 300 := ⟨_, rfl⟩
  obtain ⟨k, hk⟩ : ∃ k, k = sz % 40 := ⟨_, rfl⟩
  rw [← hn] at m1; rw [← hp] at m2; rw [← hk] at m3
  have w1 : IntKind.i64.wrap (n : Int) = n := w64 _ (by omega) (by omega)
  have w2 : IntKind.i64.wrap (p : Int) = p := w64 _ (by omega) (by omega)
  have w3 : IntKind.i64.wrap (k : Int) = k := w64 _ (by omega) (by omega)
  have u1 : IntKind.u16.wrap (n : Int) = n := by rw [show IntKind.u16.wrap (n : Int) = (n : Int) % 65536 from by simp [IntKind.wrap, IntKind.bits, IntKind.signed]]; omega
  have u2 : IntKind.u16.wrap (p : Int) = p := by rw [show IntKind.u16.wrap (p : Int) = (p : Int) % 65536 from by simp [IntKind.wrap, IntKind.bits, IntKind.signed]]; omega
  have u3 : IntKind.u8.wrap (k : Int) = k := by rw [w_u8]; omega
  have hF : (decide ((1 : Int) ≤ n) && decide ((n : Int) ≤ 256) && decide ((1 : Int) ≤ p) && decide ((p : Int) ≤ n) && decide ((1 : Int) ≤ k) && decide ((k : Int) ≤ 32) && (r == 0) && ((((g % 3 : Nat) : Int) != 0) || decide ((2 : Int) ≤ ((g % 10 : Nat) : Int)) && decide (((g % 10 : Nat) : Int) ≤ 8))) = formR n p k r g := by
    unfold formR
    rw [Bool.eq_iff_iff]
    simp
    omega
  have hsh := form_shape n p k r g hr1
  have hpl1 : (formP n p r g).length ≤ 1000000 := by
    have hc := (chunks_nn (b := n) (p := (max p 1 : Nat)) (by omega) (by omega)).2
    have : (formP n p r g).length = (chunksN n (max p 1 : Nat) + r).toNat := by unfold formP; simp only; split <;> simp [PL_len]
    omega
  have cN := volume_New_con (formC n p k r g) hpl1
  have hrt : rightV (newV (formC n p k r g)) = formR n p k r g := by
    rw [← hsh]; simp [rightV, newV, formC, inR, lenV, pinsR, wsR]
  have cR := volume_Right_con (newV (formC n p k r g)) ⟨hpl1, by simp [newV], by simp [newV], by simp [newV]⟩
  rw [hrt] at cR
  have cL := volume_Len_con (newV (formC n p k r g))
  refine C_mementolaw16_VolumeForms (Nat.le_of_ble_eq_true rfl) (Nat.le_of_ble_eq_true rfl) ?_
  simp only [A_mementolaw16_VolumeForms, argL, objL, List.length_nil, Nat.reduceAdd, Nat.zero_add, x_seq]
  refine aw_reg 16 (RG.go fun Q hQ => ?_)
  simp only [RX, eff, ev_k, setS_cons, setS_nil, AOp.isCall, setD, setEs, presOf, AOp.needs, idsOf, AOp.rds, List.map_nil, List.nil_append, true_and, Bool.false_eq_true, reduceCtorEq, Nat.reduceAdd, Nat.reduceEqDiff, ↓reduceIte]
  repeat refine ⟨by (first | omega | (simp; omega) | (simp; done) | exact ⟨by omega, by omega⟩ | exact ⟨by omega, by simp; omega⟩ | exact ⟨by simp; omega, by simp; omega⟩ | exact ⟨by simp, by simp; omega⟩ | (intro h; rw [h]; rfl) | (intro h; refine ⟨fun h2 => ?_, h⟩; rw [h, h2]; rfl) | (intro h; refine ⟨?_, h⟩; simp [inR] at h; omega) | (intro h; simp [inR] at h; omega) | assumption), ?_⟩
  refine hQ _ _ _ _ _ (RG.nil ?_)
  try simp only [x_seq, x_tn]
  refine aw_reg 64 (RG.go fun Q hQ => ?_)
  simp only [RX, AOp.isCall, ↓reduceIte]
  repeat refine ⟨by (first | omega | (simp; omega) | (simp; done) | exact ⟨by omega, by omega⟩ | exact ⟨by omega, by simp; omega⟩ | exact ⟨by simp; omega, by simp; omega⟩ | exact ⟨by simp, by simp; omega⟩ | (intro h; rw [h]; rfl) | (intro h; refine ⟨fun h2 => ?_, h⟩; rw [h, h2]; rfl) | (intro h; refine ⟨?_, h⟩; simp [inR] at h; omega) | (intro h; simp [inR] at h; omega) | assumption), ?_⟩
  refine hQ _ _ _ _ _ ?_
  refine RG.call [] (mementolaw16_known_con) (by (repeat' (first | exact tr_nil | refine tr_cons ?_ ?_ | exact tr_v | exact tr_sl | exact tr_nils | exact tr_agg (by repeat' (first | exact trivial | rfl | exact rfl | refine ⟨?_, ?_⟩)) | exact tr_opt (by simpa using hg) tr_v | exact tr_opt (by simpa using hg) tr_sl | exact tr_opt (by simpa using hg) (tr_agg (by repeat' (first | exact trivial | rfl | exact rfl | refine ⟨?_, ?_⟩)))))) trivial (by (first | exact .inl trivial | exact .inr ⟨rfl, trivial⟩)) ?_
  refine RG.go fun Q hQ => ?_
  simp only [RX, eff, ev_t, lk_cons, setS_cons, setS_nil, AOp.isCall, setD, setEs, presOf, AOp.needs, SV.one?, SV.pre, unV, idsOf, AOp.rds, AOp.ops, SV.ids, C.ids0, Option.map_some, List.map_nil, List.nil_append, true_and, and_self, Bool.false_eq_true, Bool.not_true, reduceCtorEq, Nat.reduceAdd, Nat.reduceEqDiff, ↓reduceIte, List.append_nil]
  repeat refine ⟨by (first | omega | (simp; omega) | (simp; done) | exact ⟨by omega, by omega⟩ | exact ⟨by omega, by simp; omega⟩ | exact ⟨by simp; omega, by simp; omega⟩ | exact ⟨by simp, by simp; omega⟩ | (intro h; rw [h]; rfl) | (intro h; refine ⟨fun h2 => ?_, h⟩; rw [h, h2]; rfl) | (intro h; refine ⟨?_, h⟩; simp [inR] at h; omega) | (intro h; simp [inR] at h; omega) | assumption), ?_⟩
  refine hQ _ _ _ _ _ (RG.nil ?_)
  try simp only [x_tn]
  refine aw_cond _ rfl trivial (fun ht => by cases ht) (fun hf => ?_)
  try simp only [x_seq, x_skip, x_tn]
  refine aw_reg 176 (RG.go fun Q hQ => ?_)
  simp only [RX, eff, ev_t, ev_k, lk_cons, setS_cons, setS_nil, AOp.isCall, setD, setEs, presOf, AOp.needs, SV.one?, SV.pre, binV, idsOf, AOp.rds, AOp.ops, SV.ids, C.ids0, Option.map_some, List.map_nil, List.nil_append, true_and, and_self, Bool.false_eq_true, reduceCtorEq, Nat.reduceAdd, Nat.reduceEqDiff, ↓reduceIte, List.append_nil, m1, m2, m3, w1, w2, w3]
  repeat refine ⟨by (first | omega | (simp; omega) | (simp; done) | exact ⟨by omega, by omega⟩ | exact ⟨by omega, by simp; omega⟩ | exact ⟨by simp; omega, by simp; omega⟩ | exact ⟨by simp, by simp; omega⟩ | (intro h; rw [h]; rfl) | (intro h; refine ⟨fun h2 => ?_, h⟩; rw [h, h2]; rfl) | (intro h; refine ⟨?_, h⟩; simp [inR] at h; omega) | (intro h; simp [inR] at h; omega) | assumption), ?_⟩
  refine hQ _ _ _ _ _ (RG.nil ?_)
  try simp only [x_seq, x_tn]
  refine aw_reg 400 (RG.go fun Q hQ => ?_)
  simp only [RX, eff, ev_t, ev_k, lk_cons, lkE_cons, lkE_nil, setS_cons, setS_nil, setE_cons, setE_nil, AOp.isCall, setD, setEs, presOf, AOp.needs, SV.one?, SV.pre, SV.cells, idsOf, AOp.rds, AOp.ops, SV.ids, C.ids0, bldFold, splice, List.take_succ_cons, List.take_zero, List.drop_succ_cons, List.drop_zero, List.length_cons, List.length_nil, Option.map_some, List.map_cons, List.map_nil, List.nil_append, List.cons_append, true_and, and_self, Bool.false_eq_true, reduceCtorEq, Nat.reduceAdd, Nat.reduceEqDiff, Nat.reduceLeDiff, ↓reduceIte, Nat.zero_add, Nat.le_refl, List.append_nil]
  repeat refine ⟨by (first | omega | (simp; omega) | (simp; done) | exact ⟨by omega, by omega⟩ | exact ⟨by omega, by simp; omega⟩ | exact ⟨by simp; omega, by simp; omega⟩ | exact ⟨by simp, by simp; omega⟩ | (intro h; rw [h]; rfl) | (intro h; refine ⟨fun h2 => ?_, h⟩; rw [h, h2]; rfl) | (intro h; refine ⟨?_, h⟩; simp [inR] at h; omega) | (intro h; simp [inR] at h; omega) | assumption), ?_⟩
  refine hQ _ _ _ _ _ (RG.nil ?_)
  try simp only [x_seq, x_tn]
  refine aw_reg 528 (RG.go fun Q hQ => ?_)
  simp only [RX, eff, ev_k, setS_cons, setS_nil, AOp.isCall, setD, setEs, presOf, AOp.needs, idsOf, AOp.rds, List.map_nil, List.nil_append, true_and, Bool.false_eq_true, reduceCtorEq, Nat.reduceAdd, Nat.reduceEqDiff, ↓reduceIte]
  repeat refine ⟨by (first | omega | (simp; omega) | (simp; done) | exact ⟨by omega, by omega⟩ | exact ⟨by omega, by simp; omega⟩ | exact ⟨by simp; omega, by simp; omega⟩ | exact ⟨by simp, by simp; omega⟩ | (intro h; rw [h]; rfl) | (intro h; refine ⟨fun h2 => ?_, h⟩; rw [h, h2]; rfl) | (intro h; refine ⟨?_, h⟩; simp [inR] at h; omega) | (intro h; simp [inR] at h; omega) | assumption), ?_⟩
  refine hQ _ _ _ _ _ (RG.nil ?_)
  try simp only [x_block, x_tn]
  obtain ⟨q, hq⟩ : ∃ q, q = max p 1 := ⟨_, rfl⟩
  have hqi : (if (p : Int) < 1 then 1 else (p : Int)) = (q : Int) := by split <;> omega
  have hq1 : 1 ≤ (q : Int) ∧ (q : Int) ≤ 100000 := by omega
  obtain ⟨c1, c2⟩ := chunks_nn (b := n) (p := q) (by omega) hq1.1
  have cC := mementoref16_Chunks_con n q (by omega) hq1
  have w4 : IntKind.i64.wrap r = r := w64 _ (by omega) (by omega)
  have w5 : IntKind.i8.wrap r = r := by rw [show IntKind.i8.wrap r = (r + 128) % 256 - 128 from by simp [IntKind.wrap, IntKind.bits, IntKind.signed]; omega]; omega
  have w6 : IntKind.i64.wrap (chunksN n q + r) = chunksN n q + r := w64 _ (by omega) (by omega)
  obtain ⟨m, hm⟩ : ∃ m, m = (chunksN n q + r).toNat := ⟨_, rfl⟩
  refine aw_loopK (X := { i : Nat // i ≤ m }) [3, 4, 11, 12, 13, 14] (fun i => [(15, I i.1)]) [] (fun i => [(464, .box [.v (.int .i64 0), .v (.int .i64 7), .v (.int .i64 n), .v (.int .i64 k), .v (.int .i64 p), .osl 5000, .v (.int .i64 0), .v (.int .i64 0), .v (.int .i64 0), .v (.slice none 0 0)]), (5000, .arr 3 1 ((PL i.1).map nrow) false)]) (fun i => m - i.1) (⟨0, by omega⟩) ?_ ?_
  · skip
    simp only [keepS, keepE, lk_cons, List.cons_append, List.nil_append, Nat.reduceEqDiff, ↓reduceIte, reduceCtorEq]
    refine (Le.ownB 464 5 5000 _ 3 1 rfl rfl rfl (by decide)).trans ?_
    simp only [List.set_cons_succ, List.set_cons_zero, setE_cons, setE_nil, Nat.reduceEqDiff, ↓reduceIte]
    refine Le.lit [] [] _ _ ?_ ?_ ?_ ?_
    · simp only [Int.cast_ofNat_Int, allL, lk_cons, lkE_cons, lkE_nil, WkSV, WkSV1, WkC, WkC0, rlook, frzEs, Nat.reduceEqDiff, ↓reduceIte, reduceCtorEq, and_true, ne_eq, not_false_eq_true]
      all_goals (try ((repeat' (first | exact trivial | rfl | exact rfl | (refine ⟨⟨_, _, rfl⟩, ?_⟩; (first | exact drows_brow _ | exact drows_nrow _ | exact drows_irow _ | exact drows_wrow _ | assumption | (simp [isDRows, brow, C.isD]; done) | (rw [← List.map_append]; first | exact drows_brow _ | exact drows_nrow _ | exact drows_irow _ | exact drows_wrow _))) | (simp; done) | refine ⟨?_, ?_⟩))))
    · simp only [allL, lkE_cons, lkE_nil, WkC, WkC0, WkEnt, TrL, rlook, frzEs, isDRows, Option.some.injEq, Nat.reduceEqDiff, ↓reduceIte, reduceCtorEq, true_and, and_true, exists_eq_left', ne_eq, not_false_eq_true, true_or]
      all_goals (try ((repeat' (first | (first | exact drows_brow _ | exact drows_nrow _ | exact drows_irow _ | exact drows_wrow _ | assumption | (simp [C.isD]; done) | (rw [← List.map_append]; first | exact drows_brow _ | exact drows_nrow _ | exact drows_irow _ | exact drows_wrow _)) | rfl | refine ⟨?_, ?_⟩ | (left; (first | exact drows_brow _ | exact drows_nrow _ | exact drows_irow _ | exact drows_wrow _ | assumption | (simp [isDRows, brow, C.isD]; done) | (rw [← List.map_append]; first | exact drows_brow _ | exact drows_nrow _ | exact drows_irow _ | exact drows_wrow _)))))))
    · simp [rlook]
    · first | (simp; done) | (intro k hk; simp [rlook]; omega)
  rintro ⟨i, hi⟩
  simp only [keepS, keepE, lk_cons, List.cons_append, List.nil_append, Nat.reduceEqDiff, ↓reduceIte, reduceCtorEq]
  try simp only [x_seq]
  refine aw_reg 576 (RG.go fun Q hQ => ?_)
  simp only [RX, eff, foldMx, ev_t, ev_k, lk_cons, setS_cons, setS_nil, AOp.isCall, setD, setEs, presOf, AOp.needs, SV.one?, SV.pre, idsOf, AOp.rds, AOp.ops, SV.ids, C.ids0, Option.map_some, List.map_cons, List.map_nil, List.nil_append, true_and, and_self, Bool.false_eq_true, gt_iff_lt, Nat.reduceAdd, Nat.reduceEqDiff, ↓reduceIte, List.append_nil, hqi]
  repeat refine ⟨by (first | omega | (simp; omega) | (simp; done) | exact ⟨by omega, by omega⟩ | exact ⟨by omega, by simp; omega⟩ | exact ⟨by simp; omega, by simp; omega⟩ | exact ⟨by simp, by simp; omega⟩ | (intro h; rw [h]; rfl) | (intro h; refine ⟨fun h2 => ?_, h⟩; rw [h, h2]; rfl) | (intro h; refine ⟨?_, h⟩; simp [inR] at h; omega) | (intro h; simp [inR] at h; omega) | assumption), ?_⟩
  refine hQ _ _ _ _ _ ?_
  refine RG.call [] (cC) (by (repeat' (first | exact tr_nil | refine tr_cons ?_ ?_ | exact tr_v | exact tr_sl | exact tr_nils | exact tr_agg (by repeat' (first | exact trivial | rfl | exact rfl | refine ⟨?_, ?_⟩)) | exact tr_opt (by simpa using hg) tr_v | exact tr_opt (by simpa using hg) tr_sl | exact tr_opt (by simpa using hg) (tr_agg (by repeat' (first | exact trivial | rfl | exact rfl | refine ⟨?_, ?_⟩)))))) trivial (by (first | exact .inl trivial | exact .inr ⟨rfl, trivial⟩)) ?_
  refine RG.go fun Q hQ => ?_
  simp only [RX, eff, ev_t, ev_k, lk_cons, setS_cons, setS_nil, AOp.isCall, setD, setEs, presOf, AOp.needs, SV.one?, SV.pre, binV, idsOf, AOp.rds, AOp.ops, SV.ids, C.ids0, Option.map_some, List.map_nil, List.nil_append, true_and, and_self, Bool.false_eq_true, Nat.reduceAdd, Nat.reduceEqDiff, ↓reduceIte, List.append_nil]
  simp only [hr, w4, w6]
  repeat refine ⟨by (first | omega | (simp; omega) | (simp; done) | exact ⟨by omega, by omega⟩ | exact ⟨by omega, by simp; omega⟩ | exact ⟨by simp; omega, by simp; omega⟩ | exact ⟨by simp, by simp; omega⟩ | (intro h; rw [h]; rfl) | (intro h; refine ⟨fun h2 => ?_, h⟩; rw [h, h2]; rfl) | (intro h; refine ⟨?_, h⟩; simp [inR] at h; omega) | (intro h; simp [inR] at h; omega) | assumption), ?_⟩
  refine hQ _ _ _ _ _ (RG.nil ?_)
  try simp only [x_tn]
  refine aw_cond _ rfl trivial (fun ht => ?_) (fun hf => ?_)
  · have hi' : i < m := by simp at ht; omega
    have hpl := PL_len i
    have w7 : (i : Int).tmod 7 = ((i % 7 : Nat) : Int) := by rw [Int.tmod_eq_emod_of_nonneg (by omega)]; omega
    have w8 : IntKind.i64.wrap (1 + ((i % 7 : Nat) : Int)) = ((1 + i % 7 : Nat) : Int) := by rw [w64 _ (by omega) (by omega)]; omega
    try simp only [x_seq, x_block, x_skip, x_tn]
    refine aw_reg 768 (RG.go fun Q hQ => ?_)
    simp only [RX, eff, ev_t, ev_k, lk_cons, lkE_cons, lkE_nil, setS_cons, setS_nil, setE_cons, setE_nil, AOp.isCall, setD, setEs, presOf, AOp.needs, SV.one?, SV.pre, SV.cells, binV, idsOf, AOp.rds, AOp.ops, SV.ids, C.ids0, rowsOf, srcOf, bSRows, splice, List.take_succ_cons, List.take_zero, List.drop_succ_cons, List.drop_zero, List.length_cons, List.length_nil, List.getElem?_cons_zero, List.getElem?_cons_succ, Option.map_some, List.map_cons, List.map_nil, List.nil_append, List.cons_append, true_and, and_self, Bool.false_eq_true, Nat.reduceAdd, Nat.reduceEqDiff, Nat.reduceLeDiff, ↓reduceIte, Nat.zero_add, List.append_nil, w7, w8]
    repeat refine ⟨by (first | omega | (simp; omega) | (simp; done) | exact ⟨by omega, by omega⟩ | exact ⟨by omega, by simp; omega⟩ | exact ⟨by simp; omega, by simp; omega⟩ | exact ⟨by simp, by simp; omega⟩ | (intro h; rw [h]; rfl) | (intro h; refine ⟨fun h2 => ?_, h⟩; rw [h, h2]; rfl) | (intro h; refine ⟨?_, h⟩; simp [inR] at h; omega) | (intro h; simp [inR] at h; omega) | assumption), ?_⟩
    refine hQ _ _ _ _ _ (RG.nil ?_)
    try simp only [x_tn, x_bn]
    refine aw_reg 944 (RG.go fun Q hQ => ?_)
    simp only [RX, eff, ev_t, ev_k, lk_cons, setS_cons, setS_nil, AOp.isCall, setD, setEs, presOf, AOp.needs, SV.one?, SV.pre, binV, idsOf, AOp.rds, AOp.ops, SV.ids, C.ids0, Option.map_some, List.map_nil, List.nil_append, true_and, and_self, Bool.false_eq_true, Nat.reduceAdd, Nat.reduceEqDiff, ↓reduceIte, List.append_nil, wi i m hi' (by omega)]
    repeat refine ⟨by (first | omega | (simp; omega) | (simp; done) | exact ⟨by omega, by omega⟩ | exact ⟨by omega, by simp; omega⟩ | exact ⟨by simp; omega, by simp; omega⟩ | exact ⟨by simp, by simp; omega⟩ | (intro h; rw [h]; rfl) | (intro h; refine ⟨fun h2 => ?_, h⟩; rw [h, h2]; rfl) | (intro h; refine ⟨?_, h⟩; simp [inR] at h; omega) | (intro h; simp [inR] at h; omega) | assumption), ?_⟩
    refine hQ _ _ _ _ _ (RG.nil ?_)
    try simp only [x_ln]
    refine ⟨⟨i + 1, hi'⟩, ?_, by simp only; omega⟩
    refine Le.lit [] [(5000, 864)] _ _ ?_ ?_ ?_ ?_
    · simp only [allL, lk_cons, lkE_cons, lkE_nil, WkSV, WkSV1, WkC, WkC0, rlook, frzEs, Nat.reduceEqDiff, ↓reduceIte, reduceCtorEq, and_true, ne_eq, not_false_eq_true]
      all_goals (try ((repeat' (first | exact trivial | rfl | exact rfl | (refine ⟨⟨_, _, rfl⟩, ?_⟩; (first | exact drows_brow _ | exact drows_nrow _ | exact drows_irow _ | exact drows_wrow _ | assumption | (simp [isDRows, brow, C.isD]; done) | (rw [← List.map_append]; first | exact drows_brow _ | exact drows_nrow _ | exact drows_irow _ | exact drows_wrow _))) | (simp; done) | refine ⟨?_, ?_⟩))))
    · simp only [allL, lkE_cons, lkE_nil, WkC, WkC0, WkEnt, TrL, rlook, frzEs, isDRows, Option.some.injEq, Nat.reduceEqDiff, ↓reduceIte, reduceCtorEq, true_and, and_true, exists_eq_left', ne_eq, not_false_eq_true, true_or]
      all_goals (rw [PL_succ, List.map_append]; (repeat' (first | (first | exact drows_brow _ | exact drows_nrow _ | exact drows_irow _ | exact drows_wrow _ | assumption | (simp [C.isD]; done) | (rw [← List.map_append]; first | exact drows_brow _ | exact drows_nrow _ | exact drows_irow _ | exact drows_wrow _)) | rfl | refine ⟨?_, ?_⟩ | (left; (first | exact drows_brow _ | exact drows_nrow _ | exact drows_irow _ | exact drows_wrow _ | assumption | (simp [isDRows, brow, C.isD]; done) | (rw [← List.map_append]; first | exact drows_brow _ | exact drows_nrow _ | exact drows_irow _ | exact drows_wrow _))))))
    · simp [rlook]
    · first | (simp; done) | (intro k hk; simp [rlook]; omega)
  have hi' : i = m := by simp at hf; omega
  subst hi'
  have hpl := PL_len i
  have hfp : formP n p r g = if 0 < i ∧ g % 3 = 0 then (PL i).set (i - 1) ((g % 10 : Nat) - 1 : Int) else PL i := by unfold formP; rw [← hq, ← hm]
  try simp only [x_seq, x_exit, x_tn, x_tx, x_bx, x_lx, ↓reduceIte]
  refine aw_reg 1024 (RG.go fun Q hQ => ?_)
  simp only [RX, eff, ev_t, ev_k, lk_cons, lkE_cons, setS_cons, setS_nil, AOp.isCall, setD, setEs, presOf, AOp.needs, SV.one?, SV.pre, gval, binV, idsOf, AOp.rds, AOp.ops, SV.ids, C.ids0, rowsOf, List.getElem?_cons_zero, List.getElem?_cons_succ, Option.map_some, List.map_nil, List.nil_append, List.cons_append, and_true, true_and, and_self, Bool.true_and, Bool.false_eq_true, beq_true, implies_true, imp_self, Bool.if_false_right, Bool.decide_eq_true, gt_iff_lt, Nat.reduceAdd, Nat.reduceEqDiff, ↓reduceIte, Option.bind_some, Nat.zero_add, List.append_nil, m4]
  repeat refine ⟨by (first | omega | (simp; omega) | (simp; done) | exact ⟨by omega, by omega⟩ | exact ⟨by omega, by simp; omega⟩ | exact ⟨by simp; omega, by simp; omega⟩ | exact ⟨by simp, by simp; omega⟩ | (intro h; rw [h]; rfl) | (intro h; refine ⟨fun h2 => ?_, h⟩; rw [h, h2]; rfl) | (intro h; refine ⟨?_, h⟩; simp [inR] at h; omega) | (intro h; simp [inR] at h; omega) | assumption), ?_⟩
  refine hQ _ _ _ _ _ (RG.nil ?_)
  try simp only [x_tn]
  refine aw_cond _ rfl trivial (fun ht => ?_) (fun hf => ?_)
  · have hc : 0 < i ∧ g % 3 = 0 := by simp [PL_len] at ht; omega
    rw [if_pos hc] at hfp
    have w9 : IntKind.i64.wrap (((PL i).map nrow).length - 1 : Int) = ((i - 1 : Nat) : Int) := by rw [List.length_map, hpl, w64 _ (by omega) (by omega)]; omega
    have w10 : IntKind.i64.wrap ((g % 10 : Nat) : Int) = ((g % 10 : Nat) : Int) := w64 _ (by omega) (by omega)
    have w11 : IntKind.i64.wrap (((g % 10 : Nat) : Int) - 1) = ((g % 10 : Nat) : Int) - 1 := w64 _ (by omega) (by omega)
    have hr9 : (((PL i).map nrow)[(((i - 1 : Nat) : Int)).toNat]?).getD [] = [.v (.int .i64 ((PL i)[i - 1]'(by omega)))] := map_get nrow (by omega) []
    have hset : ((PL i).map nrow).set (((i - 1 : Nat) : Int)).toNat [C.v (.int .i64 (((g % 10 : Nat) : Int) - 1))] = (formP n p r g).map nrow := by rw [hfp, List.map_set]; rfl
    try simp only [x_seq, x_block, x_skip, x_ret, x_exit, x_tn, x_tr, x_tx, x_bn, x_br, x_bx, x_ln, x_lr, x_lx, Nat.reduceEqDiff, ↓reduceIte, if_true, if_false, reduceCtorEq]
    refine aw_reg 1200 (RG.go fun Q hQ => ?_)
    simp only [RX, eff, ev_t, ev_k, lk_cons, lkE_cons, setS_cons, setS_nil, setE_cons, AOp.isCall, setD, setEs, presOf, AOp.needs, SV.one?, SV.pre, SV.cells, binV, idsOf, AOp.rds, AOp.ops, SV.ids, C.ids0, rowsOf, splice, List.take_zero, List.drop_succ_cons, List.drop_zero, List.length_cons, List.length_nil, List.getElem?_cons_zero, List.getElem?_cons_succ, Option.map_some, List.map_cons, List.map_nil, List.nil_append, List.cons_append, and_true, true_and, and_self, Bool.false_eq_true, Nat.reduceAdd, Nat.reduceEqDiff, ↓reduceIte, Option.bind_some, Nat.zero_add, Nat.le_refl, List.append_nil, m5, w9, w10, w11, hr9, hset]
    refine ⟨by decide, ⟨by omega, by simp; omega⟩, by simp; omega, hQ _ _ _ _ _ (RG.nil ?_)⟩
    try simp only [x_seq, x_tn]
    refine aw_reg 2000 (RG.go fun Q hQ => ?_)
    simp only [RX, eff, ev_t, ev_k, lk_cons, setS_cons, setS_nil, AOp.isCall, setD, setEs, presOf, AOp.needs, SV.one?, SV.pre, gval, binV, idsOf, AOp.rds, AOp.ops, SV.ids, C.ids0, Option.map_some, List.map_nil, List.nil_append, and_true, true_and, and_self, Bool.true_and, Bool.and_true, Bool.false_eq_true, beq_true, beq_false, implies_true, imp_self, Bool.if_false_right, Bool.if_true_left, Bool.decide_eq_true, ge_iff_le, Nat.reduceAdd, Nat.reduceEqDiff, ↓reduceIte, List.append_nil, m4, m5, hr]
    repeat refine ⟨by (first | omega | (simp; omega) | (simp; done) | exact ⟨by omega, by omega⟩ | exact ⟨by omega, by simp; omega⟩ | exact ⟨by simp; omega, by simp; omega⟩ | exact ⟨by simp, by simp; omega⟩ | (intro h; rw [h]; rfl) | (intro h; refine ⟨fun h2 => ?_, h⟩; rw [h, h2]; rfl) | (intro h; refine ⟨?_, h⟩; simp [inR] at h; omega) | (intro h; simp [inR] at h; omega) | assumption), ?_⟩
    refine hQ _ _ _ _ _ (RG.nil ?_)
    try simp only [x_seq, x_tn]
    simp only [hF]
    cases hfr : formR n p k r g with
    | true =>
      have hn : newR (formC n p k r g) = (newV (formC n p k r g), 0) := by unfold newR; rw [if_pos (by rw [hsh, hfr])]
      rw [hn] at cN
      rw [hfr] at cR
      refine aw_reg 2700 (RG.go fun Q hQ => ?_)
      simp only [RX, eff, ev_t, lk_cons, lkE_cons, setS_cons, setS_nil, AOp.isCall, setD, setEs, presOf, AOp.needs, SV.one?, SV.pre, idsOf, AOp.rds, AOp.ops, SV.ids, C.ids0, List.take_succ_cons, List.take_zero, List.drop_zero, List.length_cons, List.length_nil, List.map_nil, List.nil_append, List.cons_append, true_and, and_self, Bool.false_eq_true, Nat.reduceAdd, Nat.reduceEqDiff, ↓reduceIte, Nat.zero_add, Nat.le_refl, List.append_nil]
      repeat refine ⟨by (first | omega | (simp; omega) | (simp; done) | exact ⟨by omega, by omega⟩ | exact ⟨by omega, by simp; omega⟩ | exact ⟨by simp; omega, by simp; omega⟩ | exact ⟨by simp, by simp; omega⟩ | (intro h; rw [h]; rfl) | (intro h; refine ⟨fun h2 => ?_, h⟩; rw [h, h2]; rfl) | (intro h; refine ⟨?_, h⟩; simp [inR] at h; omega) | (intro h; simp [inR] at h; omega) | assumption), ?_⟩
      refine hQ _ _ _ _ _ ?_
      refine RG.callo [] [5000] (cN) (.mk (by (repeat' (first | exact tr_nil | refine tr_cons ?_ ?_ | exact tr_v | exact tr_sl | exact tr_nils | exact tr_agg (by (repeat' (first | exact trivial | rfl | exact rfl | (refine ⟨by simp, _, _, _, rfl, ?_⟩; (first | exact drows_brow _ | exact drows_nrow _ | exact drows_irow _ | exact drows_wrow _ | assumption | (simp [isDRows, brow, C.isD]; done) | (rw [← List.map_append]; first | exact drows_brow _ | exact drows_nrow _ | exact drows_irow _ | exact drows_wrow _))) | refine ⟨?_, ?_⟩))) | exact tr_view (by simp) rfl (by (first | exact drows_brow _ | exact drows_nrow _ | exact drows_irow _ | exact drows_wrow _ | assumption | (simp [isDRows, brow, C.isD]; done) | (rw [← List.map_append]; first | exact drows_brow _ | exact drows_nrow _ | exact drows_irow _ | exact drows_wrow _)))))) (by first | trivial | (simp only [Int.cast_ofNat_Int, setEs, setE_cons, setE_nil, TrL, TrSV, TrC, TrC0, TrEnt, Views, Frozen, lk_cons, lk_nil, lkE_cons, lkE_nil, ev_t, ev_k, List.map_cons, List.map_nil, List.getElem?_cons_zero, List.getElem?_cons_succ, List.getElem?_nil, List.mem_cons, List.not_mem_nil, or_false, false_or, or_true, true_or, Nat.reduceEqDiff, Nat.reduceAdd, ↓reduceIte, if_true, if_false, reduceCtorEq, true_and, and_true, and_self, exists_eq_left, exists_eq_left', ne_eq, not_false_eq_true, Option.some.injEq, Ent.arr.injEq, Ent.box.injEq, List.length_cons, List.length_nil, isDRows, List.append_nil, List.nil_append]; done) | (simp only [Int.cast_ofNat_Int, setEs, setE_cons, setE_nil, TrL, TrSV, TrC, TrC0, TrEnt, Views, Frozen, lk_cons, lk_nil, lkE_cons, lkE_nil, ev_t, ev_k, List.map_cons, List.map_nil, List.getElem?_cons_zero, List.getElem?_cons_succ, List.getElem?_nil, List.mem_cons, List.not_mem_nil, or_false, false_or, or_true, true_or, Nat.reduceEqDiff, Nat.reduceAdd, ↓reduceIte, if_true, if_false, reduceCtorEq, true_and, and_true, and_self, exists_eq_left, exists_eq_left', ne_eq, not_false_eq_true, Option.some.injEq, Ent.arr.injEq, Ent.box.injEq, List.length_cons, List.length_nil, isDRows, List.append_nil, List.nil_append]; trivial) | (simp only [Int.cast_ofNat_Int, setEs, setE_cons, setE_nil, TrL, TrSV, TrC, TrC0, TrEnt, Views, Frozen, lk_cons, lk_nil, lkE_cons, lkE_nil, ev_t, ev_k, List.map_cons, List.map_nil, List.getElem?_cons_zero, List.getElem?_cons_succ, List.getElem?_nil, List.mem_cons, List.not_mem_nil, or_false, false_or, or_true, true_or, Nat.reduceEqDiff, Nat.reduceAdd, ↓reduceIte, if_true, if_false, reduceCtorEq, true_and, and_true, and_self, exists_eq_left, exists_eq_left', ne_eq, not_false_eq_true, Option.some.injEq, Ent.arr.injEq, Ent.box.injEq, List.length_cons, List.length_nil, isDRows, List.append_nil, List.nil_append]; repeat' (first | (first | exact drows_brow _ | exact drows_nrow _ | exact drows_irow _ | exact drows_wrow _ | assumption | (simp [isDRows, brow, C.isD]; done) | (rw [← List.map_append]; first | exact drows_brow _ | exact drows_nrow _ | exact drows_irow _ | exact drows_wrow _)) | refine ⟨?_, ?_⟩))) (by simp) (by simp) (views1 rfl trivial) (by first | (simp [lkE_cons, lkE_nil]; done) | (intro j hj; simp at hj; simp only [setEs, setE_cons, setE_nil, lkE_cons, lkE_nil]; repeat rw [if_neg (by omega)])) (by first | (simp [Ent.pure]; done) | (simp [Ent.pure]; repeat' (first | (first | exact drows_brow _ | exact drows_nrow _ | exact drows_irow _ | exact drows_wrow _ | assumption | (simp [isDRows, brow, C.isD]; done) | (rw [← List.map_append]; first | exact drows_brow _ | exact drows_nrow _ | exact drows_irow _ | exact drows_wrow _)) | refine ⟨?_, ?_⟩))) (by simp) (by simp)) ?_
      refine RG.go fun Q hQ => ?_
      simp only [RX, eff, ev_t, lk_cons, lkE_cons, lkE_nil, setS_cons, setS_nil, setE_cons, setE_nil, AOp.isCall, setD, setEs, presOf, AOp.needs, SV.one?, SV.pre, SV.core, SV.cells, idsOf, AOp.rds, AOp.ops, SV.ids, C.ids0, splice, List.take_zero, List.drop_zero, List.length_cons, List.length_nil, List.getElem?_cons_zero, List.getElem?_cons_succ, Option.map_some, List.map_cons, List.map_nil, List.nil_append, List.cons_append, and_true, true_and, and_self, Bool.false_eq_true, Nat.reduceAdd, Nat.reduceEqDiff, ↓reduceIte, Nat.zero_add, Nat.le_refl, renSV, renSV1, renC, renC0, renEnt, backUps, List.zip_nil_right, List.zipIdx_nil, List.filterMap_cons, List.filterMap_nil, List.append_nil, List.range_zero, Nat.sub_self]
      simp only [setE_cons, setEs, List.drop_succ_cons, List.drop_zero, List.length_cons, List.length_nil, List.map_cons, List.map_nil, true_and, Nat.reduceAdd, Nat.reduceEqDiff, ↓reduceIte, Nat.zero_add, renC, renC0, List.append_nil, Int.reduceLT, volC, vC, newV, formC]
      repeat refine ⟨by (first | omega | (simp; omega) | (simp; done) | exact ⟨by omega, by omega⟩ | exact ⟨by omega, by simp; omega⟩ | exact ⟨by simp; omega, by simp; omega⟩ | exact ⟨by simp, by simp; omega⟩ | (intro h; rw [h]; rfl) | (intro h; refine ⟨fun h2 => ?_, h⟩; rw [h, h2]; rfl) | (intro h; refine ⟨?_, h⟩; simp [inR] at h; omega) | (intro h; simp [inR] at h; omega) | assumption), ?_⟩
      refine hQ _ _ _ _ _ (RG.nil ?_)
      try simp only [x_seq, x_tn]
      refine aw_reg 3000 (RG.go fun Q hQ => ?_)
      simp only [RX, eff, ev_t, ev_k, lk_cons, lkE_cons, setS_cons, setS_nil, AOp.isCall, setD, setEs, presOf, AOp.needs, SV.one?, SV.pre, gval, binV, unV, idsOf, AOp.rds, AOp.ops, SV.ids, C.ids0, List.take_succ_cons, List.take_zero, List.drop_zero, List.length_cons, List.length_nil, Option.map_some, List.map_nil, List.nil_append, List.cons_append, and_true, true_and, and_self, Bool.and_true, Bool.and_false, Bool.false_eq_true, beq_false, Bool.not_true, implies_true, imp_self, reduceCtorEq, Nat.reduceAdd, Nat.reduceEqDiff, ↓reduceIte, Nat.zero_add, Nat.le_refl, BEq.rfl, List.append_nil, Int.reduceBEq]
      repeat refine ⟨by (first | omega | (simp; omega) | (simp; done) | exact ⟨by omega, by omega⟩ | exact ⟨by omega, by simp; omega⟩ | exact ⟨by simp; omega, by simp; omega⟩ | exact ⟨by simp, by simp; omega⟩ | (intro h; rw [h]; rfl) | (intro h; refine ⟨fun h2 => ?_, h⟩; rw [h, h2]; rfl) | (intro h; refine ⟨?_, h⟩; simp [inR] at h; omega) | (intro h; simp [inR] at h; omega) | assumption), ?_⟩
      refine hQ _ _ _ _ _ ?_
      refine RG.callg _ _ [] rfl (fun hg => ⟨_, cR, tr_cons (tr_opt (by simpa using hg) (tr_agg (by (repeat' (first | exact trivial | rfl | exact rfl | (refine ⟨⟨_, _, rfl⟩, ?_⟩; (first | exact drows_brow _ | exact drows_nrow _ | exact drows_irow _ | exact drows_wrow _ | assumption | (simp [isDRows, brow, C.isD]; done) | (rw [← List.map_append]; first | exact drows_brow _ | exact drows_nrow _ | exact drows_irow _ | exact drows_wrow _))) | (simp; done) | refine ⟨?_, ?_⟩))))) tr_nil, trivial, .inl trivial⟩) ?_
      refine RG.go fun Q hQ => ?_
      simp only [RX, eff, ev_t, ev_k, lk_cons, lkE_cons, setS_cons, setS_nil, AOp.isCall, setD, presOf, AOp.needs, SV.one?, SV.pre, gval, unV, idsOf, AOp.rds, AOp.ops, SV.ids, C.ids0, List.take_succ_cons, List.take_zero, List.drop_zero, List.length_cons, List.length_nil, List.getElem?_cons_zero, List.getElem?_cons_succ, Option.map_some, List.nil_append, List.cons_append, true_and, and_self, Bool.true_and, Bool.and_true, Bool.false_eq_true, beq_true, implies_true, reduceCtorEq, Nat.reduceAdd, Nat.reduceEqDiff, ↓reduceIte, Nat.zero_add, Nat.le_refl, BEq.rfl, List.append_nil]
      repeat refine ⟨by (first | omega | (simp; omega) | (simp; done) | exact ⟨by omega, by omega⟩ | exact ⟨by omega, by simp; omega⟩ | exact ⟨by simp; omega, by simp; omega⟩ | exact ⟨by simp, by simp; omega⟩ | (intro h; rw [h]; rfl) | (intro h; refine ⟨fun h2 => ?_, h⟩; rw [h, h2]; rfl) | (intro h; refine ⟨?_, h⟩; simp [inR] at h; omega) | (intro h; simp [inR] at h; omega) | assumption), ?_⟩
      refine hQ _ _ _ _ _ ?_
      refine RG.callg _ _ [] rfl (fun hg => ⟨_, cL, tr_cons (tr_opt (by simpa using hg) (tr_agg (by (repeat' (first | exact trivial | rfl | exact rfl | (refine ⟨⟨_, _, rfl⟩, ?_⟩; (first | exact drows_brow _ | exact drows_nrow _ | exact drows_irow _ | exact drows_wrow _ | assumption | (simp [isDRows, brow, C.isD]; done) | (rw [← List.map_append]; first | exact drows_brow _ | exact drows_nrow _ | exact drows_irow _ | exact drows_wrow _))) | (simp; done) | refine ⟨?_, ?_⟩))))) tr_nil, trivial, .inl trivial⟩) ?_
      refine RG.go fun Q hQ => ?_
      simp only [RX, eff, ev_t, ev_k, lk_cons, setS_cons, setS_nil, AOp.isCall, setD, setEs, presOf, AOp.needs, SV.one?, SV.pre, gval, binV, idsOf, AOp.rds, AOp.ops, SV.ids, C.ids0, Option.map_some, List.map_nil, List.nil_append, and_true, true_and, and_self, Bool.true_and, Bool.and_true, Bool.false_eq_true, beq_true, implies_true, imp_self, Bool.if_false_right, Bool.decide_eq_true, reduceCtorEq, Nat.reduceAdd, Nat.reduceEqDiff, ↓reduceIte, BEq.rfl, List.append_nil]
      repeat refine ⟨by (first | omega | (simp; omega) | (simp; done) | exact ⟨by omega, by omega⟩ | exact ⟨by omega, by simp; omega⟩ | exact ⟨by simp; omega, by simp; omega⟩ | exact ⟨by simp, by simp; omega⟩ | (intro h; rw [h]; rfl) | (intro h; refine ⟨fun h2 => ?_, h⟩; rw [h, h2]; rfl) | (intro h; refine ⟨?_, h⟩; simp [inR] at h; omega) | (intro h; simp [inR] at h; omega) | assumption), ?_⟩
      refine hQ _ _ _ _ _ (RG.nil ?_)
      try simp only [x_ret, x_tn]
      exact Fin.b (.inr rfl) rfl trivial rfl
    | false =>
      have hn : newR (formC n p k r g) = (zeroV, 23) := by unfold newR; rw [if_neg (by rw [hsh, hfr]; simp)]
      rw [hn] at cN
      refine aw_reg 2700 (RG.go fun Q hQ => ?_)
      simp only [RX, eff, ev_t, lk_cons, lkE_cons, setS_cons, setS_nil, AOp.isCall, setD, setEs, presOf, AOp.needs, SV.one?, SV.pre, idsOf, AOp.rds, AOp.ops, SV.ids, C.ids0, List.take_succ_cons, List.take_zero, List.drop_zero, List.length_cons, List.length_nil, List.map_nil, List.nil_append, List.cons_append, true_and, and_self, Bool.false_eq_true, Nat.reduceAdd, Nat.reduceEqDiff, ↓reduceIte, Nat.zero_add, Nat.le_refl, List.append_nil]
      repeat refine ⟨by (first | omega | (simp; omega) | (simp; done) | exact ⟨by omega, by omega⟩ | exact ⟨by omega, by simp; omega⟩ | exact ⟨by simp; omega, by simp; omega⟩ | exact ⟨by simp, by simp; omega⟩ | (intro h; rw [h]; rfl) | (intro h; refine ⟨fun h2 => ?_, h⟩; rw [h, h2]; rfl) | (intro h; refine ⟨?_, h⟩; simp [inR] at h; omega) | (intro h; simp [inR] at h; omega) | assumption), ?_⟩
      refine hQ _ _ _ _ _ ?_
      refine RG.callo [] [5000] (cN) (.mk (by (repeat' (first | exact tr_nil | refine tr_cons ?_ ?_ | exact tr_v | exact tr_sl | exact tr_nils | exact tr_agg (by (repeat' (first | exact trivial | rfl | exact rfl | (refine ⟨by simp, _, _, _, rfl, ?_⟩; (first | exact drows_brow _ | exact drows_nrow _ | exact drows_irow _ | exact drows_wrow _ | assumption | (simp [isDRows, brow, C.isD]; done) | (rw [← List.map_append]; first | exact drows_brow _ | exact drows_nrow _ | exact drows_irow _ | exact drows_wrow _))) | refine ⟨?_, ?_⟩))) | exact tr_view (by simp) rfl (by (first | exact drows_brow _ | exact drows_nrow _ | exact drows_irow _ | exact drows_wrow _ | assumption | (simp [isDRows, brow, C.isD]; done) | (rw [← List.map_append]; first | exact drows_brow _ | exact drows_nrow _ | exact drows_irow _ | exact drows_wrow _)))))) (by first | trivial | (simp only [Int.cast_ofNat_Int, setEs, setE_cons, setE_nil, TrL, TrSV, TrC, TrC0, TrEnt, Views, Frozen, lk_cons, lk_nil, lkE_cons, lkE_nil, ev_t, ev_k, List.map_cons, List.map_nil, List.getElem?_cons_zero, List.getElem?_cons_succ, List.getElem?_nil, List.mem_cons, List.not_mem_nil, or_false, false_or, or_true, true_or, Nat.reduceEqDiff, Nat.reduceAdd, ↓reduceIte, if_true, if_false, reduceCtorEq, true_and, and_true, and_self, exists_eq_left, exists_eq_left', ne_eq, not_false_eq_true, Option.some.injEq, Ent.arr.injEq, Ent.box.injEq, List.length_cons, List.length_nil, isDRows, List.append_nil, List.nil_append]; done) | (simp only [Int.cast_ofNat_Int, setEs, setE_cons, setE_nil, TrL, TrSV, TrC, TrC0, TrEnt, Views, Frozen, lk_cons, lk_nil, lkE_cons, lkE_nil, ev_t, ev_k, List.map_cons, List.map_nil, List.getElem?_cons_zero, List.getElem?_cons_succ, List.getElem?_nil, List.mem_cons, List.not_mem_nil, or_false, false_or, or_true, true_or, Nat.reduceEqDiff, Nat.reduceAdd, ↓reduceIte, if_true, if_false, reduceCtorEq, true_and, and_true, and_self, exists_eq_left, exists_eq_left', ne_eq, not_false_eq_true, Option.some.injEq, Ent.arr.injEq, Ent.box.injEq, List.length_cons, List.length_nil, isDRows, List.append_nil, List.nil_append]; trivial) | (simp only [Int.cast_ofNat_Int, setEs, setE_cons, setE_nil, TrL, TrSV, TrC, TrC0, TrEnt, Views, Frozen, lk_cons, lk_nil, lkE_cons, lkE_nil, ev_t, ev_k, List.map_cons, List.map_nil, List.getElem?_cons_zero, List.getElem?_cons_succ, List.getElem?_nil, List.mem_cons, List.not_mem_nil, or_false, false_or, or_true, true_or, Nat.reduceEqDiff, Nat.reduceAdd, ↓reduceIte, if_true, if_false, reduceCtorEq, true_and, and_true, and_self, exists_eq_left, exists_eq_left', ne_eq, not_false_eq_true, Option.some.injEq, Ent.arr.injEq, Ent.box.injEq, List.length_cons, List.length_nil, isDRows, List.append_nil, List.nil_append]; repeat' (first | (first | exact drows_brow _ | exact drows_nrow _ | exact drows_irow _ | exact drows_wrow _ | assumption | (simp [isDRows, brow, C.isD]; done) | (rw [← List.map_append]; first | exact drows_brow _ | exact drows_nrow _ | exact drows_irow _ | exact drows_wrow _)) | refine ⟨?_, ?_⟩))) (by simp) (by simp) (views1 rfl trivial) (by first | (simp [lkE_cons, lkE_nil]; done) | (intro j hj; simp at hj; simp only [setEs, setE_cons, setE_nil, lkE_cons, lkE_nil]; repeat rw [if_neg (by omega)])) (by first | (simp [Ent.pure]; done) | (simp [Ent.pure]; repeat' (first | (first | exact drows_brow _ | exact drows_nrow _ | exact drows_irow _ | exact drows_wrow _ | assumption | (simp [isDRows, brow, C.isD]; done) | (rw [← List.map_append]; first | exact drows_brow _ | exact drows_nrow _ | exact drows_irow _ | exact drows_wrow _)) | refine ⟨?_, ?_⟩))) (by simp) (by simp)) ?_
      refine RG.go fun Q hQ => ?_
      simp only [RX, eff, ev_t, lk_cons, lkE_cons, lkE_nil, setS_cons, setS_nil, setE_cons, setE_nil, AOp.isCall, setD, setEs, presOf, AOp.needs, SV.one?, SV.pre, SV.core, SV.cells, idsOf, AOp.rds, AOp.ops, SV.ids, C.ids0, splice, List.take_zero, List.drop_zero, List.length_cons, List.length_nil, List.getElem?_cons_zero, List.getElem?_cons_succ, Option.map_some, List.map_cons, List.map_nil, List.nil_append, List.cons_append, and_true, true_and, and_self, Bool.false_eq_true, Nat.reduceAdd, Nat.reduceEqDiff, ↓reduceIte, Nat.zero_add, Nat.le_refl, renSV, renSV1, renC, renC0, renEnt, backUps, List.zip_nil_right, List.zipIdx_nil, List.filterMap_cons, List.filterMap_nil, List.append_nil, List.range_zero, Nat.sub_self]
      simp only [setE_cons, setEs, List.drop_succ_cons, List.drop_zero, List.length_cons, List.length_nil, List.map_cons, List.map_nil, true_and, Nat.reduceAdd, Nat.reduceEqDiff, ↓reduceIte, Nat.zero_add, renC, renC0, List.append_nil, volC, vC, zeroV]
      repeat refine ⟨by (first | omega | (simp; omega) | (simp; done) | exact ⟨by omega, by omega⟩ | exact ⟨by omega, by simp; omega⟩ | exact ⟨by simp; omega, by simp; omega⟩ | exact ⟨by simp, by simp; omega⟩ | (intro h; rw [h]; rfl) | (intro h; refine ⟨fun h2 => ?_, h⟩; rw [h, h2]; rfl) | (intro h; refine ⟨?_, h⟩; simp [inR] at h; omega) | (intro h; simp [inR] at h; omega) | assumption), ?_⟩
      refine hQ _ _ _ _ _ (RG.nil ?_)
      try simp only [x_seq, x_tn]
      refine aw_reg 3000 (RG.go fun Q hQ => ?_)
      simp only [RX, eff, ev_t, ev_k, lk_cons, lkE_cons, setS_cons, setS_nil, AOp.isCall, setD, setEs, presOf, AOp.needs, SV.one?, SV.pre, gval, binV, unV, idsOf, AOp.rds, AOp.ops, SV.ids, C.ids0, List.take_succ_cons, List.take_zero, List.drop_zero, List.length_cons, List.length_nil, Option.map_some, List.map_nil, List.nil_append, List.cons_append, true_and, and_self, Bool.and_true, Bool.and_false, Bool.false_eq_true, beq_false, Bool.not_true, Bool.not_false, implies_true, reduceCtorEq, Nat.reduceAdd, Nat.reduceEqDiff, ↓reduceIte, Nat.zero_add, Nat.le_refl, BEq.rfl, List.append_nil, Int.reduceBEq]
      repeat refine ⟨by (first | omega | (simp; omega) | (simp; done) | exact ⟨by omega, by omega⟩ | exact ⟨by omega, by simp; omega⟩ | exact ⟨by simp; omega, by simp; omega⟩ | exact ⟨by simp, by simp; omega⟩ | (intro h; rw [h]; rfl) | (intro h; refine ⟨fun h2 => ?_, h⟩; rw [h, h2]; rfl) | (intro h; refine ⟨?_, h⟩; simp [inR] at h; omega) | (intro h; simp [inR] at h; omega) | assumption), ?_⟩
      refine hQ _ _ _ _ _ ?_
      refine RG.callg (res := B true) _ _ [] rfl (fun hg => by simp at hg) ?_
      refine RG.go fun Q hQ => ?_
      simp only [RX, eff, ev_t, ev_k, lk_cons, lkE_cons, setS_cons, setS_nil, AOp.isCall, setD, presOf, AOp.needs, SV.one?, SV.pre, gval, unV, idsOf, AOp.rds, AOp.ops, SV.ids, C.ids0, List.take_succ_cons, List.take_zero, List.drop_zero, List.length_cons, List.length_nil, List.getElem?_cons_zero, List.getElem?_cons_succ, Option.map_some, List.nil_append, List.cons_append, and_true, true_and, and_self, Bool.and_true, Bool.and_false, Bool.false_eq_true, beq_false, Bool.not_true, Bool.not_false, implies_true, imp_self, true_implies, reduceCtorEq, Nat.reduceAdd, Nat.reduceEqDiff, ↓reduceIte, Nat.zero_add, Nat.le_refl, BEq.rfl, List.append_nil]
      repeat refine ⟨by (first | omega | (simp; omega) | (simp; done) | exact ⟨by omega, by omega⟩ | exact ⟨by omega, by simp; omega⟩ | exact ⟨by simp; omega, by simp; omega⟩ | exact ⟨by simp, by simp; omega⟩ | (intro h; rw [h]; rfl) | (intro h; refine ⟨fun h2 => ?_, h⟩; rw [h, h2]; rfl) | (intro h; refine ⟨?_, h⟩; simp [inR] at h; omega) | (intro h; simp [inR] at h; omega) | assumption), ?_⟩
      refine hQ _ _ _ _ _ ?_
      refine RG.callg (res := B true) _ _ [] rfl (fun hg => by simp at hg) ?_
      refine RG.go fun Q hQ => ?_
      simp only [RX, eff, ev_t, ev_k, lk_cons, setS_cons, setS_nil, AOp.isCall, setD, setEs, presOf, AOp.needs, SV.one?, SV.pre, gval, binV, idsOf, AOp.rds, AOp.ops, SV.ids, C.ids0, Option.map_none, List.map_nil, List.nil_append, and_true, true_and, and_self, Bool.and_true, Bool.and_false, Bool.false_eq_true, beq_false, Bool.not_true, implies_true, imp_self, true_implies, reduceCtorEq, Nat.reduceAdd, Nat.reduceEqDiff, ↓reduceIte, BEq.rfl, List.append_nil]
      repeat refine ⟨by (first | omega | (simp; omega) | (simp; done) | exact ⟨by omega, by omega⟩ | exact ⟨by omega, by simp; omega⟩ | exact ⟨by simp; omega, by simp; omega⟩ | exact ⟨by simp, by simp; omega⟩ | (intro h; rw [h]; rfl) | (intro h; refine ⟨fun h2 => ?_, h⟩; rw [h, h2]; rfl) | (intro h; refine ⟨?_, h⟩; simp [inR] at h; omega) | (intro h; simp [inR] at h; omega) | assumption), ?_⟩
      refine hQ _ _ _ _ _ (RG.nil ?_)
      try simp only [x_ret, x_tn]
      exact Fin.b (.inr rfl) rfl trivial rfl
  have hc : ¬ (0 < i ∧ g % 3 = 0) := by simp [PL_len] at hf ⊢; omega
  rw [if_neg hc] at hfp
  rw [← hfp]
  try simp only [x_seq, x_skip, x_tn]
  refine aw_reg 2000 (RG.go fun Q hQ => ?_)
  simp only [RX, eff, ev_t, ev_k, lk_cons, setS_cons, setS_nil, AOp.isCall, setD, setEs, presOf, AOp.needs, SV.one?, SV.pre, gval, binV, idsOf, AOp.rds, AOp.ops, SV.ids, C.ids0, Option.map_some, List.map_nil, List.nil_append, and_true, true_and, and_self, Bool.true_and, Bool.and_true, Bool.false_eq_true, beq_true, beq_false, implies_true, imp_self, Bool.if_false_right, Bool.if_true_left, Bool.decide_eq_true, ge_iff_le, Nat.reduceAdd, Nat.reduceEqDiff, ↓reduceIte, List.append_nil, m4, m5, hr]
  repeat refine ⟨by (first | omega | (simp; omega) | (simp; done) | exact ⟨by omega, by omega⟩ | exact ⟨by omega, by simp; omega⟩ | exact ⟨by simp; omega, by simp; omega⟩ | exact ⟨by simp, by simp; omega⟩ | (intro h; rw [h]; rfl) | (intro h; refine ⟨fun h2 => ?_, h⟩; rw [h, h2]; rfl) | (intro h; refine ⟨?_, h⟩; simp [inR] at h; omega) | (intro h; simp [inR] at h; omega) | assumption), ?_⟩
  refine hQ _ _ _ _ _ (RG.nil ?_)
  try simp only [x_seq, x_tn]
  simp only [hF]
  cases hfr : formR n p k r g with
  | true =>
    have hn : newR (formC n p k r g) = (newV (formC n p k r g), 0) := by unfold newR; rw [if_pos (by rw [hsh, hfr])]
    rw [hn] at cN
    rw [hfr] at cR
    refine aw_reg 2700 (RG.go fun Q hQ => ?_)
    simp only [RX, eff, ev_t, lk_cons, lkE_cons, setS_cons, setS_nil, AOp.isCall, setD, setEs, presOf, AOp.needs, SV.one?, SV.pre, idsOf, AOp.rds, AOp.ops, SV.ids, C.ids0, List.take_succ_cons, List.take_zero, List.drop_zero, List.length_cons, List.length_nil, List.map_nil, List.nil_append, List.cons_append, true_and, and_self, Bool.false_eq_true, Nat.reduceAdd, Nat.reduceEqDiff, ↓reduceIte, Nat.zero_add, Nat.le_refl, List.append_nil]
    repeat refine ⟨by (first | omega | (simp; omega) | (simp; done) | exact ⟨by omega, by omega⟩ | exact ⟨by omega, by simp; omega⟩ | exact ⟨by simp; omega, by simp; omega⟩ | exact ⟨by simp, by simp; omega⟩ | (intro h; rw [h]; rfl) | (intro h; refine ⟨fun h2 => ?_, h⟩; rw [h, h2]; rfl) | (intro h; refine ⟨?_, h⟩; simp [inR] at h; omega) | (intro h; simp [inR] at h; omega) | assumption), ?_⟩
    refine hQ _ _ _ _ _ ?_
    refine RG.callo [] [5000] (cN) (.mk (by (repeat' (first | exact tr_nil | refine tr_cons ?_ ?_ | exact tr_v | exact tr_sl | exact tr_nils | exact tr_agg (by (repeat' (first | exact trivial | rfl | exact rfl | (refine ⟨by simp, _, _, _, rfl, ?_⟩; (first | exact drows_brow _ | exact drows_nrow _ | exact drows_irow _ | exact drows_wrow _ | assumption | (simp [isDRows, brow, C.isD]; done) | (rw [← List.map_append]; first | exact drows_brow _ | exact drows_nrow _ | exact drows_irow _ | exact drows_wrow _))) | refine ⟨?_, ?_⟩))) | exact tr_view (by simp) rfl (by (first | exact drows_brow _ | exact drows_nrow _ | exact drows_irow _ | exact drows_wrow _ | assumption | (simp [isDRows, brow, C.isD]; done) | (rw [← List.map_append]; first | exact drows_brow _ | exact drows_nrow _ | exact drows_irow _ | exact drows_wrow _)))))) (by first | trivial | (simp only [Int.cast_ofNat_Int, setEs, setE_cons, setE_nil, TrL, TrSV, TrC, TrC0, TrEnt, Views, Frozen, lk_cons, lk_nil, lkE_cons, lkE_nil, ev_t, ev_k, List.map_cons, List.map_nil, List.getElem?_cons_zero, List.getElem?_cons_succ, List.getElem?_nil, List.mem_cons, List.not_mem_nil, or_false, false_or, or_true, true_or, Nat.reduceEqDiff, Nat.reduceAdd, ↓reduceIte, if_true, if_false, reduceCtorEq, true_and, and_true, and_self, exists_eq_left, exists_eq_left', ne_eq, not_false_eq_true, Option.some.injEq, Ent.arr.injEq, Ent.box.injEq, List.length_cons, List.length_nil, isDRows, List.append_nil, List.nil_append]; done) | (simp only [Int.cast_ofNat_Int, setEs, setE_cons, setE_nil, TrL, TrSV, TrC, TrC0, TrEnt, Views, Frozen, lk_cons, lk_nil, lkE_cons, lkE_nil, ev_t, ev_k, List.map_cons, List.map_nil, List.getElem?_cons_zero, List.getElem?_cons_succ, List.getElem?_nil, List.mem_cons, List.not_mem_nil, or_false, false_or, or_true, true_or, Nat.reduceEqDiff, Nat.reduceAdd, ↓reduceIte, if_true, if_false, reduceCtorEq, true_and, and_true, and_self, exists_eq_left, exists_eq_left', ne_eq, not_false_eq_true, Option.some.injEq, Ent.arr.injEq, Ent.box.injEq, List.length_cons, List.length_nil, isDRows, List.append_nil, List.nil_append]; trivial) | (simp only [Int.cast_ofNat_Int, setEs, setE_cons, setE_nil, TrL, TrSV, TrC, TrC0, TrEnt, Views, Frozen, lk_cons, lk_nil, lkE_cons, lkE_nil, ev_t, ev_k, List.map_cons, List.map_nil, List.getElem?_cons_zero, List.getElem?_cons_succ, List.getElem?_nil, List.mem_cons, List.not_mem_nil, or_false, false_or, or_true, true_or, Nat.reduceEqDiff, Nat.reduceAdd, ↓reduceIte, if_true, if_false, reduceCtorEq, true_and, and_true, and_self, exists_eq_left, exists_eq_left', ne_eq, not_false_eq_true, Option.some.injEq, Ent.arr.injEq, Ent.box.injEq, List.length_cons, List.length_nil, isDRows, List.append_nil, List.nil_append]; repeat' (first | (first | exact drows_brow _ | exact drows_nrow _ | exact drows_irow _ | exact drows_wrow _ | assumption | (simp [isDRows, brow, C.isD]; done) | (rw [← List.map_append]; first | exact drows_brow _ | exact drows_nrow _ | exact drows_irow _ | exact drows_wrow _)) | refine ⟨?_, ?_⟩))) (by simp) (by simp) (views1 rfl trivial) (by first | (simp [lkE_cons, lkE_nil]; done) | (intro j hj; simp at hj; simp only [setEs, setE_cons, setE_nil, lkE_cons, lkE_nil]; repeat rw [if_neg (by omega)])) (by first | (simp [Ent.pure]; done) | (simp [Ent.pure]; repeat' (first | (first | exact drows_brow _ | exact drows_nrow _ | exact drows_irow _ | exact drows_wrow _ | assumption | (simp [isDRows, brow, C.isD]; done) | (rw [← List.map_append]; first | exact drows_brow _ | exact drows_nrow _ | exact drows_irow _ | exact drows_wrow _)) | refine ⟨?_, ?_⟩))) (by simp) (by simp)) ?_
    refine RG.go fun Q hQ => ?_
    simp only [RX, eff, ev_t, lk_cons, lkE_cons, lkE_nil, setS_cons, setS_nil, setE_cons, setE_nil, AOp.isCall, setD, setEs, presOf, AOp.needs, SV.one?, SV.pre, SV.core, SV.cells, idsOf, AOp.rds, AOp.ops, SV.ids, C.ids0, splice, List.take_zero, List.drop_zero, List.length_cons, List.length_nil, List.getElem?_cons_zero, List.getElem?_cons_succ, Option.map_some, List.map_cons, List.map_nil, List.nil_append, List.cons_append, and_true, true_and, and_self, Bool.false_eq_true, Nat.reduceAdd, Nat.reduceEqDiff, ↓reduceIte, Nat.zero_add, Nat.le_refl, renSV, renSV1, renC, renC0, renEnt, backUps, List.zip_nil_right, List.zipIdx_nil, List.filterMap_cons, List.filterMap_nil, List.append_nil, List.range_zero, Nat.sub_self]
    simp only [setE_cons, setEs, List.drop_succ_cons, List.drop_zero, List.length_cons, List.length_nil, List.map_cons, List.map_nil, true_and, Nat.reduceAdd, Nat.reduceEqDiff, ↓reduceIte, Nat.zero_add, renC, renC0, List.append_nil, Int.reduceLT, volC, vC, newV, formC]
    repeat refine ⟨by (first | omega | (simp; omega) | (simp; done) | exact ⟨by omega, by omega⟩ | exact ⟨by omega, by simp; omega⟩ | exact ⟨by simp; omega, by simp; omega⟩ | exact ⟨by simp, by simp; omega⟩ | (intro h; rw [h]; rfl) | (intro h; refine ⟨fun h2 => ?_, h⟩; rw [h, h2]; rfl) | (intro h; refine ⟨?_, h⟩; simp [inR] at h; omega) | (intro h; simp [inR] at h; omega) | assumption), ?_⟩
    refine hQ _ _ _ _ _ (RG.nil ?_)
    try simp only [x_seq, x_tn]
    refine aw_reg 3000 (RG.go fun Q hQ => ?_)
    simp only [RX, eff, ev_t, ev_k, lk_cons, lkE_cons, setS_cons, setS_nil, AOp.isCall, setD, setEs, presOf, AOp.needs, SV.one?, SV.pre, gval, binV, unV, idsOf, AOp.rds, AOp.ops, SV.ids, C.ids0, List.take_succ_cons, List.take_zero, List.drop_zero, List.length_cons, List.length_nil, Option.map_some, List.map_nil, List.nil_append, List.cons_append, and_true, true_and, and_self, Bool.and_true, Bool.and_false, Bool.false_eq_true, beq_false, Bool.not_true, implies_true, imp_self, reduceCtorEq, Nat.reduceAdd, Nat.reduceEqDiff, ↓reduceIte, Nat.zero_add, Nat.le_refl, BEq.rfl, List.append_nil, Int.reduceBEq]
    repeat refine ⟨by (first | omega | (simp; omega) | (simp; done) | exact ⟨by omega, by omega⟩ | exact ⟨by omega, by simp; omega⟩ | exact ⟨by simp; omega, by simp; omega⟩ | exact ⟨by simp, by simp; omega⟩ | (intro h; rw [h]; rfl) | (intro h; refine ⟨fun h2 => ?_, h⟩; rw [h, h2]; rfl) | (intro h; refine ⟨?_, h⟩; simp [inR] at h; omega) | (intro h; simp [inR] at h; omega) | assumption), ?_⟩
    refine hQ _ _ _ _ _ ?_
    refine RG.callg _ _ [] rfl (fun hg => ⟨_, cR, tr_cons (tr_opt (by simpa using hg) (tr_agg (by (repeat' (first | exact trivial | rfl | exact rfl | (refine ⟨⟨_, _, rfl⟩, ?_⟩; (first | exact drows_brow _ | exact drows_nrow _ | exact drows_irow _ | exact drows_wrow _ | assumption | (simp [isDRows, brow, C.isD]; done) | (rw [← List.map_append]; first | exact drows_brow _ | exact drows_nrow _ | exact drows_irow _ | exact drows_wrow _))) | (simp; done) | refine ⟨?_, ?_⟩))))) tr_nil, trivial, .inl trivial⟩) ?_
    refine RG.go fun Q hQ => ?_
    simp only [RX, eff, ev_t, ev_k, lk_cons, lkE_cons, setS_cons, setS_nil, AOp.isCall, setD, presOf, AOp.needs, SV.one?, SV.pre, gval, unV, idsOf, AOp.rds, AOp.ops, SV.ids, C.ids0, List.take_succ_cons, List.take_zero, List.drop_zero, List.length_cons, List.length_nil, List.getElem?_cons_zero, List.getElem?_cons_succ, Option.map_some, List.nil_append, List.cons_append, true_and, and_self, Bool.true_and, Bool.and_true, Bool.false_eq_true, beq_true, implies_true, reduceCtorEq, Nat.reduceAdd, Nat.reduceEqDiff, ↓reduceIte, Nat.zero_add, Nat.le_refl, BEq.rfl, List.append_nil]
    repeat refine ⟨by (first | omega | (simp; omega) | (simp; done) | exact ⟨by omega, by omega⟩ | exact ⟨by omega, by simp; omega⟩ | exact ⟨by simp; omega, by simp; omega⟩ | exact ⟨by simp, by simp; omega⟩ | (intro h; rw [h]; rfl) | (intro h; refine ⟨fun h2 => ?_, h⟩; rw [h, h2]; rfl) | (intro h; refine ⟨?_, h⟩; simp [inR] at h; omega) | (intro h; simp [inR] at h; omega) | assumption), ?_⟩
    refine hQ _ _ _ _ _ ?_
    refine RG.callg _ _ [] rfl (fun hg => ⟨_, cL, tr_cons (tr_opt (by simpa using hg) (tr_agg (by (repeat' (first | exact trivial | rfl | exact rfl | (refine ⟨⟨_, _, rfl⟩, ?_⟩; (first | exact drows_brow _ | exact drows_nrow _ | exact drows_irow _ | exact drows_wrow _ | assumption | (simp [isDRows, brow, C.isD]; done) | (rw [← List.map_append]; first | exact drows_brow _ | exact drows_nrow _ | exact drows_irow _ | exact drows_wrow _))) | (simp; done) | refine ⟨?_, ?_⟩))))) tr_nil, trivial, .inl trivial⟩) ?_
    refine RG.go fun Q hQ => ?_
    simp only [RX, eff, ev_t, ev_k, lk_cons, setS_cons, setS_nil, AOp.isCall, setD, setEs, presOf, AOp.needs, SV.one?, SV.pre, gval, binV, idsOf, AOp.rds, AOp.ops, SV.ids, C.ids0, Option.map_some, List.map_nil, List.nil_append, and_true, true_and, and_self, Bool.true_and, Bool.and_true, Bool.false_eq_true, beq_true, implies_true, imp_self, Bool.if_false_right, Bool.decide_eq_true, reduceCtorEq, Nat.reduceAdd, Nat.reduceEqDiff, ↓reduceIte, BEq.rfl, List.append_nil]
    repeat refine ⟨by (first | omega | (simp; omega) | (simp; done) | exact ⟨by omega, by omega⟩ | exact ⟨by omega, by simp; omega⟩ | exact ⟨by simp; omega, by simp; omega⟩ | exact ⟨by simp, by simp; omega⟩ | (intro h; rw [h]; rfl) | (intro h; refine ⟨fun h2 => ?_, h⟩; rw [h, h2]; rfl) | (intro h; refine ⟨?_, h⟩; simp [inR] at h; omega) | (intro h; simp [inR] at h; omega) | assumption), ?_⟩
    refine hQ _ _ _ _ _ (RG.nil ?_)
    try simp only [x_ret, x_tn]
    exact Fin.b (.inr rfl) rfl trivial rfl
  | false =>
    have hn : newR (formC n p k r g) = (zeroV, 23) := by unfold newR; rw [if_neg (by rw [hsh, hfr]; simp)]
    rw [hn] at cN
    refine aw_reg 2700 (RG.go fun Q hQ => ?_)
    simp only [RX, eff, ev_t, lk_cons, lkE_cons, setS_cons, setS_nil, AOp.isCall, setD, setEs, presOf, AOp.needs, SV.one?, SV.pre, idsOf, AOp.rds, AOp.ops, SV.ids, C.ids0, List.take_succ_cons, List.take_zero, List.drop_zero, List.length_cons, List.length_nil, List.map_nil, List.nil_append, List.cons_append, true_and, and_self, Bool.false_eq_true, Nat.reduceAdd, Nat.reduceEqDiff, ↓reduceIte, Nat.zero_add, Nat.le_refl, List.append_nil]
    repeat refine ⟨by (first | omega | (simp; omega) | (simp; done) | exact ⟨by omega, by omega⟩ | exact ⟨by omega, by simp; omega⟩ | exact ⟨by simp; omega, by simp; omega⟩ | exact ⟨by simp, by simp; omega⟩ | (intro h; rw [h]; rfl) | (intro h; refine ⟨fun h2 => ?_, h⟩; rw [h, h2]; rfl) | (intro h; refine ⟨?_, h⟩; simp [inR] at h; omega) | (intro h; simp [inR] at h; omega) | assumption), ?_⟩
    refine hQ _ _ _ _ _ ?_
    refine RG.callo [] [5000] (cN) (.mk (by (repeat' (first | exact tr_nil | refine tr_cons ?_ ?_ | exact tr_v | exact tr_sl | exact tr_nils | exact tr_agg (by (repeat' (first | exact trivial | rfl | exact rfl | (refine ⟨by simp, _, _, _, rfl, ?_⟩; (first | exact drows_brow _ | exact drows_nrow _ | exact drows_irow _ | exact drows_wrow _ | assumption | (simp [isDRows, brow, C.isD]; done) | (rw [← List.map_append]; first | exact drows_brow _ | exact drows_nrow _ | exact drows_irow _ | exact drows_wrow _))) | refine ⟨?_, ?_⟩))) | exact tr_view (by simp) rfl (by (first | exact drows_brow _ | exact drows_nrow _ | exact drows_irow _ | exact drows_wrow _ | assumption | (simp [isDRows, brow, C.isD]; done) | (rw [← List.map_append]; first | exact drows_brow _ | exact drows_nrow _ | exact drows_irow _ | exact drows_wrow _)))))) (by first | trivial | (simp only [Int.cast_ofNat_Int, setEs, setE_cons, setE_nil, TrL, TrSV, TrC, TrC0, TrEnt, Views, Frozen, lk_cons, lk_nil, lkE_cons, lkE_nil, ev_t, ev_k, List.map_cons, List.map_nil, List.getElem?_cons_zero, List.getElem?_cons_succ, List.getElem?_nil, List.mem_cons, List.not_mem_nil, or_false, false_or, or_true, true_or, Nat.reduceEqDiff, Nat.reduceAdd, ↓reduceIte, if_true, if_false, reduceCtorEq, true_and, and_true, and_self, exists_eq_left, exists_eq_left', ne_eq, not_false_eq_true, Option.some.injEq, Ent.arr.injEq, Ent.box.injEq, List.length_cons, List.length_nil, isDRows, List.append_nil, List.nil_append]; done) | (simp only [Int.cast_ofNat_Int, setEs, setE_cons, setE_nil, TrL, TrSV, TrC, TrC0, TrEnt, Views, Frozen, lk_cons, lk_nil, lkE_cons, lkE_nil, ev_t, ev_k, List.map_cons, List.map_nil, List.getElem?_cons_zero, List.getElem?_cons_succ, List.getElem?_nil, List.mem_cons, List.not_mem_nil, or_false, false_or, or_true, true_or, Nat.reduceEqDiff, Nat.reduceAdd, ↓reduceIte, if_true, if_false, reduceCtorEq, true_and, and_true, and_self, exists_eq_left, exists_eq_left', ne_eq, not_false_eq_true, Option.some.injEq, Ent.arr.injEq, Ent.box.injEq, List.length_cons, List.length_nil, isDRows, List.append_nil, List.nil_append]; trivial) | (simp only [Int.cast_ofNat_Int, setEs, setE_cons, setE_nil, TrL, TrSV, TrC, TrC0, TrEnt, Views, Frozen, lk_cons, lk_nil, lkE_cons, lkE_nil, ev_t, ev_k, List.map_cons, List.map_nil, List.getElem?_cons_zero, List.getElem?_cons_succ, List.getElem?_nil, List.mem_cons, List.not_mem_nil, or_false, false_or, or_true, true_or, Nat.reduceEqDiff, Nat.reduceAdd, ↓reduceIte, if_true, if_false, reduceCtorEq, true_and, and_true, and_self, exists_eq_left, exists_eq_left', ne_eq, not_false_eq_true, Option.some.injEq, Ent.arr.injEq, Ent.box.injEq, List.length_cons, List.length_nil, isDRows, List.append_nil, List.nil_append]; repeat' (first | (first | exact drows_brow _ | exact drows_nrow _ | exact drows_irow _ | exact drows_wrow _ | assumption | (simp [isDRows, brow, C.isD]; done) | (rw [← List.map_append]; first | exact drows_brow _ | exact drows_nrow _ | exact drows_irow _ | exact drows_wrow _)) | refine ⟨?_, ?_⟩))) (by simp) (by simp) (views1 rfl trivial) (by first | (simp [lkE_cons, lkE_nil]; done) | (intro j hj; simp at hj; simp only [setEs, setE_cons, setE_nil, lkE_cons, lkE_nil]; repeat rw [if_neg (by omega)])) (by first | (simp [Ent.pure]; done) | (simp [Ent.pure]; repeat' (first | (first | exact drows_brow _ | exact drows_nrow _ | exact drows_irow _ | exact drows_wrow _ | assumption | (simp [isDRows, brow, C.isD]; done) | (rw [← List.map_append]; first | exact drows_brow _ | exact drows_nrow _ | exact drows_irow _ | exact drows_wrow _)) | refine ⟨?_, ?_⟩))) (by simp) (by simp)) ?_
    refine RG.go fun Q hQ => ?_
    simp only [RX, eff, ev_t, lk_cons, lkE_cons, lkE_nil, setS_cons, setS_nil, setE_cons, setE_nil, AOp.isCall, setD, setEs, presOf, AOp.needs, SV.one?, SV.pre, SV.core, SV.cells, idsOf, AOp.rds, AOp.ops, SV.ids, C.ids0, splice, List.take_zero, List.drop_zero, List.length_cons, List.length_nil, List.getElem?_cons_zero, List.getElem?_cons_succ, Option.map_some, List.map_cons, List.map_nil, List.nil_append, List.cons_append, and_true, true_and, and_self, Bool.false_eq_true, Nat.reduceAdd, Nat.reduceEqDiff, ↓reduceIte, Nat.zero_add, Nat.le_refl, renSV, renSV1, renC, renC0, renEnt, backUps, List.zip_nil_right, List.zipIdx_nil, List.filterMap_cons, List.filterMap_nil, List.append_nil, List.range_zero, Nat.sub_self]
    simp only [setE_cons, setEs, List.drop_succ_cons, List.drop_zero, List.length_cons, List.length_nil, List.map_cons, List.map_nil, true_and, Nat.reduceAdd, Nat.reduceEqDiff, ↓reduceIte, Nat.zero_add, renC, renC0, List.append_nil, volC, vC, zeroV]
    repeat refine ⟨by (first | omega | (simp; omega) | (simp; done) | exact ⟨by omega, by omega⟩ | exact ⟨by omega, by simp; omega⟩ | exact ⟨by simp; omega, by simp; omega⟩ | exact ⟨by simp, by simp; omega⟩ | (intro h; rw [h]; rfl) | (intro h; refine ⟨fun h2 => ?_, h⟩; rw [h, h2]; rfl) | (intro h; refine ⟨?_, h⟩; simp [inR] at h; omega) | (intro h; simp [inR] at h; omega) | assumption), ?_⟩
    refine hQ _ _ _ _ _ (RG.nil ?_)
    try simp only [x_seq, x_tn]
    refine aw_reg 3000 (RG.go fun Q hQ => ?_)
    simp only [RX, eff, ev_t, ev_k, lk_cons, lkE_cons, setS_cons, setS_nil, AOp.isCall, setD, setEs, presOf, AOp.needs, SV.one?, SV.pre, gval, binV, unV, idsOf, AOp.rds, AOp.ops, SV.ids, C.ids0, List.take_succ_cons, List.take_zero, List.drop_zero, List.length_cons, List.length_nil, Option.map_some, List.map_nil, List.nil_append, List.cons_append, true_and, and_self, Bool.and_true, Bool.and_false, Bool.false_eq_true, beq_false, Bool.not_true, Bool.not_false, implies_true, reduceCtorEq, Nat.reduceAdd, Nat.reduceEqDiff, ↓reduceIte, Nat.zero_add, Nat.le_refl, BEq.rfl, List.append_nil, Int.reduceBEq]
    repeat refine ⟨by (first | omega | (simp; omega) | (simp; done) | exact ⟨by omega, by omega⟩ | exact ⟨by omega, by simp; omega⟩ | exact ⟨by simp; omega, by simp; omega⟩ | exact ⟨by simp, by simp; omega⟩ | (intro h; rw [h]; rfl) | (intro h; refine ⟨fun h2 => ?_, h⟩; rw [h, h2]; rfl) | (intro h; refine ⟨?_, h⟩; simp [inR] at h; omega) | (intro h; simp [inR] at h; omega) | assumption), ?_⟩
    refine hQ _ _ _ _ _ ?_
    refine RG.callg (res := B true) _ _ [] rfl (fun hg => by simp at hg) ?_
    refine RG.go fun Q hQ => ?_
    simp only [RX, eff, ev_t, ev_k, lk_cons, lkE_cons, setS_cons, setS_nil, AOp.isCall, setD, presOf, AOp.needs, SV.one?, SV.pre, gval, unV, idsOf, AOp.rds, AOp.ops, SV.ids, C.ids0, List.take_succ_cons, List.take_zero, List.drop_zero, List.length_cons, List.length_nil, List.getElem?_cons_zero, List.getElem?_cons_succ, Option.map_some, List.nil_append, List.cons_append, and_true, true_and, and_self, Bool.and_true, Bool.and_false, Bool.false_eq_true, beq_false, Bool.not_true, Bool.not_false, implies_true, imp_self, true_implies, reduceCtorEq, Nat.reduceAdd, Nat.reduceEqDiff, ↓reduceIte, Nat.zero_add, Nat.le_refl, BEq.rfl, List.append_nil]
    repeat refine ⟨by (first | omega | (simp; omega) | (simp; done) | exact ⟨by omega, by omega⟩ | exact ⟨by omega, by simp; omega⟩ | exact ⟨by simp; omega, by simp; omega⟩ | exact ⟨by simp, by simp; omega⟩ | (intro h; rw [h]; rfl) | (intro h; refine ⟨fun h2 => ?_, h⟩; rw [h, h2]; rfl) | (intro h; refine ⟨?_, h⟩; simp [inR] at h; omega) | (intro h; simp [inR] at h; omega) | assumption), ?_⟩
    refine hQ _ _ _ _ _ ?_
    refine RG.callg (res := B true) _ _ [] rfl (fun hg => by simp at hg) ?_
    refine RG.go fun Q hQ => ?_
    simp only [RX, eff, ev_t, ev_k, lk_cons, setS_cons, setS_nil, AOp.isCall, setD, setEs, presOf, AOp.needs, SV.one?, SV.pre, gval, binV, idsOf, AOp.rds, AOp.ops, SV.ids, C.ids0, Option.map_none, List.map_nil, List.nil_append, and_true, true_and, and_self, Bool.and_true, Bool.and_false, Bool.false_eq_true, beq_false, Bool.not_true, implies_true, imp_self, true_implies, reduceCtorEq, Nat.reduceAdd, Nat.reduceEqDiff, ↓reduceIte, BEq.rfl, List.append_nil]
    repeat refine ⟨by (first | omega | (simp; omega) | (simp; done) | exact ⟨by omega, by omega⟩ | exact ⟨by omega, by simp; omega⟩ | exact ⟨by simp; omega, by simp; omega⟩ | exact ⟨by simp, by simp; omega⟩ | (intro h; rw [h]; rfl) | (intro h; refine ⟨fun h2 => ?_, h⟩; rw [h, h2]; rfl) | (intro h; refine ⟨?_, h⟩; simp [inR] at h; omega) | (intro h; simp [inR] at h; omega) | assumption), ?_⟩
    refine hQ _ _ _ _ _ (RG.nil ?_)
    try simp only [x_ret, x_tn]
    exact Fin.b (.inr rfl) rfl trivial rfl

end Go.Abs

