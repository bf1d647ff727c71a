/- What the functions that the law comes to do, part 3. No condition. -/
import Derived.Test.YtnpiigcmedmifaaConb
set_option linter.unusedVariables false
set_option linter.unusedSimpArgs false
set_option linter.unnecessarySimpa false
namespace Go.Abs
open Go Go.Proofs
set_option maxRecDepth 100000
set_option linter.unusedSimpArgs false
set_option maxHeartbeats 4000000

theorem timeE_of {f t m : Int} : timeE f t m = 0 ↔ f ≤ t ∧ t ≤ m := by unfold timeE; split; omega; split <;> omega

theorem Do_hid3 (v : VOL) (c : CMD) (ok : Vok v) (hk : c.kind = 3) (h : v.hid = true) : Con Try.prog 18 [.agg (volC v), .agg (cmdC c)] [] (doR (fail v 28)) [] := by
  have k2 : (c.kind == 2) = false := by rw [hk]; rfl
  have k3 : (c.kind == 3) = true := by rw [hk]; rfl
  have k4 : (c.kind == 4) = false := by rw [hk]; rfl
  have k5 : (c.kind == 5) = false := by rw [hk]; rfl
  have k6 : (c.kind == 6) = false := by rw [hk]; rfl
  have k7 : (c.kind == 7) = false := by rw [hk]; rfl
  have k8 : (c.kind == 8) = false := by rw [hk]; rfl
  refine C_volume_Do (Nat.le_of_ble_eq_true rfl) (Nat.le_of_ble_eq_true rfl) ?_
  simp only [A_volume_Do, argL, objL, List.length_nil, Nat.zero_add, zX]
  refine aw_reg 16 (RG.go fun Q hQ => ?_)
  simp (disch := first | (intros; contradiction) | omega | (simp only [zN]; omega)) only [zS, reduceCtorEq, Nat.reduceAdd, Nat.reduceEqDiff, ↓reduceIte, vC_eq, cmdC, cC]
  refine hQ _ _ _ _ _ (RG.nil ?_)
  try simp only [zX]
  refine aw_reg 112 (RG.go fun Q hQ => ?_)
  simp (disch := first | (intros; contradiction) | omega | (simp only [zN]; omega)) only [zS, reduceCtorEq, Nat.reduceAdd, Nat.reduceEqDiff, ↓reduceIte]
  refine hQ _ _ _ _ _ ?_
  refine RG.callo [] [] (volume_copied_con v ok) (.mk (by (repeat' (first | exact tr_nil | refine tr_cons ?_ ?_ | exact tr_agg (by repeat' (first | exact trivial | rfl | refine ⟨?_, ?_⟩))))) (by first | trivial | (simp only [zT, Nat.reduceEqDiff, Nat.reduceAdd, ↓reduceIte, reduceCtorEq]; done) | (simp only [zT, Nat.reduceEqDiff, Nat.reduceAdd, ↓reduceIte, reduceCtorEq]; trivial) | (simp only [zT, Nat.reduceEqDiff, Nat.reduceAdd, ↓reduceIte, reduceCtorEq]; repeat' (fail))) (by simp) (by simp) (trivial) (by first | (simp [lkE_cons, lkE_nil]; done) | (intro j hj; simp at hj; simp only [lkE_cons, lkE_nil]; repeat rw [if_neg (by omega)])) (by first | (simp [Ent.pure]; done) | (simp [Ent.pure]; repeat' (first | (first | exact drows_nrow _ | exact drows_wrow _) | refine ⟨?_, ?_⟩))) (by simp) (by simp)) ?_
  refine RG.go fun Q hQ => ?_
  simp (disch := first | (intros; contradiction) | omega | (simp only [zN]; omega)) only [zS, reduceCtorEq, Nat.reduceAdd, Nat.reduceEqDiff, ↓reduceIte]
  refine hQ _ _ _ _ _ (RG.nil ?_)
  try simp only [zX]
  refine aw_reg 224 (RG.go fun Q hQ => ?_)
  simp (disch := first | (intros; contradiction) | omega | (simp only [zN]; omega)) only [zS, reduceCtorEq, Nat.reduceAdd, Nat.reduceEqDiff, ↓reduceIte]
  refine hQ _ _ _ _ _ ?_
  refine RG.callo [] [] (volume_copied_con v ok) (.mk (by (repeat' (first | exact tr_nil | refine tr_cons ?_ ?_ | exact tr_agg (by repeat' (first | exact trivial | rfl | refine ⟨?_, ?_⟩))))) (by first | trivial | (simp only [zT, Nat.reduceEqDiff, Nat.reduceAdd, ↓reduceIte, reduceCtorEq]; done) | (simp only [zT, Nat.reduceEqDiff, Nat.reduceAdd, ↓reduceIte, reduceCtorEq]; trivial) | (simp only [zT, Nat.reduceEqDiff, Nat.reduceAdd, ↓reduceIte, reduceCtorEq]; repeat' (fail))) (by simp) (by simp) (trivial) (by first | (simp [lkE_cons, lkE_nil]; done) | (intro j hj; simp at hj; simp only [lkE_cons, lkE_nil]; repeat rw [if_neg (by omega)])) (by first | (simp [Ent.pure]; done) | (simp [Ent.pure]; repeat' (first | (first | exact drows_nrow _ | exact drows_wrow _) | refine ⟨?_, ?_⟩))) (by simp) (by simp)) ?_
  refine RG.go fun Q hQ => ?_
  simp (disch := first | (intros; contradiction) | omega | (simp only [zN]; omega)) only [zS, reduceCtorEq, Nat.reduceAdd, Nat.reduceEqDiff, ↓reduceIte]
  refine hQ _ _ _ _ _ (RG.nil ?_)
  try simp only [zX]
  refine aw_reg 304 (RG.go fun Q hQ => ?_)
  simp (disch := first | (intros; contradiction) | omega | (simp only [zN]; omega)) only [zS, reduceCtorEq, Nat.reduceAdd, Nat.reduceEqDiff, ↓reduceIte]
  refine hQ _ _ _ _ _ (RG.nil ?_)
  try simp only [zX]
  refine aw_reg 368 (RG.go fun Q hQ => ?_)
  simp (disch := first | (intros; contradiction) | omega | (simp only [zN]; omega)) only [zS, reduceCtorEq, Nat.reduceAdd, Nat.reduceEqDiff, ↓reduceIte, k2]
  refine hQ _ _ _ _ _ (RG.nil ?_)
  try simp only [zX]
  refine aw_cond _ rfl trivial (fun ht => by cases ht) (fun hf => ?_)
  try simp only [zX]
  refine aw_reg 432 (RG.go fun Q hQ => ?_)
  simp (disch := first | (intros; contradiction) | omega | (simp only [zN]; omega)) only [zS, reduceCtorEq, Nat.reduceAdd, Nat.reduceEqDiff, ↓reduceIte, k3]
  refine hQ _ _ _ _ _ (RG.nil ?_)
  try simp only [zX]
  refine aw_cond _ rfl trivial (fun ht => ?_) (fun hf => by cases hf)
  try simp only [zX]
  refine aw_cond _ rfl trivial (fun ht => ?_) (fun hf => by cases hf)
  try simp only [zX, Nat.reduceEqDiff, ↓reduceIte, reduceCtorEq]
  refine aw_reg 496 (RG.go fun Q hQ => ?_)
  simp (disch := first | (intros; contradiction) | omega | (simp only [zN]; omega)) only [zS, reduceCtorEq, Nat.reduceAdd, Nat.reduceEqDiff, ↓reduceIte]
  refine hQ _ _ _ _ _ ?_
  refine RG.callo [240, 241] [] (pins_hid v c h) (.mk (by (repeat' (first | exact tr_nil | refine tr_cons ?_ ?_ | exact tr_agg (by repeat' (first | exact trivial | rfl | refine ⟨?_, ?_⟩))))) (by first | trivial | (simp only [zT, Nat.reduceEqDiff, ↓reduceIte]; done) | (simp only [zT, Nat.reduceEqDiff, ↓reduceIte]; trivial) | (simp only [zT, Nat.reduceEqDiff, ↓reduceIte]; repeat' (first | (first | exact drows_nrow _ | exact drows_wrow _) | refine ⟨?_, ?_⟩))) (by simp) (by simp) (trivial) (by first | (simp [lkE_cons, lkE_nil]; done) | (intro j hj; simp at hj; simp only [setEs, setE_cons, setE_nil, lkE_cons, lkE_nil]; repeat rw [if_neg (by omega)])) (by first | (simp [Ent.pure]; done) | (simp [Ent.pure]; repeat' (first | (first | exact drows_nrow _ | exact drows_wrow _) | refine ⟨?_, ?_⟩))) (by simp) (by simp)) ?_
  refine RG.go fun Q hQ => ?_
  simp (disch := first | (intros; contradiction) | omega | (simp only [zN]; omega)) only [zS, reduceCtorEq, Nat.reduceAdd, Nat.reduceEqDiff, ↓reduceIte, vO_eq]
  refine hQ _ _ _ _ _ (RG.nil ?_)
  try simp only [zX]
  refine aw_reg 656 (RG.go fun Q hQ => ?_)
  simp (disch := first | (intros; contradiction) | omega | (simp only [zN]; omega)) only [zS, reduceCtorEq, Nat.reduceAdd, Nat.reduceEqDiff, ↓reduceIte, Int.reduceBNe]
  refine hQ _ _ _ _ _ (RG.nil ?_)
  try simp only [zX]
  refine aw_cond _ rfl trivial (fun ht => ?_) (fun hf => by cases hf)
  try simp only [zX]
  refine aw_reg 720 (RG.go fun Q hQ => ?_)
  simp (disch := first | (intros; contradiction) | omega | (simp only [zN]; omega)) only [zS, reduceCtorEq, Nat.reduceAdd, Nat.reduceEqDiff, Nat.reduceLeDiff, ↓reduceIte]
  refine hQ _ _ _ _ _ (RG.nil ?_)
  try simp only [zX]
  refine Fin.data [128, 129] (.inr rfl) rfl (by (exact ⟨trivial, trivial, trivial⟩)) ?_
  simp only [zL, Nat.reduceEqDiff, ↓reduceIte]
  all_goals ((repeat' (first | exact trivial | rfl | (refine ⟨⟨_, _, rfl⟩, ?_⟩; (first | exact drows_nrow _ | exact drows_wrow _)) | refine ⟨?_, ?_⟩)))

theorem Do_hid4 (v : VOL) (c : CMD) (ok : Vok v) (hk : c.kind = 4) (h : v.hid = true) : Con Try.prog 18 [.agg (volC v), .agg (cmdC c)] [] (doR (fail v 28)) [] := by
  have k2 : (c.kind == 2) = false := by rw [hk]; rfl
  have k3 : (c.kind == 3) = false := by rw [hk]; rfl
  have k4 : (c.kind == 4) = true := by rw [hk]; rfl
  have k5 : (c.kind == 5) = false := by rw [hk]; rfl
  have k6 : (c.kind == 6) = false := by rw [hk]; rfl
  have k7 : (c.kind == 7) = false := by rw [hk]; rfl
  have k8 : (c.kind == 8) = false := by rw [hk]; rfl
  refine C_volume_Do (Nat.le_of_ble_eq_true rfl) (Nat.le_of_ble_eq_true rfl) ?_
  simp only [A_volume_Do, argL, objL, List.length_nil, Nat.zero_add, zX]
  refine aw_reg 16 (RG.go fun Q hQ => ?_)
  simp (disch := first | (intros; contradiction) | omega | (simp only [zN]; omega)) only [zS, reduceCtorEq, Nat.reduceAdd, Nat.reduceEqDiff, ↓reduceIte, vC_eq, cmdC, cC]
  refine hQ _ _ _ _ _ (RG.nil ?_)
  try simp only [zX]
  refine aw_reg 112 (RG.go fun Q hQ => ?_)
  simp (disch := first | (intros; contradiction) | omega | (simp only [zN]; omega)) only [zS, reduceCtorEq, Nat.reduceAdd, Nat.reduceEqDiff, ↓reduceIte]
  refine hQ _ _ _ _ _ ?_
  refine RG.callo [] [] (volume_copied_con v ok) (.mk (by (repeat' (first | exact tr_nil | refine tr_cons ?_ ?_ | exact tr_agg (by repeat' (first | exact trivial | rfl | refine ⟨?_, ?_⟩))))) (by first | trivial | (simp only [zT, Nat.reduceEqDiff, Nat.reduceAdd, ↓reduceIte, reduceCtorEq]; done) | (simp only [zT, Nat.reduceEqDiff, Nat.reduceAdd, ↓reduceIte, reduceCtorEq]; trivial) | (simp only [zT, Nat.reduceEqDiff, Nat.reduceAdd, ↓reduceIte, reduceCtorEq]; repeat' (fail))) (by simp) (by simp) (trivial) (by first | (simp [lkE_cons, lkE_nil]; done) | (intro j hj; simp at hj; simp only [lkE_cons, lkE_nil]; repeat rw [if_neg (by omega)])) (by first | (simp [Ent.pure]; done) | (simp [Ent.pure]; repeat' (first | (first | exact drows_nrow _ | exact drows_wrow _) | refine ⟨?_, ?_⟩))) (by simp) (by simp)) ?_
  refine RG.go fun Q hQ => ?_
  simp (disch := first | (intros; contradiction) | omega | (simp only [zN]; omega)) only [zS, reduceCtorEq, Nat.reduceAdd, Nat.reduceEqDiff, ↓reduceIte]
  refine hQ _ _ _ _ _ (RG.nil ?_)
  try simp only [zX]
  refine aw_reg 224 (RG.go fun Q hQ => ?_)
  simp (disch := first | (intros; contradiction) | omega | (simp only [zN]; omega)) only [zS, reduceCtorEq, Nat.reduceAdd, Nat.reduceEqDiff, ↓reduceIte]
  refine hQ _ _ _ _ _ ?_
  refine RG.callo [] [] (volume_copied_con v ok) (.mk (by (repeat' (first | exact tr_nil | refine tr_cons ?_ ?_ | exact tr_agg (by repeat' (first | exact trivial | rfl | refine ⟨?_, ?_⟩))))) (by first | trivial | (simp only [zT, Nat.reduceEqDiff, Nat.reduceAdd, ↓reduceIte, reduceCtorEq]; done) | (simp only [zT, Nat.reduceEqDiff, Nat.reduceAdd, ↓reduceIte, reduceCtorEq]; trivial) | (simp only [zT, Nat.reduceEqDiff, Nat.reduceAdd, ↓reduceIte, reduceCtorEq]; repeat' (fail))) (by simp) (by simp) (trivial) (by first | (simp [lkE_cons, lkE_nil]; done) | (intro j hj; simp at hj; simp only [lkE_cons, lkE_nil]; repeat rw [if_neg (by omega)])) (by first | (simp [Ent.pure]; done) | (simp [Ent.pure]; repeat' (first | (first | exact drows_nrow _ | exact drows_wrow _) | refine ⟨?_, ?_⟩))) (by simp) (by simp)) ?_
  refine RG.go fun Q hQ => ?_
  simp (disch := first | (intros; contradiction) | omega | (simp only [zN]; omega)) only [zS, reduceCtorEq, Nat.reduceAdd, Nat.reduceEqDiff, ↓reduceIte]
  refine hQ _ _ _ _ _ (RG.nil ?_)
  try simp only [zX]
  refine aw_reg 304 (RG.go fun Q hQ => ?_)
  simp (disch := first | (intros; contradiction) | omega | (simp only [zN]; omega)) only [zS, reduceCtorEq, Nat.reduceAdd, Nat.reduceEqDiff, ↓reduceIte]
  refine hQ _ _ _ _ _ (RG.nil ?_)
  try simp only [zX]
  refine aw_reg 368 (RG.go fun Q hQ => ?_)
  simp (disch := first | (intros; contradiction) | omega | (simp only [zN]; omega)) only [zS, reduceCtorEq, Nat.reduceAdd, Nat.reduceEqDiff, ↓reduceIte, k2]
  refine hQ _ _ _ _ _ (RG.nil ?_)
  try simp only [zX]
  refine aw_cond _ rfl trivial (fun ht => by cases ht) (fun hf => ?_)
  try simp only [zX]
  refine aw_reg 432 (RG.go fun Q hQ => ?_)
  simp (disch := first | (intros; contradiction) | omega | (simp only [zN]; omega)) only [zS, reduceCtorEq, Nat.reduceAdd, Nat.reduceEqDiff, ↓reduceIte, k3]
  refine hQ _ _ _ _ _ (RG.nil ?_)
  try simp only [zX]
  refine aw_cond _ rfl trivial (fun ht => by cases ht) (fun hf => ?_)
  try simp only [zX]
  refine aw_reg 496 (RG.go fun Q hQ => ?_)
  simp (disch := first | (intros; contradiction) | omega | (simp only [zN]; omega)) only [zS, reduceCtorEq, Nat.reduceAdd, Nat.reduceEqDiff, ↓reduceIte, k4]
  refine hQ _ _ _ _ _ (RG.nil ?_)
  try simp only [zX]
  refine aw_cond _ rfl trivial (fun ht => ?_) (fun hf => by cases hf)
  try simp only [zX]
  refine aw_cond _ rfl trivial (fun ht => ?_) (fun hf => by cases hf)
  try simp only [zX, Nat.reduceEqDiff, ↓reduceIte, reduceCtorEq]
  refine aw_reg 560 (RG.go fun Q hQ => ?_)
  simp (disch := first | (intros; contradiction) | omega | (simp only [zN]; omega)) only [zS, reduceCtorEq, Nat.reduceAdd, Nat.reduceEqDiff, ↓reduceIte]
  refine hQ _ _ _ _ _ ?_
  refine RG.callo [240, 241] [] (pins_hid v c h) (.mk (by (repeat' (first | exact tr_nil | refine tr_cons ?_ ?_ | exact tr_agg (by repeat' (first | exact trivial | rfl | refine ⟨?_, ?_⟩))))) (by first | trivial | (simp only [zT, Nat.reduceEqDiff, ↓reduceIte]; done) | (simp only [zT, Nat.reduceEqDiff, ↓reduceIte]; trivial) | (simp only [zT, Nat.reduceEqDiff, ↓reduceIte]; repeat' (first | (first | exact drows_nrow _ | exact drows_wrow _) | refine ⟨?_, ?_⟩))) (by simp) (by simp) (trivial) (by first | (simp [lkE_cons, lkE_nil]; done) | (intro j hj; simp at hj; simp only [setEs, setE_cons, setE_nil, lkE_cons, lkE_nil]; repeat rw [if_neg (by omega)])) (by first | (simp [Ent.pure]; done) | (simp [Ent.pure]; repeat' (first | (first | exact drows_nrow _ | exact drows_wrow _) | refine ⟨?_, ?_⟩))) (by simp) (by simp)) ?_
  refine RG.go fun Q hQ => ?_
  simp (disch := first | (intros; contradiction) | omega | (simp only [zN]; omega)) only [zS, reduceCtorEq, Nat.reduceAdd, Nat.reduceEqDiff, ↓reduceIte, vO_eq]
  refine hQ _ _ _ _ _ (RG.nil ?_)
  try simp only [zX]
  refine aw_reg 720 (RG.go fun Q hQ => ?_)
  simp (disch := first | (intros; contradiction) | omega | (simp only [zN]; omega)) only [zS, reduceCtorEq, Nat.reduceAdd, Nat.reduceEqDiff, ↓reduceIte, Int.reduceBNe]
  refine hQ _ _ _ _ _ (RG.nil ?_)
  try simp only [zX]
  refine aw_cond _ rfl trivial (fun ht => ?_) (fun hf => by cases hf)
  try simp only [zX]
  refine aw_reg 784 (RG.go fun Q hQ => ?_)
  simp (disch := first | (intros; contradiction) | omega | (simp only [zN]; omega)) only [zS, reduceCtorEq, Nat.reduceAdd, Nat.reduceEqDiff, Nat.reduceLeDiff, ↓reduceIte]
  refine hQ _ _ _ _ _ (RG.nil ?_)
  try simp only [zX]
  refine Fin.data [128, 129] (.inr rfl) rfl (by (exact ⟨trivial, trivial, trivial⟩)) ?_
  simp only [zL, Nat.reduceEqDiff, ↓reduceIte]
  all_goals ((repeat' (first | exact trivial | rfl | (refine ⟨⟨_, _, rfl⟩, ?_⟩; (first | exact drows_nrow _ | exact drows_wrow _)) | refine ⟨?_, ?_⟩)))

theorem Do_hid5 (v : VOL) (c : CMD) (ok : Vok v) (hk : c.kind = 5) (h : v.hid = true) : Con Try.prog 18 [.agg (volC v), .agg (cmdC c)] [] (doR (fail v 28)) [] := by
  have k2 : (c.kind == 2) = false := by rw [hk]; rfl
  have k3 : (c.kind == 3) = false := by rw [hk]; rfl
  have k4 : (c.kind == 4) = false := by rw [hk]; rfl
  have k5 : (c.kind == 5) = true := by rw [hk]; rfl
  have k6 : (c.kind == 6) = false := by rw [hk]; rfl
  have k7 : (c.kind == 7) = false := by rw [hk]; rfl
  have k8 : (c.kind == 8) = false := by rw [hk]; rfl
  refine C_volume_Do (Nat.le_of_ble_eq_true rfl) (Nat.le_of_ble_eq_true rfl) ?_
  simp only [A_volume_Do, argL, objL, List.length_nil, Nat.zero_add, zX]
  refine aw_reg 16 (RG.go fun Q hQ => ?_)
  simp (disch := first | (intros; contradiction) | omega | (simp only [zN]; omega)) only [zS, reduceCtorEq, Nat.reduceAdd, Nat.reduceEqDiff, ↓reduceIte, vC_eq, cmdC, cC]
  refine hQ _ _ _ _ _ (RG.nil ?_)
  try simp only [zX]
  refine aw_reg 112 (RG.go fun Q hQ => ?_)
  simp (disch := first | (intros; contradiction) | omega | (simp only [zN]; omega)) only [zS, reduceCtorEq, Nat.reduceAdd, Nat.reduceEqDiff, ↓reduceIte]
  refine hQ _ _ _ _ _ ?_
  refine RG.callo [] [] (volume_copied_con v ok) (.mk (by (repeat' (first | exact tr_nil | refine tr_cons ?_ ?_ | exact tr_agg (by repeat' (first | exact trivial | rfl | refine ⟨?_, ?_⟩))))) (by first | trivial | (simp only [zT, Nat.reduceEqDiff, Nat.reduceAdd, ↓reduceIte, reduceCtorEq]; done) | (simp only [zT, Nat.reduceEqDiff, Nat.reduceAdd, ↓reduceIte, reduceCtorEq]; trivial) | (simp only [zT, Nat.reduceEqDiff, Nat.reduceAdd, ↓reduceIte, reduceCtorEq]; repeat' (fail))) (by simp) (by simp) (trivial) (by first | (simp [lkE_cons, lkE_nil]; done) | (intro j hj; simp at hj; simp only [lkE_cons, lkE_nil]; repeat rw [if_neg (by omega)])) (by first | (simp [Ent.pure]; done) | (simp [Ent.pure]; repeat' (first | (first | exact drows_nrow _ | exact drows_wrow _) | refine ⟨?_, ?_⟩))) (by simp) (by simp)) ?_
  refine RG.go fun Q hQ => ?_
  simp (disch := first | (intros; contradiction) | omega | (simp only [zN]; omega)) only [zS, reduceCtorEq, Nat.reduceAdd, Nat.reduceEqDiff, ↓reduceIte]
  refine hQ _ _ _ _ _ (RG.nil ?_)
  try simp only [zX]
  refine aw_reg 224 (RG.go fun Q hQ => ?_)
  simp (disch := first | (intros; contradiction) | omega | (simp only [zN]; omega)) only [zS, reduceCtorEq, Nat.reduceAdd, Nat.reduceEqDiff, ↓reduceIte]
  refine hQ _ _ _ _ _ ?_
  refine RG.callo [] [] (volume_copied_con v ok) (.mk (by (repeat' (first | exact tr_nil | refine tr_cons ?_ ?_ | exact tr_agg (by repeat' (first | exact trivial | rfl | refine ⟨?_, ?_⟩))))) (by first | trivial | (simp only [zT, Nat.reduceEqDiff, Nat.reduceAdd, ↓reduceIte, reduceCtorEq]; done) | (simp only [zT, Nat.reduceEqDiff, Nat.reduceAdd, ↓reduceIte, reduceCtorEq]; trivial) | (simp only [zT, Nat.reduceEqDiff, Nat.reduceAdd, ↓reduceIte, reduceCtorEq]; repeat' (fail))) (by simp) (by simp) (trivial) (by first | (simp [lkE_cons, lkE_nil]; done) | (intro j hj; simp at hj; simp only [lkE_cons, lkE_nil]; repeat rw [if_neg (by omega)])) (by first | (simp [Ent.pure]; done) | (simp [Ent.pure]; repeat' (first | (first | exact drows_nrow _ | exact drows_wrow _) | refine ⟨?_, ?_⟩))) (by simp) (by simp)) ?_
  refine RG.go fun Q hQ => ?_
  simp (disch := first | (intros; contradiction) | omega | (simp only [zN]; omega)) only [zS, reduceCtorEq, Nat.reduceAdd, Nat.reduceEqDiff, ↓reduceIte]
  refine hQ _ _ _ _ _ (RG.nil ?_)
  try simp only [zX]
  refine aw_reg 304 (RG.go fun Q hQ => ?_)
  simp (disch := first | (intros; contradiction) | omega | (simp only [zN]; omega)) only [zS, reduceCtorEq, Nat.reduceAdd, Nat.reduceEqDiff, ↓reduceIte]
  refine hQ _ _ _ _ _ (RG.nil ?_)
  try simp only [zX]
  refine aw_reg 368 (RG.go fun Q hQ => ?_)
  simp (disch := first | (intros; contradiction) | omega | (simp only [zN]; omega)) only [zS, reduceCtorEq, Nat.reduceAdd, Nat.reduceEqDiff, ↓reduceIte, k2]
  refine hQ _ _ _ _ _ (RG.nil ?_)
  try simp only [zX]
  refine aw_cond _ rfl trivial (fun ht => by cases ht) (fun hf => ?_)
  try simp only [zX]
  refine aw_reg 432 (RG.go fun Q hQ => ?_)
  simp (disch := first | (intros; contradiction) | omega | (simp only [zN]; omega)) only [zS, reduceCtorEq, Nat.reduceAdd, Nat.reduceEqDiff, ↓reduceIte, k3]
  refine hQ _ _ _ _ _ (RG.nil ?_)
  try simp only [zX]
  refine aw_cond _ rfl trivial (fun ht => by cases ht) (fun hf => ?_)
  try simp only [zX]
  refine aw_reg 496 (RG.go fun Q hQ => ?_)
  simp (disch := first | (intros; contradiction) | omega | (simp only [zN]; omega)) only [zS, reduceCtorEq, Nat.reduceAdd, Nat.reduceEqDiff, ↓reduceIte, k4]
  refine hQ _ _ _ _ _ (RG.nil ?_)
  try simp only [zX]
  refine aw_cond _ rfl trivial (fun ht => by cases ht) (fun hf => ?_)
  try simp only [zX, Nat.reduceEqDiff, ↓reduceIte, reduceCtorEq]
  refine aw_reg 560 (RG.go fun Q hQ => ?_)
  simp (disch := first | (intros; contradiction) | omega | (simp only [zN]; omega)) only [zS, reduceCtorEq, Nat.reduceAdd, Nat.reduceEqDiff, ↓reduceIte, k5]
  refine hQ _ _ _ _ _ (RG.nil ?_)
  try simp only [zX]
  refine aw_cond _ rfl trivial (fun ht => ?_) (fun hf => by cases hf)
  try simp only [zX, Nat.reduceEqDiff, ↓reduceIte, reduceCtorEq]
  refine aw_reg 624 (RG.go fun Q hQ => ?_)
  simp (disch := first | (intros; contradiction) | omega | (simp only [zN]; omega)) only [zS, reduceCtorEq, Nat.reduceAdd, Nat.reduceEqDiff, ↓reduceIte]
  refine hQ _ _ _ _ _ ?_
  refine RG.callo [240, 241] [] (pins_hid v c h) (.mk (by (repeat' (first | exact tr_nil | refine tr_cons ?_ ?_ | exact tr_agg (by repeat' (first | exact trivial | rfl | refine ⟨?_, ?_⟩))))) (by first | trivial | (simp only [zT, Nat.reduceEqDiff, ↓reduceIte]; done) | (simp only [zT, Nat.reduceEqDiff, ↓reduceIte]; trivial) | (simp only [zT, Nat.reduceEqDiff, ↓reduceIte]; repeat' (first | (first | exact drows_nrow _ | exact drows_wrow _) | refine ⟨?_, ?_⟩))) (by simp) (by simp) (trivial) (by first | (simp [lkE_cons, lkE_nil]; done) | (intro j hj; simp at hj; simp only [setEs, setE_cons, setE_nil, lkE_cons, lkE_nil]; repeat rw [if_neg (by omega)])) (by first | (simp [Ent.pure]; done) | (simp [Ent.pure]; repeat' (first | (first | exact drows_nrow _ | exact drows_wrow _) | refine ⟨?_, ?_⟩))) (by simp) (by simp)) ?_
  refine RG.go fun Q hQ => ?_
  simp (disch := first | (intros; contradiction) | omega | (simp only [zN]; omega)) only [zS, reduceCtorEq, Nat.reduceAdd, Nat.reduceEqDiff, ↓reduceIte, vO_eq]
  refine hQ _ _ _ _ _ (RG.nil ?_)
  try simp only [zX]
  refine aw_reg 784 (RG.go fun Q hQ => ?_)
  simp (disch := first | (intros; contradiction) | omega | (simp only [zN]; omega)) only [zS, reduceCtorEq, Nat.reduceAdd, Nat.reduceEqDiff, ↓reduceIte, Int.reduceBNe]
  refine hQ _ _ _ _ _ (RG.nil ?_)
  try simp only [zX]
  refine aw_cond _ rfl trivial (fun ht => ?_) (fun hf => by cases hf)
  try simp only [zX]
  refine aw_reg 848 (RG.go fun Q hQ => ?_)
  simp (disch := first | (intros; contradiction) | omega | (simp only [zN]; omega)) only [zS, reduceCtorEq, Nat.reduceAdd, Nat.reduceEqDiff, Nat.reduceLeDiff, ↓reduceIte]
  refine hQ _ _ _ _ _ (RG.nil ?_)
  try simp only [zX]
  refine Fin.data [128, 129] (.inr rfl) rfl (by (exact ⟨trivial, trivial, trivial⟩)) ?_
  simp only [zL, Nat.reduceEqDiff, ↓reduceIte]
  all_goals ((repeat' (first | exact trivial | rfl | (refine ⟨⟨_, _, rfl⟩, ?_⟩; (first | exact drows_nrow _ | exact drows_wrow _)) | refine ⟨?_, ?_⟩)))

theorem Do_prune_no (v : VOL) (c : CMD) (ok : Vok v) (hk : c.kind = 3) (h : v.hid = false) (e : Int) (he : timeE v.floor c.at' (lowV v) = e) (he0 : e ≠ 0) : Con Try.prog 18 [.agg (volC v), .agg (cmdC c)] [] (doR (fail v e)) [] := by
  have k2 : (c.kind == 2) = false := by rw [hk]; rfl
  have k3 : (c.kind == 3) = true := by rw [hk]; rfl
  have k4 : (c.kind == 4) = false := by rw [hk]; rfl
  have k5 : (c.kind == 5) = false := by rw [hk]; rfl
  have k6 : (c.kind == 6) = false := by rw [hk]; rfl
  have k7 : (c.kind == 7) = false := by rw [hk]; rfl
  have k8 : (c.kind == 8) = false := by rw [hk]; rfl
  refine C_volume_Do (Nat.le_of_ble_eq_true rfl) (Nat.le_of_ble_eq_true rfl) ?_
  simp only [A_volume_Do, argL, objL, List.length_nil, Nat.zero_add, zX]
  refine aw_reg 16 (RG.go fun Q hQ => ?_)
  simp (disch := first | (intros; contradiction) | omega | (simp only [zN]; omega)) only [zS, reduceCtorEq, Nat.reduceAdd, Nat.reduceEqDiff, ↓reduceIte, vC_eq, cmdC, cC]
  refine hQ _ _ _ _ _ (RG.nil ?_)
  try simp only [zX]
  refine aw_reg 112 (RG.go fun Q hQ => ?_)
  simp (disch := first | (intros; contradiction) | omega | (simp only [zN]; omega)) only [zS, reduceCtorEq, Nat.reduceAdd, Nat.reduceEqDiff, ↓reduceIte]
  refine hQ _ _ _ _ _ ?_
  refine RG.callo [] [] (volume_copied_con v ok) (.mk (by (repeat' (first | exact tr_nil | refine tr_cons ?_ ?_ | exact tr_agg (by repeat' (first | exact trivial | rfl | refine ⟨?_, ?_⟩))))) (by first | trivial | (simp only [zT, Nat.reduceEqDiff, Nat.reduceAdd, ↓reduceIte, reduceCtorEq]; done) | (simp only [zT, Nat.reduceEqDiff, Nat.reduceAdd, ↓reduceIte, reduceCtorEq]; trivial) | (simp only [zT, Nat.reduceEqDiff, Nat.reduceAdd, ↓reduceIte, reduceCtorEq]; repeat' (fail))) (by simp) (by simp) (trivial) (by first | (simp [lkE_cons, lkE_nil]; done) | (intro j hj; simp at hj; simp only [lkE_cons, lkE_nil]; repeat rw [if_neg (by omega)])) (by first | (simp [Ent.pure]; done) | (simp [Ent.pure]; repeat' (first | (first | exact drows_nrow _ | exact drows_wrow _) | refine ⟨?_, ?_⟩))) (by simp) (by simp)) ?_
  refine RG.go fun Q hQ => ?_
  simp (disch := first | (intros; contradiction) | omega | (simp only [zN]; omega)) only [zS, reduceCtorEq, Nat.reduceAdd, Nat.reduceEqDiff, ↓reduceIte]
  refine hQ _ _ _ _ _ (RG.nil ?_)
  try simp only [zX]
  refine aw_reg 224 (RG.go fun Q hQ => ?_)
  simp (disch := first | (intros; contradiction) | omega | (simp only [zN]; omega)) only [zS, reduceCtorEq, Nat.reduceAdd, Nat.reduceEqDiff, ↓reduceIte]
  refine hQ _ _ _ _ _ ?_
  refine RG.callo [] [] (volume_copied_con v ok) (.mk (by (repeat' (first | exact tr_nil | refine tr_cons ?_ ?_ | exact tr_agg (by repeat' (first | exact trivial | rfl | refine ⟨?_, ?_⟩))))) (by first | trivial | (simp only [zT, Nat.reduceEqDiff, Nat.reduceAdd, ↓reduceIte, reduceCtorEq]; done) | (simp only [zT, Nat.reduceEqDiff, Nat.reduceAdd, ↓reduceIte, reduceCtorEq]; trivial) | (simp only [zT, Nat.reduceEqDiff, Nat.reduceAdd, ↓reduceIte, reduceCtorEq]; repeat' (fail))) (by simp) (by simp) (trivial) (by first | (simp [lkE_cons, lkE_nil]; done) | (intro j hj; simp at hj; simp only [lkE_cons, lkE_nil]; repeat rw [if_neg (by omega)])) (by first | (simp [Ent.pure]; done) | (simp [Ent.pure]; repeat' (first | (first | exact drows_nrow _ | exact drows_wrow _) | refine ⟨?_, ?_⟩))) (by simp) (by simp)) ?_
  refine RG.go fun Q hQ => ?_
  simp (disch := first | (intros; contradiction) | omega | (simp only [zN]; omega)) only [zS, reduceCtorEq, Nat.reduceAdd, Nat.reduceEqDiff, ↓reduceIte]
  refine hQ _ _ _ _ _ (RG.nil ?_)
  try simp only [zX]
  refine aw_reg 304 (RG.go fun Q hQ => ?_)
  simp (disch := first | (intros; contradiction) | omega | (simp only [zN]; omega)) only [zS, reduceCtorEq, Nat.reduceAdd, Nat.reduceEqDiff, ↓reduceIte]
  refine hQ _ _ _ _ _ (RG.nil ?_)
  try simp only [zX]
  refine aw_reg 368 (RG.go fun Q hQ => ?_)
  simp (disch := first | (intros; contradiction) | omega | (simp only [zN]; omega)) only [zS, reduceCtorEq, Nat.reduceAdd, Nat.reduceEqDiff, ↓reduceIte, k2]
  refine hQ _ _ _ _ _ (RG.nil ?_)
  try simp only [zX]
  refine aw_cond _ rfl trivial (fun ht => by cases ht) (fun hf => ?_)
  try simp only [zX]
  refine aw_reg 432 (RG.go fun Q hQ => ?_)
  simp (disch := first | (intros; contradiction) | omega | (simp only [zN]; omega)) only [zS, reduceCtorEq, Nat.reduceAdd, Nat.reduceEqDiff, ↓reduceIte, k3]
  refine hQ _ _ _ _ _ (RG.nil ?_)
  try simp only [zX]
  refine aw_cond _ rfl trivial (fun ht => ?_) (fun hf => by cases hf)
  try simp only [zX]
  refine aw_cond _ rfl trivial (fun ht => ?_) (fun hf => by cases hf)
  try simp only [zX, Nat.reduceEqDiff, ↓reduceIte, reduceCtorEq]
  refine aw_reg 496 (RG.go fun Q hQ => ?_)
  simp (disch := first | (intros; contradiction) | omega | (simp only [zN]; omega)) only [zS, reduceCtorEq, Nat.reduceAdd, Nat.reduceEqDiff, ↓reduceIte]
  refine hQ _ _ _ _ _ ?_
  refine RG.callo [240, 241] [] (prune_no v c ok e h hk he he0) (.mk (by (repeat' (first | exact tr_nil | refine tr_cons ?_ ?_ | exact tr_agg (by repeat' (first | exact trivial | rfl | refine ⟨?_, ?_⟩))))) (by first | trivial | (simp only [zT, Nat.reduceEqDiff, ↓reduceIte]; done) | (simp only [zT, Nat.reduceEqDiff, ↓reduceIte]; trivial) | (simp only [zT, Nat.reduceEqDiff, ↓reduceIte]; repeat' (first | (first | exact drows_nrow _ | exact drows_wrow _) | refine ⟨?_, ?_⟩))) (by simp) (by simp) (trivial) (by first | (simp [lkE_cons, lkE_nil]; done) | (intro j hj; simp at hj; simp only [setEs, setE_cons, setE_nil, lkE_cons, lkE_nil]; repeat rw [if_neg (by omega)])) (by first | (simp [Ent.pure]; done) | (simp [Ent.pure]; repeat' (first | (first | exact drows_nrow _ | exact drows_wrow _) | refine ⟨?_, ?_⟩))) (by simp) (by simp)) ?_
  refine RG.go fun Q hQ => ?_
  simp (disch := first | (intros; contradiction) | omega | (simp only [zN]; omega)) only [zS, reduceCtorEq, Nat.reduceAdd, Nat.reduceEqDiff, ↓reduceIte, vO_eq]
  refine hQ _ _ _ _ _ (RG.nil ?_)
  try simp only [zX]
  refine aw_reg 656 (RG.go fun Q hQ => ?_)
  simp (disch := first | (intros; contradiction) | omega | (simp only [zN]; omega)) only [zS, reduceCtorEq, Nat.reduceAdd, Nat.reduceEqDiff, ↓reduceIte]
  refine hQ _ _ _ _ _ (RG.nil ?_)
  try simp only [zX]
  refine aw_cond _ rfl trivial (fun ht => ?_) (fun hf => by simp at hf; exact absurd hf he0)
  try simp only [zX]
  refine aw_reg 720 (RG.go fun Q hQ => ?_)
  simp (disch := first | (intros; contradiction) | omega | (simp only [zN]; omega)) only [zS, reduceCtorEq, Nat.reduceAdd, Nat.reduceEqDiff, Nat.reduceLeDiff, ↓reduceIte]
  refine hQ _ _ _ _ _ (RG.nil ?_)
  try simp only [zX]
  refine Fin.data [128, 129] (.inr rfl) rfl (by (exact ⟨trivial, trivial, trivial⟩)) ?_
  simp only [zL, Nat.reduceEqDiff, ↓reduceIte]
  all_goals ((repeat' (first | exact trivial | rfl | (refine ⟨⟨_, _, rfl⟩, ?_⟩; (first | exact drows_nrow _ | exact drows_wrow _)) | refine ⟨?_, ?_⟩)))

theorem Do_prune_yes (v : VOL) (c : CMD) (ok : Vok v) (hk : c.kind = 3) (h : v.hid = false) (he : timeE v.floor c.at' (lowV v) = 0) : Con Try.prog 18 [.agg (volC v), .agg (cmdC c)] [] (doR (done { v with floor := c.at' })) [] := by
  have k2 : (c.kind == 2) = false := by rw [hk]; rfl
  have k3 : (c.kind == 3) = true := by rw [hk]; rfl
  have k4 : (c.kind == 4) = false := by rw [hk]; rfl
  have k5 : (c.kind == 5) = false := by rw [hk]; rfl
  have k6 : (c.kind == 6) = false := by rw [hk]; rfl
  have k7 : (c.kind == 7) = false := by rw [hk]; rfl
  have k8 : (c.kind == 8) = false := by rw [hk]; rfl
  refine C_volume_Do (Nat.le_of_ble_eq_true rfl) (Nat.le_of_ble_eq_true rfl) ?_
  simp only [A_volume_Do, argL, objL, List.length_nil, Nat.zero_add, zX]
  refine aw_reg 16 (RG.go fun Q hQ => ?_)
  simp (disch := first | (intros; contradiction) | omega | (simp only [zN]; omega)) only [zS, reduceCtorEq, Nat.reduceAdd, Nat.reduceEqDiff, ↓reduceIte, vC_eq, cmdC, cC]
  refine hQ _ _ _ _ _ (RG.nil ?_)
  try simp only [zX]
  refine aw_reg 112 (RG.go fun Q hQ => ?_)
  simp (disch := first | (intros; contradiction) | omega | (simp only [zN]; omega)) only [zS, reduceCtorEq, Nat.reduceAdd, Nat.reduceEqDiff, ↓reduceIte]
  refine hQ _ _ _ _ _ ?_
  refine RG.callo [] [] (volume_copied_con v ok) (.mk (by (repeat' (first | exact tr_nil | refine tr_cons ?_ ?_ | exact tr_agg (by repeat' (first | exact trivial | rfl | refine ⟨?_, ?_⟩))))) (by first | trivial | (simp only [zT, Nat.reduceEqDiff, Nat.reduceAdd, ↓reduceIte, reduceCtorEq]; done) | (simp only [zT, Nat.reduceEqDiff, Nat.reduceAdd, ↓reduceIte, reduceCtorEq]; trivial) | (simp only [zT, Nat.reduceEqDiff, Nat.reduceAdd, ↓reduceIte, reduceCtorEq]; repeat' (fail))) (by simp) (by simp) (trivial) (by first | (simp [lkE_cons, lkE_nil]; done) | (intro j hj; simp at hj; simp only [lkE_cons, lkE_nil]; repeat rw [if_neg (by omega)])) (by first | (simp [Ent.pure]; done) | (simp [Ent.pure]; repeat' (first | (first | exact drows_nrow _ | exact drows_wrow _) | refine ⟨?_, ?_⟩))) (by simp) (by simp)) ?_
  refine RG.go fun Q hQ => ?_
  simp (disch := first | (intros; contradiction) | omega | (simp only [zN]; omega)) only [zS, reduceCtorEq, Nat.reduceAdd, Nat.reduceEqDiff, ↓reduceIte]
  refine hQ _ _ _ _ _ (RG.nil ?_)
  try simp only [zX]
  refine aw_reg 224 (RG.go fun Q hQ => ?_)
  simp (disch := first | (intros; contradiction) | omega | (simp only [zN]; omega)) only [zS, reduceCtorEq, Nat.reduceAdd, Nat.reduceEqDiff, ↓reduceIte]
  refine hQ _ _ _ _ _ ?_
  refine RG.callo [] [] (volume_copied_con v ok) (.mk (by (repeat' (first | exact tr_nil | refine tr_cons ?_ ?_ | exact tr_agg (by repeat' (first | exact trivial | rfl | refine ⟨?_, ?_⟩))))) (by first | trivial | (simp only [zT, Nat.reduceEqDiff, Nat.reduceAdd, ↓reduceIte, reduceCtorEq]; done) | (simp only [zT, Nat.reduceEqDiff, Nat.reduceAdd, ↓reduceIte, reduceCtorEq]; trivial) | (simp only [zT, Nat.reduceEqDiff, Nat.reduceAdd, ↓reduceIte, reduceCtorEq]; repeat' (fail))) (by simp) (by simp) (trivial) (by first | (simp [lkE_cons, lkE_nil]; done) | (intro j hj; simp at hj; simp only [lkE_cons, lkE_nil]; repeat rw [if_neg (by omega)])) (by first | (simp [Ent.pure]; done) | (simp [Ent.pure]; repeat' (first | (first | exact drows_nrow _ | exact drows_wrow _) | refine ⟨?_, ?_⟩))) (by simp) (by simp)) ?_
  refine RG.go fun Q hQ => ?_
  simp (disch := first | (intros; contradiction) | omega | (simp only [zN]; omega)) only [zS, reduceCtorEq, Nat.reduceAdd, Nat.reduceEqDiff, ↓reduceIte]
  refine hQ _ _ _ _ _ (RG.nil ?_)
  try simp only [zX]
  refine aw_reg 304 (RG.go fun Q hQ => ?_)
  simp (disch := first | (intros; contradiction) | omega | (simp only [zN]; omega)) only [zS, reduceCtorEq, Nat.reduceAdd, Nat.reduceEqDiff, ↓reduceIte]
  refine hQ _ _ _ _ _ (RG.nil ?_)
  try simp only [zX]
  refine aw_reg 368 (RG.go fun Q hQ => ?_)
  simp (disch := first | (intros; contradiction) | omega | (simp only [zN]; omega)) only [zS, reduceCtorEq, Nat.reduceAdd, Nat.reduceEqDiff, ↓reduceIte, k2]
  refine hQ _ _ _ _ _ (RG.nil ?_)
  try simp only [zX]
  refine aw_cond _ rfl trivial (fun ht => by cases ht) (fun hf => ?_)
  try simp only [zX]
  refine aw_reg 432 (RG.go fun Q hQ => ?_)
  simp (disch := first | (intros; contradiction) | omega | (simp only [zN]; omega)) only [zS, reduceCtorEq, Nat.reduceAdd, Nat.reduceEqDiff, ↓reduceIte, k3]
  refine hQ _ _ _ _ _ (RG.nil ?_)
  try simp only [zX]
  refine aw_cond _ rfl trivial (fun ht => ?_) (fun hf => by cases hf)
  try simp only [zX]
  refine aw_cond _ rfl trivial (fun ht => ?_) (fun hf => by cases hf)
  try simp only [zX, Nat.reduceEqDiff, ↓reduceIte, reduceCtorEq]
  refine aw_reg 496 (RG.go fun Q hQ => ?_)
  simp (disch := first | (intros; contradiction) | omega | (simp only [zN]; omega)) only [zS, reduceCtorEq, Nat.reduceAdd, Nat.reduceEqDiff, ↓reduceIte]
  refine hQ _ _ _ _ _ ?_
  refine RG.callo [240, 241] [] (prune_yes v c ok h hk he) (.mk (by (repeat' (first | exact tr_nil | refine tr_cons ?_ ?_ | exact tr_agg (by repeat' (first | exact trivial | rfl | refine ⟨?_, ?_⟩))))) (by first | trivial | (simp only [zT, Nat.reduceEqDiff, ↓reduceIte]; done) | (simp only [zT, Nat.reduceEqDiff, ↓reduceIte]; trivial) | (simp only [zT, Nat.reduceEqDiff, ↓reduceIte]; repeat' (first | (first | exact drows_nrow _ | exact drows_wrow _) | refine ⟨?_, ?_⟩))) (by simp) (by simp) (trivial) (by first | (simp [lkE_cons, lkE_nil]; done) | (intro j hj; simp at hj; simp only [setEs, setE_cons, setE_nil, lkE_cons, lkE_nil]; repeat rw [if_neg (by omega)])) (by first | (simp [Ent.pure]; done) | (simp [Ent.pure]; repeat' (first | (first | exact drows_nrow _ | exact drows_wrow _) | refine ⟨?_, ?_⟩))) (by simp) (by simp)) ?_
  refine RG.go fun Q hQ => ?_
  simp (disch := first | (intros; contradiction) | omega | (simp only [zN]; omega)) only [zS, reduceCtorEq, Nat.reduceAdd, Nat.reduceEqDiff, ↓reduceIte, vO_eq]
  refine hQ _ _ _ _ _ (RG.nil ?_)
  try simp only [zX]
  refine aw_reg 656 (RG.go fun Q hQ => ?_)
  simp (disch := first | (intros; contradiction) | omega | (simp only [zN]; omega)) only [zS, reduceCtorEq, Nat.reduceAdd, Nat.reduceEqDiff, ↓reduceIte, Int.reduceBNe]
  refine hQ _ _ _ _ _ (RG.nil ?_)
  try simp only [zX]
  refine aw_cond _ rfl trivial (fun ht => by cases ht) (fun hf => ?_)
  try simp only [zX]
  refine aw_draw 720 (RG.go fun Q hQ => ?_)
  simp (disch := first | (intros; contradiction) | omega | (simp only [zN]; omega)) only [zS, reduceCtorEq, Nat.reduceAdd, Nat.reduceEqDiff, ↓reduceIte]
  refine hQ _ _ _ _ _ ?_
  refine RG.call [240, 241] (volume_Len_con { v with floor := c.at' }) (by (repeat' (first | exact tr_nil | refine tr_cons ?_ ?_ | exact tr_agg (by (repeat' (first | exact trivial | rfl | (refine ⟨by simp, _, _, _, rfl, ?_⟩; (first | exact drows_nrow _ | exact drows_wrow _)) | refine ⟨?_, ?_⟩)))))) (by repeat' (first | exact trivial | refine views1 rfl ?_)) (by (exact .inl trivial)) ?_
  refine RG.go fun Q hQ => ?_
  simp (disch := first | (intros; contradiction) | omega | (simp only [zN]; omega)) only [zS, reduceCtorEq, Nat.reduceAdd, Nat.reduceEqDiff, Nat.reduceLeDiff, ↓reduceIte]
  refine hQ _ _ _ _ _ (RG.nil ⟨by decide +kernel, ?_⟩)
  try simp only [zX]
  refine Fin.data [240, 241] (.inr rfl) rfl (by (exact ⟨trivial, trivial, trivial⟩)) ?_
  simp only [zL, Nat.reduceEqDiff, ↓reduceIte]
  all_goals ((repeat' (first | exact trivial | rfl | (refine ⟨⟨_, _, rfl⟩, ?_⟩; (first | exact drows_nrow _ | exact drows_wrow _)) | refine ⟨?_, ?_⟩)))

theorem Do_pin_no (v : VOL) (c : CMD) (ok : Vok v) (hk : c.kind = 4) (h : v.hid = false) (e : Int) (he : timeE v.floor c.at' (lenV v) = e) (he0 : e ≠ 0) : Con Try.prog 18 [.agg (volC v), .agg (cmdC c)] [] (doR (fail v e)) [] := by
  have k2 : (c.kind == 2) = false := by rw [hk]; rfl
  have k3 : (c.kind == 3) = false := by rw [hk]; rfl
  have k4 : (c.kind == 4) = true := by rw [hk]; rfl
  have k5 : (c.kind == 5) = false := by rw [hk]; rfl
  have k6 : (c.kind == 6) = false := by rw [hk]; rfl
  have k7 : (c.kind == 7) = false := by rw [hk]; rfl
  have k8 : (c.kind == 8) = false := by rw [hk]; rfl
  refine C_volume_Do (Nat.le_of_ble_eq_true rfl) (Nat.le_of_ble_eq_true rfl) ?_
  simp only [A_volume_Do, argL, objL, List.length_nil, Nat.zero_add, zX]
  refine aw_reg 16 (RG.go fun Q hQ => ?_)
  simp (disch := first | (intros; contradiction) | omega | (simp only [zN]; omega)) only [zS, reduceCtorEq, Nat.reduceAdd, Nat.reduceEqDiff, ↓reduceIte, vC_eq, cmdC, cC]
  refine hQ _ _ _ _ _ (RG.nil ?_)
  try simp only [zX]
  refine aw_reg 112 (RG.go fun Q hQ => ?_)
  simp (disch := first | (intros; contradiction) | omega | (simp only [zN]; omega)) only [zS, reduceCtorEq, Nat.reduceAdd, Nat.reduceEqDiff, ↓reduceIte]
  refine hQ _ _ _ _ _ ?_
  refine RG.callo [] [] (volume_copied_con v ok) (.mk (by (repeat' (first | exact tr_nil | refine tr_cons ?_ ?_ | exact tr_agg (by repeat' (first | exact trivial | rfl | refine ⟨?_, ?_⟩))))) (by first | trivial | (simp only [zT, Nat.reduceEqDiff, Nat.reduceAdd, ↓reduceIte, reduceCtorEq]; done) | (simp only [zT, Nat.reduceEqDiff, Nat.reduceAdd, ↓reduceIte, reduceCtorEq]; trivial) | (simp only [zT, Nat.reduceEqDiff, Nat.reduceAdd, ↓reduceIte, reduceCtorEq]; repeat' (fail))) (by simp) (by simp) (trivial) (by first | (simp [lkE_cons, lkE_nil]; done) | (intro j hj; simp at hj; simp only [lkE_cons, lkE_nil]; repeat rw [if_neg (by omega)])) (by first | (simp [Ent.pure]; done) | (simp [Ent.pure]; repeat' (first | (first | exact drows_nrow _ | exact drows_wrow _) | refine ⟨?_, ?_⟩))) (by simp) (by simp)) ?_
  refine RG.go fun Q hQ => ?_
  simp (disch := first | (intros; contradiction) | omega | (simp only [zN]; omega)) only [zS, reduceCtorEq, Nat.reduceAdd, Nat.reduceEqDiff, ↓reduceIte]
  refine hQ _ _ _ _ _ (RG.nil ?_)
  try simp only [zX]
  refine aw_reg 224 (RG.go fun Q hQ => ?_)
  simp (disch := first | (intros; contradiction) | omega | (simp only [zN]; omega)) only [zS, reduceCtorEq, Nat.reduceAdd, Nat.reduceEqDiff, ↓reduceIte]
  refine hQ _ _ _ _ _ ?_
  refine RG.callo [] [] (volume_copied_con v ok) (.mk (by (repeat' (first | exact tr_nil | refine tr_cons ?_ ?_ | exact tr_agg (by repeat' (first | exact trivial | rfl | refine ⟨?_, ?_⟩))))) (by first | trivial | (simp only [zT, Nat.reduceEqDiff, Nat.reduceAdd, ↓reduceIte, reduceCtorEq]; done) | (simp only [zT, Nat.reduceEqDiff, Nat.reduceAdd, ↓reduceIte, reduceCtorEq]; trivial) | (simp only [zT, Nat.reduceEqDiff, Nat.reduceAdd, ↓reduceIte, reduceCtorEq]; repeat' (fail))) (by simp) (by simp) (trivial) (by first | (simp [lkE_cons, lkE_nil]; done) | (intro j hj; simp at hj; simp only [lkE_cons, lkE_nil]; repeat rw [if_neg (by omega)])) (by first | (simp [Ent.pure]; done) | (simp [Ent.pure]; repeat' (first | (first | exact drows_nrow _ | exact drows_wrow _) | refine ⟨?_, ?_⟩))) (by simp) (by simp)) ?_
  refine RG.go fun Q hQ => ?_
  simp (disch := first | (intros; contradiction) | omega | (simp only [zN]; omega)) only [zS, reduceCtorEq, Nat.reduceAdd, Nat.reduceEqDiff, ↓reduceIte]
  refine hQ _ _ _ _ _ (RG.nil ?_)
  try simp only [zX]
  refine aw_reg 304 (RG.go fun Q hQ => ?_)
  simp (disch := first | (intros; contradiction) | omega | (simp only [zN]; omega)) only [zS, reduceCtorEq, Nat.reduceAdd, Nat.reduceEqDiff, ↓reduceIte]
  refine hQ _ _ _ _ _ (RG.nil ?_)
  try simp only [zX]
  refine aw_reg 368 (RG.go fun Q hQ => ?_)
  simp (disch := first | (intros; contradiction) | omega | (simp only [zN]; omega)) only [zS, reduceCtorEq, Nat.reduceAdd, Nat.reduceEqDiff, ↓reduceIte, k2]
  refine hQ _ _ _ _ _ (RG.nil ?_)
  try simp only [zX]
  refine aw_cond _ rfl trivial (fun ht => by cases ht) (fun hf => ?_)
  try simp only [zX]
  refine aw_reg 432 (RG.go fun Q hQ => ?_)
  simp (disch := first | (intros; contradiction) | omega | (simp only [zN]; omega)) only [zS, reduceCtorEq, Nat.reduceAdd, Nat.reduceEqDiff, ↓reduceIte, k3]
  refine hQ _ _ _ _ _ (RG.nil ?_)
  try simp only [zX]
  refine aw_cond _ rfl trivial (fun ht => by cases ht) (fun hf => ?_)
  try simp only [zX]
  refine aw_reg 496 (RG.go fun Q hQ => ?_)
  simp (disch := first | (intros; contradiction) | omega | (simp only [zN]; omega)) only [zS, reduceCtorEq, Nat.reduceAdd, Nat.reduceEqDiff, ↓reduceIte, k4]
  refine hQ _ _ _ _ _ (RG.nil ?_)
  try simp only [zX]
  refine aw_cond _ rfl trivial (fun ht => ?_) (fun hf => by cases hf)
  try simp only [zX]
  refine aw_cond _ rfl trivial (fun ht => ?_) (fun hf => by cases hf)
  try simp only [zX, Nat.reduceEqDiff, ↓reduceIte, reduceCtorEq]
  refine aw_reg 560 (RG.go fun Q hQ => ?_)
  simp (disch := first | (intros; contradiction) | omega | (simp only [zN]; omega)) only [zS, reduceCtorEq, Nat.reduceAdd, Nat.reduceEqDiff, ↓reduceIte]
  refine hQ _ _ _ _ _ ?_
  refine RG.callo [240, 241] [] (pin_no v c e h hk he he0) (.mk (by (repeat' (first | exact tr_nil | refine tr_cons ?_ ?_ | exact tr_agg (by repeat' (first | exact trivial | rfl | refine ⟨?_, ?_⟩))))) (by first | trivial | (simp only [zT, Nat.reduceEqDiff, ↓reduceIte]; done) | (simp only [zT, Nat.reduceEqDiff, ↓reduceIte]; trivial) | (simp only [zT, Nat.reduceEqDiff, ↓reduceIte]; repeat' (first | (first | exact drows_nrow _ | exact drows_wrow _) | refine ⟨?_, ?_⟩))) (by simp) (by simp) (trivial) (by first | (simp [lkE_cons, lkE_nil]; done) | (intro j hj; simp at hj; simp only [setEs, setE_cons, setE_nil, lkE_cons, lkE_nil]; repeat rw [if_neg (by omega)])) (by first | (simp [Ent.pure]; done) | (simp [Ent.pure]; repeat' (first | (first | exact drows_nrow _ | exact drows_wrow _) | refine ⟨?_, ?_⟩))) (by simp) (by simp)) ?_
  refine RG.go fun Q hQ => ?_
  simp (disch := first | (intros; contradiction) | omega | (simp only [zN]; omega)) only [zS, reduceCtorEq, Nat.reduceAdd, Nat.reduceEqDiff, ↓reduceIte, vO_eq]
  refine hQ _ _ _ _ _ (RG.nil ?_)
  try simp only [zX]
  refine aw_reg 720 (RG.go fun Q hQ => ?_)
  simp (disch := first | (intros; contradiction) | omega | (simp only [zN]; omega)) only [zS, reduceCtorEq, Nat.reduceAdd, Nat.reduceEqDiff, ↓reduceIte]
  refine hQ _ _ _ _ _ (RG.nil ?_)
  try simp only [zX]
  refine aw_cond _ rfl trivial (fun ht => ?_) (fun hf => by simp at hf; exact absurd hf he0)
  try simp only [zX]
  refine aw_reg 784 (RG.go fun Q hQ => ?_)
  simp (disch := first | (intros; contradiction) | omega | (simp only [zN]; omega)) only [zS, reduceCtorEq, Nat.reduceAdd, Nat.reduceEqDiff, Nat.reduceLeDiff, ↓reduceIte]
  refine hQ _ _ _ _ _ (RG.nil ?_)
  try simp only [zX]
  refine Fin.data [128, 129] (.inr rfl) rfl (by (exact ⟨trivial, trivial, trivial⟩)) ?_
  simp only [zL, Nat.reduceEqDiff, ↓reduceIte]
  all_goals ((repeat' (first | exact trivial | rfl | (refine ⟨⟨_, _, rfl⟩, ?_⟩; (first | exact drows_nrow _ | exact drows_wrow _)) | refine ⟨?_, ?_⟩)))

theorem Do_pin_yes (v : VOL) (c : CMD) (ok : Vok v) (hk : c.kind = 4) (hp : v.pins.length < 60000) (h : v.hid = false) (he : timeE v.floor c.at' (lenV v) = 0) : Con Try.prog 18 [.agg (volC v), .agg (cmdC c)] [] (doR (done { v with pins := isort (v.pins ++ [c.at']) })) [] := by
  have k2 : (c.kind == 2) = false := by rw [hk]; rfl
  have k3 : (c.kind == 3) = false := by rw [hk]; rfl
  have k4 : (c.kind == 4) = true := by rw [hk]; rfl
  have k5 : (c.kind == 5) = false := by rw [hk]; rfl
  have k6 : (c.kind == 6) = false := by rw [hk]; rfl
  have k7 : (c.kind == 7) = false := by rw [hk]; rfl
  have k8 : (c.kind == 8) = false := by rw [hk]; rfl
  refine C_volume_Do (Nat.le_of_ble_eq_true rfl) (Nat.le_of_ble_eq_true rfl) ?_
  simp only [A_volume_Do, argL, objL, List.length_nil, Nat.zero_add, zX]
  refine aw_reg 16 (RG.go fun Q hQ => ?_)
  simp (disch := first | (intros; contradiction) | omega | (simp only [zN]; omega)) only [zS, reduceCtorEq, Nat.reduceAdd, Nat.reduceEqDiff, ↓reduceIte, vC_eq, cmdC, cC]
  refine hQ _ _ _ _ _ (RG.nil ?_)
  try simp only [zX]
  refine aw_reg 112 (RG.go fun Q hQ => ?_)
  simp (disch := first | (intros; contradiction) | omega | (simp only [zN]; omega)) only [zS, reduceCtorEq, Nat.reduceAdd, Nat.reduceEqDiff, ↓reduceIte]
  refine hQ _ _ _ _ _ ?_
  refine RG.callo [] [] (volume_copied_con v ok) (.mk (by (repeat' (first | exact tr_nil | refine tr_cons ?_ ?_ | exact tr_agg (by repeat' (first | exact trivial | rfl | refine ⟨?_, ?_⟩))))) (by first | trivial | (simp only [zT, Nat.reduceEqDiff, Nat.reduceAdd, ↓reduceIte, reduceCtorEq]; done) | (simp only [zT, Nat.reduceEqDiff, Nat.reduceAdd, ↓reduceIte, reduceCtorEq]; trivial) | (simp only [zT, Nat.reduceEqDiff, Nat.reduceAdd, ↓reduceIte, reduceCtorEq]; repeat' (fail))) (by simp) (by simp) (trivial) (by first | (simp [lkE_cons, lkE_nil]; done) | (intro j hj; simp at hj; simp only [lkE_cons, lkE_nil]; repeat rw [if_neg (by omega)])) (by first | (simp [Ent.pure]; done) | (simp [Ent.pure]; repeat' (first | (first | exact drows_nrow _ | exact drows_wrow _) | refine ⟨?_, ?_⟩))) (by simp) (by simp)) ?_
  refine RG.go fun Q hQ => ?_
  simp (disch := first | (intros; contradiction) | omega | (simp only [zN]; omega)) only [zS, reduceCtorEq, Nat.reduceAdd, Nat.reduceEqDiff, ↓reduceIte]
  refine hQ _ _ _ _ _ (RG.nil ?_)
  try simp only [zX]
  refine aw_reg 224 (RG.go fun Q hQ => ?_)
  simp (disch := first | (intros; contradiction) | omega | (simp only [zN]; omega)) only [zS, reduceCtorEq, Nat.reduceAdd, Nat.reduceEqDiff, ↓reduceIte]
  refine hQ _ _ _ _ _ ?_
  refine RG.callo [] [] (volume_copied_con v ok) (.mk (by (repeat' (first | exact tr_nil | refine tr_cons ?_ ?_ | exact tr_agg (by repeat' (first | exact trivial | rfl | refine ⟨?_, ?_⟩))))) (by first | trivial | (simp only [zT, Nat.reduceEqDiff, Nat.reduceAdd, ↓reduceIte, reduceCtorEq]; done) | (simp only [zT, Nat.reduceEqDiff, Nat.reduceAdd, ↓reduceIte, reduceCtorEq]; trivial) | (simp only [zT, Nat.reduceEqDiff, Nat.reduceAdd, ↓reduceIte, reduceCtorEq]; repeat' (fail))) (by simp) (by simp) (trivial) (by first | (simp [lkE_cons, lkE_nil]; done) | (intro j hj; simp at hj; simp only [lkE_cons, lkE_nil]; repeat rw [if_neg (by omega)])) (by first | (simp [Ent.pure]; done) | (simp [Ent.pure]; repeat' (first | (first | exact drows_nrow _ | exact drows_wrow _) | refine ⟨?_, ?_⟩))) (by simp) (by simp)) ?_
  refine RG.go fun Q hQ => ?_
  simp (disch := first | (intros; contradiction) | omega | (simp only [zN]; omega)) only [zS, reduceCtorEq, Nat.reduceAdd, Nat.reduceEqDiff, ↓reduceIte]
  refine hQ _ _ _ _ _ (RG.nil ?_)
  try simp only [zX]
  refine aw_reg 304 (RG.go fun Q hQ => ?_)
  simp (disch := first | (intros; contradiction) | omega | (simp only [zN]; omega)) only [zS, reduceCtorEq, Nat.reduceAdd, Nat.reduceEqDiff, ↓reduceIte]
  refine hQ _ _ _ _ _ (RG.nil ?_)
  try simp only [zX]
  refine aw_reg 368 (RG.go fun Q hQ => ?_)
  simp (disch := first | (intros; contradiction) | omega | (simp only [zN]; omega)) only [zS, reduceCtorEq, Nat.reduceAdd, Nat.reduceEqDiff, ↓reduceIte, k2]
  refine hQ _ _ _ _ _ (RG.nil ?_)
  try simp only [zX]
  refine aw_cond _ rfl trivial (fun ht => by cases ht) (fun hf => ?_)
  try simp only [zX]
  refine aw_reg 432 (RG.go fun Q hQ => ?_)
  simp (disch := first | (intros; contradiction) | omega | (simp only [zN]; omega)) only [zS, reduceCtorEq, Nat.reduceAdd, Nat.reduceEqDiff, ↓reduceIte, k3]
  refine hQ _ _ _ _ _ (RG.nil ?_)
  try simp only [zX]
  refine aw_cond _ rfl trivial (fun ht => by cases ht) (fun hf => ?_)
  try simp only [zX]
  refine aw_reg 496 (RG.go fun Q hQ => ?_)
  simp (disch := first | (intros; contradiction) | omega | (simp only [zN]; omega)) only [zS, reduceCtorEq, Nat.reduceAdd, Nat.reduceEqDiff, ↓reduceIte, k4]
  refine hQ _ _ _ _ _ (RG.nil ?_)
  try simp only [zX]
  refine aw_cond _ rfl trivial (fun ht => ?_) (fun hf => by cases hf)
  try simp only [zX]
  refine aw_cond _ rfl trivial (fun ht => ?_) (fun hf => by cases hf)
  try simp only [zX, Nat.reduceEqDiff, ↓reduceIte, reduceCtorEq]
  refine aw_reg 560 (RG.go fun Q hQ => ?_)
  simp (disch := first | (intros; contradiction) | omega | (simp only [zN]; omega)) only [zS, reduceCtorEq, Nat.reduceAdd, Nat.reduceEqDiff, ↓reduceIte]
  refine hQ _ _ _ _ _ ?_
  refine RG.callo [240, 241] [] (pin_yes v c hp h hk he) (.mk (by (repeat' (first | exact tr_nil | refine tr_cons ?_ ?_ | exact tr_agg (by repeat' (first | exact trivial | rfl | refine ⟨?_, ?_⟩))))) (by first | trivial | (simp only [zT, Nat.reduceEqDiff, ↓reduceIte]; done) | (simp only [zT, Nat.reduceEqDiff, ↓reduceIte]; trivial) | (simp only [zT, Nat.reduceEqDiff, ↓reduceIte]; repeat' (first | (first | exact drows_nrow _ | exact drows_wrow _) | refine ⟨?_, ?_⟩))) (by simp) (by simp) (trivial) (by first | (simp [lkE_cons, lkE_nil]; done) | (intro j hj; simp at hj; simp only [setEs, setE_cons, setE_nil, lkE_cons, lkE_nil]; repeat rw [if_neg (by omega)])) (by first | (simp [Ent.pure]; done) | (simp [Ent.pure]; repeat' (first | (first | exact drows_nrow _ | exact drows_wrow _) | refine ⟨?_, ?_⟩))) (by simp) (by simp)) ?_
  refine RG.go fun Q hQ => ?_
  simp (disch := first | (intros; contradiction) | omega | (simp only [zN]; omega)) only [zS, reduceCtorEq, Nat.reduceAdd, Nat.reduceEqDiff, Nat.reduceSub, ↓reduceIte, vO_eq]
  refine hQ _ _ _ _ _ (RG.nil ?_)
  try simp only [zX]
  refine aw_reg 720 (RG.go fun Q hQ => ?_)
  simp (disch := first | (intros; contradiction) | omega | (simp only [zN]; omega)) only [zS, reduceCtorEq, Nat.reduceAdd, Nat.reduceEqDiff, ↓reduceIte, Int.reduceBNe]
  refine hQ _ _ _ _ _ (RG.nil ?_)
  try simp only [zX]
  refine aw_cond _ rfl trivial (fun ht => by cases ht) (fun hf => ?_)
  try simp only [zX]
  refine aw_draw 784 (RG.go fun Q hQ => ?_)
  simp (disch := first | (intros; contradiction) | omega | (simp only [zN]; omega)) only [zS, reduceCtorEq, Nat.reduceAdd, Nat.reduceEqDiff, ↓reduceIte]
  refine hQ _ _ _ _ _ ?_
  refine RG.call [592, 241] (volume_Len_con { v with pins := isort (v.pins ++ [c.at']) }) (by (repeat' (first | exact tr_nil | refine tr_cons ?_ ?_ | exact tr_agg (by (repeat' (first | exact trivial | rfl | (refine ⟨by simp, _, _, _, rfl, ?_⟩; (first | exact drows_nrow _ | exact drows_wrow _)) | refine ⟨?_, ?_⟩)))))) (by repeat' (first | exact trivial | refine views1 rfl ?_)) (by (exact .inl trivial)) ?_
  refine RG.go fun Q hQ => ?_
  simp (disch := first | (intros; contradiction) | omega | (simp only [zN]; omega)) only [zS, reduceCtorEq, Nat.reduceAdd, Nat.reduceEqDiff, Nat.reduceLeDiff, ↓reduceIte]
  refine hQ _ _ _ _ _ (RG.nil ⟨by decide +kernel, ?_⟩)
  try simp only [zX]
  refine Fin.data [592, 241] (.inr rfl) rfl (by (exact ⟨trivial, trivial, trivial⟩)) ?_
  simp only [zL, Nat.reduceEqDiff, ↓reduceIte]
  all_goals ((repeat' (first | exact trivial | rfl | (refine ⟨⟨_, _, rfl⟩, ?_⟩; (first | exact drows_nrow _ | exact drows_wrow _)) | refine ⟨?_, ?_⟩)))

theorem Do_unpin_no (v : VOL) (c : CMD) (ok : Vok v) (hk : c.kind = 5) (h : v.hid = false) (hn : ∀ i (hi : i < v.pins.length), v.pins[i] ≠ c.at') : Con Try.prog 18 [.agg (volC v), .agg (cmdC c)] [] (doR (fail v 28)) [] := by
  have k2 : (c.kind == 2) = false := by rw [hk]; rfl
  have k3 : (c.kind == 3) = false := by rw [hk]; rfl
  have k4 : (c.kind == 4) = false := by rw [hk]; rfl
  have k5 : (c.kind == 5) = true := by rw [hk]; rfl
  have k6 : (c.kind == 6) = false := by rw [hk]; rfl
  have k7 : (c.kind == 7) = false := by rw [hk]; rfl
  have k8 : (c.kind == 8) = false := by rw [hk]; rfl
  refine C_volume_Do (Nat.le_of_ble_eq_true rfl) (Nat.le_of_ble_eq_true rfl) ?_
  simp only [A_volume_Do, argL, objL, List.length_nil, Nat.zero_add, zX]
  refine aw_reg 16 (RG.go fun Q hQ => ?_)
  simp (disch := first | (intros; contradiction) | omega | (simp only [zN]; omega)) only [zS, reduceCtorEq, Nat.reduceAdd, Nat.reduceEqDiff, ↓reduceIte, vC_eq, cmdC, cC]
  refine hQ _ _ _ _ _ (RG.nil ?_)
  try simp only [zX]
  refine aw_reg 112 (RG.go fun Q hQ => ?_)
  simp (disch := first | (intros; contradiction) | omega | (simp only [zN]; omega)) only [zS, reduceCtorEq, Nat.reduceAdd, Nat.reduceEqDiff, ↓reduceIte]
  refine hQ _ _ _ _ _ ?_
  refine RG.callo [] [] (volume_copied_con v ok) (.mk (by (repeat' (first | exact tr_nil | refine tr_cons ?_ ?_ | exact tr_agg (by repeat' (first | exact trivial | rfl | refine ⟨?_, ?_⟩))))) (by first | trivial | (simp only [zT, Nat.reduceEqDiff, Nat.reduceAdd, ↓reduceIte, reduceCtorEq]; done) | (simp only [zT, Nat.reduceEqDiff, Nat.reduceAdd, ↓reduceIte, reduceCtorEq]; trivial) | (simp only [zT, Nat.reduceEqDiff, Nat.reduceAdd, ↓reduceIte, reduceCtorEq]; repeat' (fail))) (by simp) (by simp) (trivial) (by first | (simp [lkE_cons, lkE_nil]; done) | (intro j hj; simp at hj; simp only [lkE_cons, lkE_nil]; repeat rw [if_neg (by omega)])) (by first | (simp [Ent.pure]; done) | (simp [Ent.pure]; repeat' (first | (first | exact drows_nrow _ | exact drows_wrow _) | refine ⟨?_, ?_⟩))) (by simp) (by simp)) ?_
  refine RG.go fun Q hQ => ?_
  simp (disch := first | (intros; contradiction) | omega | (simp only [zN]; omega)) only [zS, reduceCtorEq, Nat.reduceAdd, Nat.reduceEqDiff, ↓reduceIte]
  refine hQ _ _ _ _ _ (RG.nil ?_)
  try simp only [zX]
  refine aw_reg 224 (RG.go fun Q hQ => ?_)
  simp (disch := first | (intros; contradiction) | omega | (simp only [zN]; omega)) only [zS, reduceCtorEq, Nat.reduceAdd, Nat.reduceEqDiff, ↓reduceIte]
  refine hQ _ _ _ _ _ ?_
  refine RG.callo [] [] (volume_copied_con v ok) (.mk (by (repeat' (first | exact tr_nil | refine tr_cons ?_ ?_ | exact tr_agg (by repeat' (first | exact trivial | rfl | refine ⟨?_, ?_⟩))))) (by first | trivial | (simp only [zT, Nat.reduceEqDiff, Nat.reduceAdd, ↓reduceIte, reduceCtorEq]; done) | (simp only [zT, Nat.reduceEqDiff, Nat.reduceAdd, ↓reduceIte, reduceCtorEq]; trivial) | (simp only [zT, Nat.reduceEqDiff, Nat.reduceAdd, ↓reduceIte, reduceCtorEq]; repeat' (fail))) (by simp) (by simp) (trivial) (by first | (simp [lkE_cons, lkE_nil]; done) | (intro j hj; simp at hj; simp only [lkE_cons, lkE_nil]; repeat rw [if_neg (by omega)])) (by first | (simp [Ent.pure]; done) | (simp [Ent.pure]; repeat' (first | (first | exact drows_nrow _ | exact drows_wrow _) | refine ⟨?_, ?_⟩))) (by simp) (by simp)) ?_
  refine RG.go fun Q hQ => ?_
  simp (disch := first | (intros; contradiction) | omega | (simp only [zN]; omega)) only [zS, reduceCtorEq, Nat.reduceAdd, Nat.reduceEqDiff, ↓reduceIte]
  refine hQ _ _ _ _ _ (RG.nil ?_)
  try simp only [zX]
  refine aw_reg 304 (RG.go fun Q hQ => ?_)
  simp (disch := first | (intros; contradiction) | omega | (simp only [zN]; omega)) only [zS, reduceCtorEq, Nat.reduceAdd, Nat.reduceEqDiff, ↓reduceIte]
  refine hQ _ _ _ _ _ (RG.nil ?_)
  try simp only [zX]
  refine aw_reg 368 (RG.go fun Q hQ => ?_)
  simp (disch := first | (intros; contradiction) | omega | (simp only [zN]; omega)) only [zS, reduceCtorEq, Nat.reduceAdd, Nat.reduceEqDiff, ↓reduceIte, k2]
  refine hQ _ _ _ _ _ (RG.nil ?_)
  try simp only [zX]
  refine aw_cond _ rfl trivial (fun ht => by cases ht) (fun hf => ?_)
  try simp only [zX]
  refine aw_reg 432 (RG.go fun Q hQ => ?_)
  simp (disch := first | (intros; contradiction) | omega | (simp only [zN]; omega)) only [zS, reduceCtorEq, Nat.reduceAdd, Nat.reduceEqDiff, ↓reduceIte, k3]
  refine hQ _ _ _ _ _ (RG.nil ?_)
  try simp only [zX]
  refine aw_cond _ rfl trivial (fun ht => by cases ht) (fun hf => ?_)
  try simp only [zX]
  refine aw_reg 496 (RG.go fun Q hQ => ?_)
  simp (disch := first | (intros; contradiction) | omega | (simp only [zN]; omega)) only [zS, reduceCtorEq, Nat.reduceAdd, Nat.reduceEqDiff, ↓reduceIte, k4]
  refine hQ _ _ _ _ _ (RG.nil ?_)
  try simp only [zX]
  refine aw_cond _ rfl trivial (fun ht => by cases ht) (fun hf => ?_)
  try simp only [zX, Nat.reduceEqDiff, ↓reduceIte, reduceCtorEq]
  refine aw_reg 560 (RG.go fun Q hQ => ?_)
  simp (disch := first | (intros; contradiction) | omega | (simp only [zN]; omega)) only [zS, reduceCtorEq, Nat.reduceAdd, Nat.reduceEqDiff, ↓reduceIte, k5]
  refine hQ _ _ _ _ _ (RG.nil ?_)
  try simp only [zX]
  refine aw_cond _ rfl trivial (fun ht => ?_) (fun hf => by cases hf)
  try simp only [zX, Nat.reduceEqDiff, ↓reduceIte, reduceCtorEq]
  refine aw_reg 624 (RG.go fun Q hQ => ?_)
  simp (disch := first | (intros; contradiction) | omega | (simp only [zN]; omega)) only [zS, reduceCtorEq, Nat.reduceAdd, Nat.reduceEqDiff, ↓reduceIte]
  refine hQ _ _ _ _ _ ?_
  refine RG.callo [240, 241] [] (unpin_no v c ok h hk hn) (.mk (by (repeat' (first | exact tr_nil | refine tr_cons ?_ ?_ | exact tr_agg (by repeat' (first | exact trivial | rfl | refine ⟨?_, ?_⟩))))) (by first | trivial | (simp only [zT, Nat.reduceEqDiff, ↓reduceIte]; done) | (simp only [zT, Nat.reduceEqDiff, ↓reduceIte]; trivial) | (simp only [zT, Nat.reduceEqDiff, ↓reduceIte]; repeat' (first | (first | exact drows_nrow _ | exact drows_wrow _) | refine ⟨?_, ?_⟩))) (by simp) (by simp) (trivial) (by first | (simp [lkE_cons, lkE_nil]; done) | (intro j hj; simp at hj; simp only [setEs, setE_cons, setE_nil, lkE_cons, lkE_nil]; repeat rw [if_neg (by omega)])) (by first | (simp [Ent.pure]; done) | (simp [Ent.pure]; repeat' (first | (first | exact drows_nrow _ | exact drows_wrow _) | refine ⟨?_, ?_⟩))) (by simp) (by simp)) ?_
  refine RG.go fun Q hQ => ?_
  simp (disch := first | (intros; contradiction) | omega | (simp only [zN]; omega)) only [zS, reduceCtorEq, Nat.reduceAdd, Nat.reduceEqDiff, ↓reduceIte, vO_eq]
  refine hQ _ _ _ _ _ (RG.nil ?_)
  try simp only [zX]
  refine aw_reg 784 (RG.go fun Q hQ => ?_)
  simp (disch := first | (intros; contradiction) | omega | (simp only [zN]; omega)) only [zS, reduceCtorEq, Nat.reduceAdd, Nat.reduceEqDiff, ↓reduceIte, Int.reduceBNe]
  refine hQ _ _ _ _ _ (RG.nil ?_)
  try simp only [zX]
  refine aw_cond _ rfl trivial (fun ht => ?_) (fun hf => by cases hf)
  try simp only [zX]
  refine aw_reg 848 (RG.go fun Q hQ => ?_)
  simp (disch := first | (intros; contradiction) | omega | (simp only [zN]; omega)) only [zS, reduceCtorEq, Nat.reduceAdd, Nat.reduceEqDiff, Nat.reduceLeDiff, ↓reduceIte]
  refine hQ _ _ _ _ _ (RG.nil ?_)
  try simp only [zX]
  refine Fin.data [128, 129] (.inr rfl) rfl (by (exact ⟨trivial, trivial, trivial⟩)) ?_
  simp only [zL, Nat.reduceEqDiff, ↓reduceIte]
  all_goals ((repeat' (first | exact trivial | rfl | (refine ⟨⟨_, _, rfl⟩, ?_⟩; (first | exact drows_nrow _ | exact drows_wrow _)) | refine ⟨?_, ?_⟩)))

theorem Do_unpin_yes (v : VOL) (c : CMD) (ok : Vok v) (hk : c.kind = 5) (h : v.hid = false) (k : Nat) (hkl : k < v.pins.length) (hkt : v.pins[k] = c.at') (hn : ∀ i (hi : i < v.pins.length), i < k → v.pins[i] ≠ c.at') (P : List Int) (hP : v.pins.take k ++ v.pins.drop (k + 1) = P) : Con Try.prog 18 [.agg (volC v), .agg (cmdC c)] [] (doR (done { v with pins := P })) [] := by
  have k2 : (c.kind == 2) = false := by rw [hk]; rfl
  have k3 : (c.kind == 3) = false := by rw [hk]; rfl
  have k4 : (c.kind == 4) = false := by rw [hk]; rfl
  have k5 : (c.kind == 5) = true := by rw [hk]; rfl
  have k6 : (c.kind == 6) = false := by rw [hk]; rfl
  have k7 : (c.kind == 7) = false := by rw [hk]; rfl
  have k8 : (c.kind == 8) = false := by rw [hk]; rfl
  refine C_volume_Do (Nat.le_of_ble_eq_true rfl) (Nat.le_of_ble_eq_true rfl) ?_
  simp only [A_volume_Do, argL, objL, List.length_nil, Nat.zero_add, zX]
  refine aw_reg 16 (RG.go fun Q hQ => ?_)
  simp (disch := first | (intros; contradiction) | omega | (simp only [zN]; omega)) only [zS, reduceCtorEq, Nat.reduceAdd, Nat.reduceEqDiff, ↓reduceIte, vC_eq, cmdC, cC]
  refine hQ _ _ _ _ _ (RG.nil ?_)
  try simp only [zX]
  refine aw_reg 112 (RG.go fun Q hQ => ?_)
  simp (disch := first | (intros; contradiction) | omega | (simp only [zN]; omega)) only [zS, reduceCtorEq, Nat.reduceAdd, Nat.reduceEqDiff, ↓reduceIte]
  refine hQ _ _ _ _ _ ?_
  refine RG.callo [] [] (volume_copied_con v ok) (.mk (by (repeat' (first | exact tr_nil | refine tr_cons ?_ ?_ | exact tr_agg (by repeat' (first | exact trivial | rfl | refine ⟨?_, ?_⟩))))) (by first | trivial | (simp only [zT, Nat.reduceEqDiff, Nat.reduceAdd, ↓reduceIte, reduceCtorEq]; done) | (simp only [zT, Nat.reduceEqDiff, Nat.reduceAdd, ↓reduceIte, reduceCtorEq]; trivial) | (simp only [zT, Nat.reduceEqDiff, Nat.reduceAdd, ↓reduceIte, reduceCtorEq]; repeat' (fail))) (by simp) (by simp) (trivial) (by first | (simp [lkE_cons, lkE_nil]; done) | (intro j hj; simp at hj; simp only [lkE_cons, lkE_nil]; repeat rw [if_neg (by omega)])) (by first | (simp [Ent.pure]; done) | (simp [Ent.pure]; repeat' (first | (first | exact drows_nrow _ | exact drows_wrow _) | refine ⟨?_, ?_⟩))) (by simp) (by simp)) ?_
  refine RG.go fun Q hQ => ?_
  simp (disch := first | (intros; contradiction) | omega | (simp only [zN]; omega)) only [zS, reduceCtorEq, Nat.reduceAdd, Nat.reduceEqDiff, ↓reduceIte]
  refine hQ _ _ _ _ _ (RG.nil ?_)
  try simp only [zX]
  refine aw_reg 224 (RG.go fun Q hQ => ?_)
  simp (disch := first | (intros; contradiction) | omega | (simp only [zN]; omega)) only [zS, reduceCtorEq, Nat.reduceAdd, Nat.reduceEqDiff, ↓reduceIte]
  refine hQ _ _ _ _ _ ?_
  refine RG.callo [] [] (volume_copied_con v ok) (.mk (by (repeat' (first | exact tr_nil | refine tr_cons ?_ ?_ | exact tr_agg (by repeat' (first | exact trivial | rfl | refine ⟨?_, ?_⟩))))) (by first | trivial | (simp only [zT, Nat.reduceEqDiff, Nat.reduceAdd, ↓reduceIte, reduceCtorEq]; done) | (simp only [zT, Nat.reduceEqDiff, Nat.reduceAdd, ↓reduceIte, reduceCtorEq]; trivial) | (simp only [zT, Nat.reduceEqDiff, Nat.reduceAdd, ↓reduceIte, reduceCtorEq]; repeat' (fail))) (by simp) (by simp) (trivial) (by first | (simp [lkE_cons, lkE_nil]; done) | (intro j hj; simp at hj; simp only [lkE_cons, lkE_nil]; repeat rw [if_neg (by omega)])) (by first | (simp [Ent.pure]; done) | (simp [Ent.pure]; repeat' (first | (first | exact drows_nrow _ | exact drows_wrow _) | refine ⟨?_, ?_⟩))) (by simp) (by simp)) ?_
  refine RG.go fun Q hQ => ?_
  simp (disch := first | (intros; contradiction) | omega | (simp only [zN]; omega)) only [zS, reduceCtorEq, Nat.reduceAdd, Nat.reduceEqDiff, ↓reduceIte]
  refine hQ _ _ _ _ _ (RG.nil ?_)
  try simp only [zX]
  refine aw_reg 304 (RG.go fun Q hQ => ?_)
  simp (disch := first | (intros; contradiction) | omega | (simp only [zN]; omega)) only [zS, reduceCtorEq, Nat.reduceAdd, Nat.reduceEqDiff, ↓reduceIte]
  refine hQ _ _ _ _ _ (RG.nil ?_)
  try simp only [zX]
  refine aw_reg 368 (RG.go fun Q hQ => ?_)
  simp (disch := first | (intros; contradiction) | omega | (simp only [zN]; omega)) only [zS, reduceCtorEq, Nat.reduceAdd, Nat.reduceEqDiff, ↓reduceIte, k2]
  refine hQ _ _ _ _ _ (RG.nil ?_)
  try simp only [zX]
  refine aw_cond _ rfl trivial (fun ht => by cases ht) (fun hf => ?_)
  try simp only [zX]
  refine aw_reg 432 (RG.go fun Q hQ => ?_)
  simp (disch := first | (intros; contradiction) | omega | (simp only [zN]; omega)) only [zS, reduceCtorEq, Nat.reduceAdd, Nat.reduceEqDiff, ↓reduceIte, k3]
  refine hQ _ _ _ _ _ (RG.nil ?_)
  try simp only [zX]
  refine aw_cond _ rfl trivial (fun ht => by cases ht) (fun hf => ?_)
  try simp only [zX]
  refine aw_reg 496 (RG.go fun Q hQ => ?_)
  simp (disch := first | (intros; contradiction) | omega | (simp only [zN]; omega)) only [zS, reduceCtorEq, Nat.reduceAdd, Nat.reduceEqDiff, ↓reduceIte, k4]
  refine hQ _ _ _ _ _ (RG.nil ?_)
  try simp only [zX]
  refine aw_cond _ rfl trivial (fun ht => by cases ht) (fun hf => ?_)
  try simp only [zX, Nat.reduceEqDiff, ↓reduceIte, reduceCtorEq]
  refine aw_reg 560 (RG.go fun Q hQ => ?_)
  simp (disch := first | (intros; contradiction) | omega | (simp only [zN]; omega)) only [zS, reduceCtorEq, Nat.reduceAdd, Nat.reduceEqDiff, ↓reduceIte, k5]
  refine hQ _ _ _ _ _ (RG.nil ?_)
  try simp only [zX]
  refine aw_cond _ rfl trivial (fun ht => ?_) (fun hf => by cases hf)
  try simp only [zX, Nat.reduceEqDiff, ↓reduceIte, reduceCtorEq]
  refine aw_reg 624 (RG.go fun Q hQ => ?_)
  simp (disch := first | (intros; contradiction) | omega | (simp only [zN]; omega)) only [zS, reduceCtorEq, Nat.reduceAdd, Nat.reduceEqDiff, ↓reduceIte]
  refine hQ _ _ _ _ _ ?_
  refine RG.callo [240, 241] [] (unpin_yes v c ok h hk k hkl hkt hn P hP) (.mk (by (repeat' (first | exact tr_nil | refine tr_cons ?_ ?_ | exact tr_agg (by repeat' (first | exact trivial | rfl | refine ⟨?_, ?_⟩))))) (by first | trivial | (simp only [zT, Nat.reduceEqDiff, ↓reduceIte]; done) | (simp only [zT, Nat.reduceEqDiff, ↓reduceIte]; trivial) | (simp only [zT, Nat.reduceEqDiff, ↓reduceIte]; repeat' (first | (first | exact drows_nrow _ | exact drows_wrow _) | refine ⟨?_, ?_⟩))) (by simp) (by simp) (trivial) (by first | (simp [lkE_cons, lkE_nil]; done) | (intro j hj; simp at hj; simp only [setEs, setE_cons, setE_nil, lkE_cons, lkE_nil]; repeat rw [if_neg (by omega)])) (by first | (simp [Ent.pure]; done) | (simp [Ent.pure]; repeat' (first | (first | exact drows_nrow _ | exact drows_wrow _) | refine ⟨?_, ?_⟩))) (by simp) (by simp)) ?_
  refine RG.go fun Q hQ => ?_
  simp (disch := first | (intros; contradiction) | omega | (simp only [zN]; omega)) only [zS, reduceCtorEq, Nat.reduceAdd, Nat.reduceEqDiff, Nat.reduceSub, ↓reduceIte, vO_eq]
  refine hQ _ _ _ _ _ (RG.nil ?_)
  try simp only [zX]
  refine aw_reg 784 (RG.go fun Q hQ => ?_)
  simp (disch := first | (intros; contradiction) | omega | (simp only [zN]; omega)) only [zS, reduceCtorEq, Nat.reduceAdd, Nat.reduceEqDiff, ↓reduceIte, Int.reduceBNe]
  refine hQ _ _ _ _ _ (RG.nil ?_)
  try simp only [zX]
  refine aw_cond _ rfl trivial (fun ht => by cases ht) (fun hf => ?_)
  try simp only [zX]
  refine aw_draw 848 (RG.go fun Q hQ => ?_)
  simp (disch := first | (intros; contradiction) | omega | (simp only [zN]; omega)) only [zS, reduceCtorEq, Nat.reduceAdd, Nat.reduceEqDiff, ↓reduceIte]
  refine hQ _ _ _ _ _ ?_
  refine RG.call [656, 241] (volume_Len_con { v with pins := P }) (by (repeat' (first | exact tr_nil | refine tr_cons ?_ ?_ | exact tr_agg (by (repeat' (first | exact trivial | rfl | (refine ⟨by simp, _, _, _, rfl, ?_⟩; (first | exact drows_nrow _ | exact drows_wrow _)) | refine ⟨?_, ?_⟩)))))) (by repeat' (first | exact trivial | refine views1 rfl ?_)) (by (exact .inl trivial)) ?_
  refine RG.go fun Q hQ => ?_
  simp (disch := first | (intros; contradiction) | omega | (simp only [zN]; omega)) only [zS, reduceCtorEq, Nat.reduceAdd, Nat.reduceEqDiff, Nat.reduceLeDiff, ↓reduceIte]
  refine hQ _ _ _ _ _ (RG.nil ⟨by decide +kernel, ?_⟩)
  try simp only [zX]
  refine Fin.data [656, 241] (.inr rfl) rfl (by (exact ⟨trivial, trivial, trivial⟩)) ?_
  simp only [zL, Nat.reduceEqDiff, ↓reduceIte]
  all_goals ((repeat' (first | exact trivial | rfl | (refine ⟨⟨_, _, rfl⟩, ?_⟩; (first | exact drows_nrow _ | exact drows_wrow _)) | refine ⟨?_, ?_⟩)))

theorem Do_imp6_no (v : VOL) (c : CMD) (ok : Vok v) (hk : c.kind = 6) (hl : c.items.length ≤ 1000000) (hd : ∀ x ∈ c.items, x.d.length ≤ 1000000) (w : VOL) (e : Int) (h : impS v c = some (w, e)) (he0 : e ≠ 0) : Con Try.prog 18 [.agg (volC v), .agg (cmdC c)] [] (doR (fail v e)) [] := by
  have k2 : (c.kind == 2) = false := by rw [hk]; rfl
  have k3 : (c.kind == 3) = false := by rw [hk]; rfl
  have k4 : (c.kind == 4) = false := by rw [hk]; rfl
  have k5 : (c.kind == 5) = false := by rw [hk]; rfl
  have k6 : (c.kind == 6) = true := by rw [hk]; rfl
  have k7 : (c.kind == 7) = false := by rw [hk]; rfl
  have k8 : (c.kind == 8) = false := by rw [hk]; rfl
  refine C_volume_Do (Nat.le_of_ble_eq_true rfl) (Nat.le_of_ble_eq_true rfl) ?_
  simp only [A_volume_Do, argL, objL, List.length_nil, Nat.zero_add, zX]
  refine aw_reg 16 (RG.go fun Q hQ => ?_)
  simp (disch := first | (intros; contradiction) | omega | (simp only [zN]; omega)) only [zS, reduceCtorEq, Nat.reduceAdd, Nat.reduceEqDiff, ↓reduceIte, vC_eq, cmdC, cC]
  refine hQ _ _ _ _ _ (RG.nil ?_)
  try simp only [zX]
  refine aw_reg 112 (RG.go fun Q hQ => ?_)
  simp (disch := first | (intros; contradiction) | omega | (simp only [zN]; omega)) only [zS, reduceCtorEq, Nat.reduceAdd, Nat.reduceEqDiff, ↓reduceIte]
  refine hQ _ _ _ _ _ ?_
  refine RG.callo [] [] (volume_copied_con v ok) (.mk (by (repeat' (first | exact tr_nil | refine tr_cons ?_ ?_ | exact tr_agg (by repeat' (first | exact trivial | rfl | refine ⟨?_, ?_⟩))))) (by first | trivial | (simp only [zT, Nat.reduceEqDiff, Nat.reduceAdd, ↓reduceIte, reduceCtorEq]; done) | (simp only [zT, Nat.reduceEqDiff, Nat.reduceAdd, ↓reduceIte, reduceCtorEq]; trivial) | (simp only [zT, Nat.reduceEqDiff, Nat.reduceAdd, ↓reduceIte, reduceCtorEq]; repeat' (fail))) (by simp) (by simp) (trivial) (by first | (simp [lkE_cons, lkE_nil]; done) | (intro j hj; simp at hj; simp only [lkE_cons, lkE_nil]; repeat rw [if_neg (by omega)])) (by first | (simp [Ent.pure]; done) | (simp [Ent.pure]; repeat' (first | (first | exact drows_nrow _ | exact drows_wrow _) | refine ⟨?_, ?_⟩))) (by simp) (by simp)) ?_
  refine RG.go fun Q hQ => ?_
  simp (disch := first | (intros; contradiction) | omega | (simp only [zN]; omega)) only [zS, reduceCtorEq, Nat.reduceAdd, Nat.reduceEqDiff, ↓reduceIte]
  refine hQ _ _ _ _ _ (RG.nil ?_)
  try simp only [zX]
  refine aw_reg 224 (RG.go fun Q hQ => ?_)
  simp (disch := first | (intros; contradiction) | omega | (simp only [zN]; omega)) only [zS, reduceCtorEq, Nat.reduceAdd, Nat.reduceEqDiff, ↓reduceIte]
  refine hQ _ _ _ _ _ ?_
  refine RG.callo [] [] (volume_copied_con v ok) (.mk (by (repeat' (first | exact tr_nil | refine tr_cons ?_ ?_ | exact tr_agg (by repeat' (first | exact trivial | rfl | refine ⟨?_, ?_⟩))))) (by first | trivial | (simp only [zT, Nat.reduceEqDiff, Nat.reduceAdd, ↓reduceIte, reduceCtorEq]; done) | (simp only [zT, Nat.reduceEqDiff, Nat.reduceAdd, ↓reduceIte, reduceCtorEq]; trivial) | (simp only [zT, Nat.reduceEqDiff, Nat.reduceAdd, ↓reduceIte, reduceCtorEq]; repeat' (fail))) (by simp) (by simp) (trivial) (by first | (simp [lkE_cons, lkE_nil]; done) | (intro j hj; simp at hj; simp only [lkE_cons, lkE_nil]; repeat rw [if_neg (by omega)])) (by first | (simp [Ent.pure]; done) | (simp [Ent.pure]; repeat' (first | (first | exact drows_nrow _ | exact drows_wrow _) | refine ⟨?_, ?_⟩))) (by simp) (by simp)) ?_
  refine RG.go fun Q hQ => ?_
  simp (disch := first | (intros; contradiction) | omega | (simp only [zN]; omega)) only [zS, reduceCtorEq, Nat.reduceAdd, Nat.reduceEqDiff, ↓reduceIte]
  refine hQ _ _ _ _ _ (RG.nil ?_)
  try simp only [zX]
  refine aw_reg 304 (RG.go fun Q hQ => ?_)
  simp (disch := first | (intros; contradiction) | omega | (simp only [zN]; omega)) only [zS, reduceCtorEq, Nat.reduceAdd, Nat.reduceEqDiff, ↓reduceIte]
  refine hQ _ _ _ _ _ (RG.nil ?_)
  try simp only [zX]
  refine aw_reg 368 (RG.go fun Q hQ => ?_)
  simp (disch := first | (intros; contradiction) | omega | (simp only [zN]; omega)) only [zS, reduceCtorEq, Nat.reduceAdd, Nat.reduceEqDiff, ↓reduceIte, k2]
  refine hQ _ _ _ _ _ (RG.nil ?_)
  try simp only [zX]
  refine aw_cond _ rfl trivial (fun ht => by cases ht) (fun hf => ?_)
  try simp only [zX]
  refine aw_reg 432 (RG.go fun Q hQ => ?_)
  simp (disch := first | (intros; contradiction) | omega | (simp only [zN]; omega)) only [zS, reduceCtorEq, Nat.reduceAdd, Nat.reduceEqDiff, ↓reduceIte, k3]
  refine hQ _ _ _ _ _ (RG.nil ?_)
  try simp only [zX]
  refine aw_cond _ rfl trivial (fun ht => by cases ht) (fun hf => ?_)
  try simp only [zX]
  refine aw_reg 496 (RG.go fun Q hQ => ?_)
  simp (disch := first | (intros; contradiction) | omega | (simp only [zN]; omega)) only [zS, reduceCtorEq, Nat.reduceAdd, Nat.reduceEqDiff, ↓reduceIte, k4]
  refine hQ _ _ _ _ _ (RG.nil ?_)
  try simp only [zX]
  refine aw_cond _ rfl trivial (fun ht => by cases ht) (fun hf => ?_)
  try simp only [zX, Nat.reduceEqDiff, ↓reduceIte, reduceCtorEq]
  refine aw_reg 560 (RG.go fun Q hQ => ?_)
  simp (disch := first | (intros; contradiction) | omega | (simp only [zN]; omega)) only [zS, reduceCtorEq, Nat.reduceAdd, Nat.reduceEqDiff, ↓reduceIte, k5]
  refine hQ _ _ _ _ _ (RG.nil ?_)
  try simp only [zX]
  refine aw_cond _ rfl trivial (fun ht => by cases ht) (fun hf => ?_)
  try simp only [zX]
  refine aw_reg 624 (RG.go fun Q hQ => ?_)
  simp (disch := first | (intros; contradiction) | omega | (simp only [zN]; omega)) only [zS, reduceCtorEq, Nat.reduceAdd, Nat.reduceEqDiff, ↓reduceIte, k6]
  refine hQ _ _ _ _ _ (RG.nil ?_)
  try simp only [zX]
  refine aw_cond _ rfl trivial (fun ht => ?_) (fun hf => by cases hf)
  try simp only [zX]
  refine aw_cond _ rfl trivial (fun ht => ?_) (fun hf => by cases hf)
  try simp only [zX, Nat.reduceEqDiff, ↓reduceIte, reduceCtorEq]
  refine aw_reg 688 (RG.go fun Q hQ => ?_)
  simp (disch := first | (intros; contradiction) | omega | (simp only [zN]; omega)) only [zS, reduceCtorEq, Nat.reduceAdd, Nat.reduceEqDiff, ↓reduceIte]
  refine hQ _ _ _ _ _ ?_
  refine RG.callo [240, 241] [] (volume_imports_same v c ok hl hd w e h) (.mk (by (repeat' (first | exact tr_nil | refine tr_cons ?_ ?_ | exact tr_agg (by repeat' (first | exact trivial | rfl | refine ⟨?_, ?_⟩))))) (by first | trivial | (simp only [zT, Nat.reduceEqDiff, ↓reduceIte]; done) | (simp only [zT, Nat.reduceEqDiff, ↓reduceIte]; trivial) | (simp only [zT, Nat.reduceEqDiff, ↓reduceIte]; repeat' (first | (first | exact drows_nrow _ | exact drows_wrow _) | refine ⟨?_, ?_⟩))) (by simp) (by simp) (trivial) (by first | (simp [lkE_cons, lkE_nil]; done) | (intro j hj; simp at hj; simp only [setEs, setE_cons, setE_nil, lkE_cons, lkE_nil]; repeat rw [if_neg (by omega)])) (by first | (simp [Ent.pure]; done) | (simp [Ent.pure]; repeat' (first | (first | exact drows_nrow _ | exact drows_wrow _) | refine ⟨?_, ?_⟩))) (by simp) (by simp)) ?_
  refine RG.go fun Q hQ => ?_
  simp (disch := first | (intros; contradiction) | omega | (simp only [zN]; omega)) only [zS, reduceCtorEq, Nat.reduceAdd, Nat.reduceEqDiff, ↓reduceIte, vO_eq]
  refine hQ _ _ _ _ _ (RG.nil ?_)
  try simp only [zX]
  refine aw_reg 848 (RG.go fun Q hQ => ?_)
  simp (disch := first | (intros; contradiction) | omega | (simp only [zN]; omega)) only [zS, reduceCtorEq, Nat.reduceAdd, Nat.reduceEqDiff, ↓reduceIte]
  refine hQ _ _ _ _ _ (RG.nil ?_)
  try simp only [zX]
  refine aw_cond _ rfl trivial (fun ht => ?_) (fun hf => by simp at hf; exact absurd hf he0)
  try simp only [zX]
  refine aw_reg 912 (RG.go fun Q hQ => ?_)
  simp (disch := first | (intros; contradiction) | omega | (simp only [zN]; omega)) only [zS, reduceCtorEq, Nat.reduceAdd, Nat.reduceEqDiff, Nat.reduceLeDiff, ↓reduceIte]
  refine hQ _ _ _ _ _ (RG.nil ?_)
  try simp only [zX]
  refine Fin.data [128, 129] (.inr rfl) rfl (by (exact ⟨trivial, trivial, trivial⟩)) ?_
  simp only [zL, Nat.reduceEqDiff, ↓reduceIte]
  all_goals ((repeat' (first | exact trivial | rfl | (refine ⟨⟨_, _, rfl⟩, ?_⟩; (first | exact drows_nrow _ | exact drows_wrow _)) | refine ⟨?_, ?_⟩)))

theorem Do_imp6_same (v : VOL) (c : CMD) (ok : Vok v) (hk : c.kind = 6) (hl : c.items.length ≤ 1000000) (hd : ∀ x ∈ c.items, x.d.length ≤ 1000000) (h : impS v c = some (v, 0)) : Con Try.prog 18 [.agg (volC v), .agg (cmdC c)] [] (doR (done (v))) [] := by
  have k2 : (c.kind == 2) = false := by rw [hk]; rfl
  have k3 : (c.kind == 3) = false := by rw [hk]; rfl
  have k4 : (c.kind == 4) = false := by rw [hk]; rfl
  have k5 : (c.kind == 5) = false := by rw [hk]; rfl
  have k6 : (c.kind == 6) = true := by rw [hk]; rfl
  have k7 : (c.kind == 7) = false := by rw [hk]; rfl
  have k8 : (c.kind == 8) = false := by rw [hk]; rfl
  refine C_volume_Do (Nat.le_of_ble_eq_true rfl) (Nat.le_of_ble_eq_true rfl) ?_
  simp only [A_volume_Do, argL, objL, List.length_nil, Nat.zero_add, zX]
  refine aw_reg 16 (RG.go fun Q hQ => ?_)
  simp (disch := first | (intros; contradiction) | omega | (simp only [zN]; omega)) only [zS, reduceCtorEq, Nat.reduceAdd, Nat.reduceEqDiff, ↓reduceIte, vC_eq, cmdC, cC]
  refine hQ _ _ _ _ _ (RG.nil ?_)
  try simp only [zX]
  refine aw_reg 112 (RG.go fun Q hQ => ?_)
  simp (disch := first | (intros; contradiction) | omega | (simp only [zN]; omega)) only [zS, reduceCtorEq, Nat.reduceAdd, Nat.reduceEqDiff, ↓reduceIte]
  refine hQ _ _ _ _ _ ?_
  refine RG.callo [] [] (volume_copied_con v ok) (.mk (by (repeat' (first | exact tr_nil | refine tr_cons ?_ ?_ | exact tr_agg (by repeat' (first | exact trivial | rfl | refine ⟨?_, ?_⟩))))) (by first | trivial | (simp only [zT, Nat.reduceEqDiff, Nat.reduceAdd, ↓reduceIte, reduceCtorEq]; done) | (simp only [zT, Nat.reduceEqDiff, Nat.reduceAdd, ↓reduceIte, reduceCtorEq]; trivial) | (simp only [zT, Nat.reduceEqDiff, Nat.reduceAdd, ↓reduceIte, reduceCtorEq]; repeat' (fail))) (by simp) (by simp) (trivial) (by first | (simp [lkE_cons, lkE_nil]; done) | (intro j hj; simp at hj; simp only [lkE_cons, lkE_nil]; repeat rw [if_neg (by omega)])) (by first | (simp [Ent.pure]; done) | (simp [Ent.pure]; repeat' (first | (first | exact drows_nrow _ | exact drows_wrow _) | refine ⟨?_, ?_⟩))) (by simp) (by simp)) ?_
  refine RG.go fun Q hQ => ?_
  simp (disch := first | (intros; contradiction) | omega | (simp only [zN]; omega)) only [zS, reduceCtorEq, Nat.reduceAdd, Nat.reduceEqDiff, ↓reduceIte]
  refine hQ _ _ _ _ _ (RG.nil ?_)
  try simp only [zX]
  refine aw_reg 224 (RG.go fun Q hQ => ?_)
  simp (disch := first | (intros; contradiction) | omega | (simp only [zN]; omega)) only [zS, reduceCtorEq, Nat.reduceAdd, Nat.reduceEqDiff, ↓reduceIte]
  refine hQ _ _ _ _ _ ?_
  refine RG.callo [] [] (volume_copied_con v ok) (.mk (by (repeat' (first | exact tr_nil | refine tr_cons ?_ ?_ | exact tr_agg (by repeat' (first | exact trivial | rfl | refine ⟨?_, ?_⟩))))) (by first | trivial | (simp only [zT, Nat.reduceEqDiff, Nat.reduceAdd, ↓reduceIte, reduceCtorEq]; done) | (simp only [zT, Nat.reduceEqDiff, Nat.reduceAdd, ↓reduceIte, reduceCtorEq]; trivial) | (simp only [zT, Nat.reduceEqDiff, Nat.reduceAdd, ↓reduceIte, reduceCtorEq]; repeat' (fail))) (by simp) (by simp) (trivial) (by first | (simp [lkE_cons, lkE_nil]; done) | (intro j hj; simp at hj; simp only [lkE_cons, lkE_nil]; repeat rw [if_neg (by omega)])) (by first | (simp [Ent.pure]; done) | (simp [Ent.pure]; repeat' (first | (first | exact drows_nrow _ | exact drows_wrow _) | refine ⟨?_, ?_⟩))) (by simp) (by simp)) ?_
  refine RG.go fun Q hQ => ?_
  simp (disch := first | (intros; contradiction) | omega | (simp only [zN]; omega)) only [zS, reduceCtorEq, Nat.reduceAdd, Nat.reduceEqDiff, ↓reduceIte]
  refine hQ _ _ _ _ _ (RG.nil ?_)
  try simp only [zX]
  refine aw_reg 304 (RG.go fun Q hQ => ?_)
  simp (disch := first | (intros; contradiction) | omega | (simp only [zN]; omega)) only [zS, reduceCtorEq, Nat.reduceAdd, Nat.reduceEqDiff, ↓reduceIte]
  refine hQ _ _ _ _ _ (RG.nil ?_)
  try simp only [zX]
  refine aw_reg 368 (RG.go fun Q hQ => ?_)
  simp (disch := first | (intros; contradiction) | omega | (simp only [zN]; omega)) only [zS, reduceCtorEq, Nat.reduceAdd, Nat.reduceEqDiff, ↓reduceIte, k2]
  refine hQ _ _ _ _ _ (RG.nil ?_)
  try simp only [zX]
  refine aw_cond _ rfl trivial (fun ht => by cases ht) (fun hf => ?_)
  try simp only [zX]
  refine aw_reg 432 (RG.go fun Q hQ => ?_)
  simp (disch := first | (intros; contradiction) | omega | (simp only [zN]; omega)) only [zS, reduceCtorEq, Nat.reduceAdd, Nat.reduceEqDiff, ↓reduceIte, k3]
  refine hQ _ _ _ _ _ (RG.nil ?_)
  try simp only [zX]
  refine aw_cond _ rfl trivial (fun ht => by cases ht) (fun hf => ?_)
  try simp only [zX]
  refine aw_reg 496 (RG.go fun Q hQ => ?_)
  simp (disch := first | (intros; contradiction) | omega | (simp only [zN]; omega)) only [zS, reduceCtorEq, Nat.reduceAdd, Nat.reduceEqDiff, ↓reduceIte, k4]
  refine hQ _ _ _ _ _ (RG.nil ?_)
  try simp only [zX]
  refine aw_cond _ rfl trivial (fun ht => by cases ht) (fun hf => ?_)
  try simp only [zX, Nat.reduceEqDiff, ↓reduceIte, reduceCtorEq]
  refine aw_reg 560 (RG.go fun Q hQ => ?_)
  simp (disch := first | (intros; contradiction) | omega | (simp only [zN]; omega)) only [zS, reduceCtorEq, Nat.reduceAdd, Nat.reduceEqDiff, ↓reduceIte, k5]
  refine hQ _ _ _ _ _ (RG.nil ?_)
  try simp only [zX]
  refine aw_cond _ rfl trivial (fun ht => by cases ht) (fun hf => ?_)
  try simp only [zX]
  refine aw_reg 624 (RG.go fun Q hQ => ?_)
  simp (disch := first | (intros; contradiction) | omega | (simp only [zN]; omega)) only [zS, reduceCtorEq, Nat.reduceAdd, Nat.reduceEqDiff, ↓reduceIte, k6]
  refine hQ _ _ _ _ _ (RG.nil ?_)
  try simp only [zX]
  refine aw_cond _ rfl trivial (fun ht => ?_) (fun hf => by cases hf)
  try simp only [zX]
  refine aw_cond _ rfl trivial (fun ht => ?_) (fun hf => by cases hf)
  try simp only [zX, Nat.reduceEqDiff, ↓reduceIte, reduceCtorEq]
  refine aw_reg 688 (RG.go fun Q hQ => ?_)
  simp (disch := first | (intros; contradiction) | omega | (simp only [zN]; omega)) only [zS, reduceCtorEq, Nat.reduceAdd, Nat.reduceEqDiff, ↓reduceIte]
  refine hQ _ _ _ _ _ ?_
  refine RG.callo [240, 241] [] (volume_imports_same v c ok hl hd _ 0 h) (.mk (by (repeat' (first | exact tr_nil | refine tr_cons ?_ ?_ | exact tr_agg (by repeat' (first | exact trivial | rfl | refine ⟨?_, ?_⟩))))) (by first | trivial | (simp only [zT, Nat.reduceEqDiff, ↓reduceIte]; done) | (simp only [zT, Nat.reduceEqDiff, ↓reduceIte]; trivial) | (simp only [zT, Nat.reduceEqDiff, ↓reduceIte]; repeat' (first | (first | exact drows_nrow _ | exact drows_wrow _) | refine ⟨?_, ?_⟩))) (by simp) (by simp) (trivial) (by first | (simp [lkE_cons, lkE_nil]; done) | (intro j hj; simp at hj; simp only [setEs, setE_cons, setE_nil, lkE_cons, lkE_nil]; repeat rw [if_neg (by omega)])) (by first | (simp [Ent.pure]; done) | (simp [Ent.pure]; repeat' (first | (first | exact drows_nrow _ | exact drows_wrow _) | refine ⟨?_, ?_⟩))) (by simp) (by simp)) ?_
  refine RG.go fun Q hQ => ?_
  simp (disch := first | (intros; contradiction) | omega | (simp only [zN]; omega)) only [zS, reduceCtorEq, Nat.reduceAdd, Nat.reduceEqDiff, ↓reduceIte, vO_eq]
  refine hQ _ _ _ _ _ (RG.nil ?_)
  try simp only [zX]
  refine aw_reg 848 (RG.go fun Q hQ => ?_)
  simp (disch := first | (intros; contradiction) | omega | (simp only [zN]; omega)) only [zS, reduceCtorEq, Nat.reduceAdd, Nat.reduceEqDiff, ↓reduceIte, Int.reduceBNe]
  refine hQ _ _ _ _ _ (RG.nil ?_)
  try simp only [zX]
  refine aw_cond _ rfl trivial (fun ht => by cases ht) (fun hf => ?_)
  try simp only [zX]
  refine aw_draw 912 (RG.go fun Q hQ => ?_)
  simp (disch := first | (intros; contradiction) | omega | (simp only [zN]; omega)) only [zS, reduceCtorEq, Nat.reduceAdd, Nat.reduceEqDiff, ↓reduceIte]
  refine hQ _ _ _ _ _ ?_
  refine RG.call [240, 241] (volume_Len_con (v)) (by (repeat' (first | exact tr_nil | refine tr_cons ?_ ?_ | exact tr_agg (by (repeat' (first | exact trivial | rfl | (refine ⟨by simp, _, _, _, rfl, ?_⟩; (first | exact drows_nrow _ | exact drows_wrow _)) | refine ⟨?_, ?_⟩)))))) (by repeat' (first | exact trivial | refine views1 rfl ?_)) (by (exact .inl trivial)) ?_
  refine RG.go fun Q hQ => ?_
  simp (disch := first | (intros; contradiction) | omega | (simp only [zN]; omega)) only [zS, reduceCtorEq, Nat.reduceAdd, Nat.reduceEqDiff, Nat.reduceLeDiff, ↓reduceIte]
  refine hQ _ _ _ _ _ (RG.nil ⟨by decide +kernel, ?_⟩)
  try simp only [zX]
  refine Fin.data [240, 241] (.inr rfl) rfl (by (exact ⟨trivial, trivial, trivial⟩)) ?_
  simp only [zL, Nat.reduceEqDiff, ↓reduceIte]
  all_goals ((repeat' (first | exact trivial | rfl | (refine ⟨⟨_, _, rfl⟩, ?_⟩; (first | exact drows_nrow _ | exact drows_wrow _)) | refine ⟨?_, ?_⟩)))

theorem Do_imp6_write (v : VOL) (c : CMD) (ok : Vok v) (hk : c.kind = 6) (hl : c.items.length ≤ 1000000) (hd : ∀ x ∈ c.items, x.d.length ≤ 1000000) (hn : v.next ≤ 1099511627776 ∧ 0 ≤ v.next) (h : impS v c = none) : Con Try.prog 18 [.agg (volC v), .agg (cmdC c)] [] (doR (done (addN v c.items))) [] := by
  have k2 : (c.kind == 2) = false := by rw [hk]; rfl
  have k3 : (c.kind == 3) = false := by rw [hk]; rfl
  have k4 : (c.kind == 4) = false := by rw [hk]; rfl
  have k5 : (c.kind == 5) = false := by rw [hk]; rfl
  have k6 : (c.kind == 6) = true := by rw [hk]; rfl
  have k7 : (c.kind == 7) = false := by rw [hk]; rfl
  have k8 : (c.kind == 8) = false := by rw [hk]; rfl
  refine C_volume_Do (Nat.le_of_ble_eq_true rfl) (Nat.le_of_ble_eq_true rfl) ?_
  simp only [A_volume_Do, argL, objL, List.length_nil, Nat.zero_add, zX]
  refine aw_reg 16 (RG.go fun Q hQ => ?_)
  simp (disch := first | (intros; contradiction) | omega | (simp only [zN]; omega)) only [zS, reduceCtorEq, Nat.reduceAdd, Nat.reduceEqDiff, ↓reduceIte, vC_eq, cmdC, cC]
  refine hQ _ _ _ _ _ (RG.nil ?_)
  try simp only [zX]
  refine aw_reg 112 (RG.go fun Q hQ => ?_)
  simp (disch := first | (intros; contradiction) | omega | (simp only [zN]; omega)) only [zS, reduceCtorEq, Nat.reduceAdd, Nat.reduceEqDiff, ↓reduceIte]
  refine hQ _ _ _ _ _ ?_
  refine RG.callo [] [] (volume_copied_con v ok) (.mk (by (repeat' (first | exact tr_nil | refine tr_cons ?_ ?_ | exact tr_agg (by repeat' (first | exact trivial | rfl | refine ⟨?_, ?_⟩))))) (by first | trivial | (simp only [zT, Nat.reduceEqDiff, Nat.reduceAdd, ↓reduceIte, reduceCtorEq]; done) | (simp only [zT, Nat.reduceEqDiff, Nat.reduceAdd, ↓reduceIte, reduceCtorEq]; trivial) | (simp only [zT, Nat.reduceEqDiff, Nat.reduceAdd, ↓reduceIte, reduceCtorEq]; repeat' (fail))) (by simp) (by simp) (trivial) (by first | (simp [lkE_cons, lkE_nil]; done) | (intro j hj; simp at hj; simp only [lkE_cons, lkE_nil]; repeat rw [if_neg (by omega)])) (by first | (simp [Ent.pure]; done) | (simp [Ent.pure]; repeat' (first | (first | exact drows_nrow _ | exact drows_wrow _) | refine ⟨?_, ?_⟩))) (by simp) (by simp)) ?_
  refine RG.go fun Q hQ => ?_
  simp (disch := first | (intros; contradiction) | omega | (simp only [zN]; omega)) only [zS, reduceCtorEq, Nat.reduceAdd, Nat.reduceEqDiff, ↓reduceIte]
  refine hQ _ _ _ _ _ (RG.nil ?_)
  try simp only [zX]
  refine aw_reg 224 (RG.go fun Q hQ => ?_)
  simp (disch := first | (intros; contradiction) | omega | (simp only [zN]; omega)) only [zS, reduceCtorEq, Nat.reduceAdd, Nat.reduceEqDiff, ↓reduceIte]
  refine hQ _ _ _ _ _ ?_
  refine RG.callo [] [] (volume_copied_con v ok) (.mk (by (repeat' (first | exact tr_nil | refine tr_cons ?_ ?_ | exact tr_agg (by repeat' (first | exact trivial | rfl | refine ⟨?_, ?_⟩))))) (by first | trivial | (simp only [zT, Nat.reduceEqDiff, Nat.reduceAdd, ↓reduceIte, reduceCtorEq]; done) | (simp only [zT, Nat.reduceEqDiff, Nat.reduceAdd, ↓reduceIte, reduceCtorEq]; trivial) | (simp only [zT, Nat.reduceEqDiff, Nat.reduceAdd, ↓reduceIte, reduceCtorEq]; repeat' (fail))) (by simp) (by simp) (trivial) (by first | (simp [lkE_cons, lkE_nil]; done) | (intro j hj; simp at hj; simp only [lkE_cons, lkE_nil]; repeat rw [if_neg (by omega)])) (by first | (simp [Ent.pure]; done) | (simp [Ent.pure]; repeat' (first | (first | exact drows_nrow _ | exact drows_wrow _) | refine ⟨?_, ?_⟩))) (by simp) (by simp)) ?_
  refine RG.go fun Q hQ => ?_
  simp (disch := first | (intros; contradiction) | omega | (simp only [zN]; omega)) only [zS, reduceCtorEq, Nat.reduceAdd, Nat.reduceEqDiff, ↓reduceIte]
  refine hQ _ _ _ _ _ (RG.nil ?_)
  try simp only [zX]
  refine aw_reg 304 (RG.go fun Q hQ => ?_)
  simp (disch := first | (intros; contradiction) | omega | (simp only [zN]; omega)) only [zS, reduceCtorEq, Nat.reduceAdd, Nat.reduceEqDiff, ↓reduceIte]
  refine hQ _ _ _ _ _ (RG.nil ?_)
  try simp only [zX]
  refine aw_reg 368 (RG.go fun Q hQ => ?_)
  simp (disch := first | (intros; contradiction) | omega | (simp only [zN]; omega)) only [zS, reduceCtorEq, Nat.reduceAdd, Nat.reduceEqDiff, ↓reduceIte, k2]
  refine hQ _ _ _ _ _ (RG.nil ?_)
  try simp only [zX]
  refine aw_cond _ rfl trivial (fun ht => by cases ht) (fun hf => ?_)
  try simp only [zX]
  refine aw_reg 432 (RG.go fun Q hQ => ?_)
  simp (disch := first | (intros; contradiction) | omega | (simp only [zN]; omega)) only [zS, reduceCtorEq, Nat.reduceAdd, Nat.reduceEqDiff, ↓reduceIte, k3]
  refine hQ _ _ _ _ _ (RG.nil ?_)
  try simp only [zX]
  refine aw_cond _ rfl trivial (fun ht => by cases ht) (fun hf => ?_)
  try simp only [zX]
  refine aw_reg 496 (RG.go fun Q hQ => ?_)
  simp (disch := first | (intros; contradiction) | omega | (simp only [zN]; omega)) only [zS, reduceCtorEq, Nat.reduceAdd, Nat.reduceEqDiff, ↓reduceIte, k4]
  refine hQ _ _ _ _ _ (RG.nil ?_)
  try simp only [zX]
  refine aw_cond _ rfl trivial (fun ht => by cases ht) (fun hf => ?_)
  try simp only [zX, Nat.reduceEqDiff, ↓reduceIte, reduceCtorEq]
  refine aw_reg 560 (RG.go fun Q hQ => ?_)
  simp (disch := first | (intros; contradiction) | omega | (simp only [zN]; omega)) only [zS, reduceCtorEq, Nat.reduceAdd, Nat.reduceEqDiff, ↓reduceIte, k5]
  refine hQ _ _ _ _ _ (RG.nil ?_)
  try simp only [zX]
  refine aw_cond _ rfl trivial (fun ht => by cases ht) (fun hf => ?_)
  try simp only [zX]
  refine aw_reg 624 (RG.go fun Q hQ => ?_)
  simp (disch := first | (intros; contradiction) | omega | (simp only [zN]; omega)) only [zS, reduceCtorEq, Nat.reduceAdd, Nat.reduceEqDiff, ↓reduceIte, k6]
  refine hQ _ _ _ _ _ (RG.nil ?_)
  try simp only [zX]
  refine aw_cond _ rfl trivial (fun ht => ?_) (fun hf => by cases hf)
  try simp only [zX]
  refine aw_cond _ rfl trivial (fun ht => ?_) (fun hf => by cases hf)
  try simp only [zX, Nat.reduceEqDiff, ↓reduceIte, reduceCtorEq]
  refine aw_reg 688 (RG.go fun Q hQ => ?_)
  simp (disch := first | (intros; contradiction) | omega | (simp only [zN]; omega)) only [zS, reduceCtorEq, Nat.reduceAdd, Nat.reduceEqDiff, ↓reduceIte]
  refine hQ _ _ _ _ _ ?_
  refine RG.callo [240, 241] [] (volume_imports_write v c ok hl hd hn h) (.mk (by (repeat' (first | exact tr_nil | refine tr_cons ?_ ?_ | exact tr_agg (by repeat' (first | exact trivial | rfl | refine ⟨?_, ?_⟩))))) (by first | trivial | (simp only [zT, Nat.reduceEqDiff, ↓reduceIte]; done) | (simp only [zT, Nat.reduceEqDiff, ↓reduceIte]; trivial) | (simp only [zT, Nat.reduceEqDiff, ↓reduceIte]; repeat' (first | (first | exact drows_nrow _ | exact drows_wrow _) | refine ⟨?_, ?_⟩))) (by simp) (by simp) (trivial) (by first | (simp [lkE_cons, lkE_nil]; done) | (intro j hj; simp at hj; simp only [setEs, setE_cons, setE_nil, lkE_cons, lkE_nil]; repeat rw [if_neg (by omega)])) (by first | (simp [Ent.pure]; done) | (simp [Ent.pure]; repeat' (first | (first | exact drows_nrow _ | exact drows_wrow _) | refine ⟨?_, ?_⟩))) (by simp) (by simp)) ?_
  refine RG.go fun Q hQ => ?_
  simp (disch := first | (intros; contradiction) | omega | (simp only [zN]; omega)) only [zS, reduceCtorEq, Nat.reduceAdd, Nat.reduceEqDiff, Nat.reduceSub, ↓reduceIte, vO_eq]
  refine hQ _ _ _ _ _ (RG.nil ?_)
  try simp only [zX]
  refine aw_reg 848 (RG.go fun Q hQ => ?_)
  simp (disch := first | (intros; contradiction) | omega | (simp only [zN]; omega)) only [zS, reduceCtorEq, Nat.reduceAdd, Nat.reduceEqDiff, ↓reduceIte, Int.reduceBNe]
  refine hQ _ _ _ _ _ (RG.nil ?_)
  try simp only [zX]
  refine aw_cond _ rfl trivial (fun ht => by cases ht) (fun hf => ?_)
  try simp only [zX]
  refine aw_draw 912 (RG.go fun Q hQ => ?_)
  simp (disch := first | (intros; contradiction) | omega | (simp only [zN]; omega)) only [zS, reduceCtorEq, Nat.reduceAdd, Nat.reduceEqDiff, ↓reduceIte]
  refine hQ _ _ _ _ _ ?_
  refine RG.call [240, 720] (volume_Len_con (addN v c.items)) (by (repeat' (first | exact tr_nil | refine tr_cons ?_ ?_ | exact tr_agg (by (repeat' (first | exact trivial | rfl | (refine ⟨by simp, _, _, _, rfl, ?_⟩; (first | exact drows_nrow _ | exact drows_wrow _)) | refine ⟨?_, ?_⟩)))))) (by repeat' (first | exact trivial | refine views1 rfl ?_)) (by (exact .inl trivial)) ?_
  refine RG.go fun Q hQ => ?_
  simp (disch := first | (intros; contradiction) | omega | (simp only [zN]; omega)) only [zS, reduceCtorEq, Nat.reduceAdd, Nat.reduceEqDiff, Nat.reduceLeDiff, ↓reduceIte]
  refine hQ _ _ _ _ _ (RG.nil ⟨by decide +kernel, ?_⟩)
  try simp only [zX]
  refine Fin.data [240, 720] (.inr rfl) rfl (by (exact ⟨trivial, trivial, trivial⟩)) ?_
  simp only [zL, Nat.reduceEqDiff, ↓reduceIte]
  all_goals ((repeat' (first | exact trivial | rfl | (refine ⟨⟨_, _, rfl⟩, ?_⟩; (first | exact drows_nrow _ | exact drows_wrow _)) | refine ⟨?_, ?_⟩)))

theorem Do_imp7_no (v : VOL) (c : CMD) (ok : Vok v) (hk : c.kind = 7) (hl : c.items.length ≤ 1000000) (hd : ∀ x ∈ c.items, x.d.length ≤ 1000000) (w : VOL) (e : Int) (h : impS v c = some (w, e)) (he0 : e ≠ 0) : Con Try.prog 18 [.agg (volC v), .agg (cmdC c)] [] (doR (fail v e)) [] := by
  have k2 : (c.kind == 2) = false := by rw [hk]; rfl
  have k3 : (c.kind == 3) = false := by rw [hk]; rfl
  have k4 : (c.kind == 4) = false := by rw [hk]; rfl
  have k5 : (c.kind == 5) = false := by rw [hk]; rfl
  have k6 : (c.kind == 6) = false := by rw [hk]; rfl
  have k7 : (c.kind == 7) = true := by rw [hk]; rfl
  have k8 : (c.kind == 8) = false := by rw [hk]; rfl
  refine C_volume_Do (Nat.le_of_ble_eq_true rfl) (Nat.le_of_ble_eq_true rfl) ?_
  simp only [A_volume_Do, argL, objL, List.length_nil, Nat.zero_add, zX]
  refine aw_reg 16 (RG.go fun Q hQ => ?_)
  simp (disch := first | (intros; contradiction) | omega | (simp only [zN]; omega)) only [zS, reduceCtorEq, Nat.reduceAdd, Nat.reduceEqDiff, ↓reduceIte, vC_eq, cmdC, cC]
  refine hQ _ _ _ _ _ (RG.nil ?_)
  try simp only [zX]
  refine aw_reg 112 (RG.go fun Q hQ => ?_)
  simp (disch := first | (intros; contradiction) | omega | (simp only [zN]; omega)) only [zS, reduceCtorEq, Nat.reduceAdd, Nat.reduceEqDiff, ↓reduceIte]
  refine hQ _ _ _ _ _ ?_
  refine RG.callo [] [] (volume_copied_con v ok) (.mk (by (repeat' (first | exact tr_nil | refine tr_cons ?_ ?_ | exact tr_agg (by repeat' (first | exact trivial | rfl | refine ⟨?_, ?_⟩))))) (by first | trivial | (simp only [zT, Nat.reduceEqDiff, Nat.reduceAdd, ↓reduceIte, reduceCtorEq]; done) | (simp only [zT, Nat.reduceEqDiff, Nat.reduceAdd, ↓reduceIte, reduceCtorEq]; trivial) | (simp only [zT, Nat.reduceEqDiff, Nat.reduceAdd, ↓reduceIte, reduceCtorEq]; repeat' (fail))) (by simp) (by simp) (trivial) (by first | (simp [lkE_cons, lkE_nil]; done) | (intro j hj; simp at hj; simp only [lkE_cons, lkE_nil]; repeat rw [if_neg (by omega)])) (by first | (simp [Ent.pure]; done) | (simp [Ent.pure]; repeat' (first | (first | exact drows_nrow _ | exact drows_wrow _) | refine ⟨?_, ?_⟩))) (by simp) (by simp)) ?_
  refine RG.go fun Q hQ => ?_
  simp (disch := first | (intros; contradiction) | omega | (simp only [zN]; omega)) only [zS, reduceCtorEq, Nat.reduceAdd, Nat.reduceEqDiff, ↓reduceIte]
  refine hQ _ _ _ _ _ (RG.nil ?_)
  try simp only [zX]
  refine aw_reg 224 (RG.go fun Q hQ => ?_)
  simp (disch := first | (intros; contradiction) | omega | (simp only [zN]; omega)) only [zS, reduceCtorEq, Nat.reduceAdd, Nat.reduceEqDiff, ↓reduceIte]
  refine hQ _ _ _ _ _ ?_
  refine RG.callo [] [] (volume_copied_con v ok) (.mk (by (repeat' (first | exact tr_nil | refine tr_cons ?_ ?_ | exact tr_agg (by repeat' (first | exact trivial | rfl | refine ⟨?_, ?_⟩))))) (by first | trivial | (simp only [zT, Nat.reduceEqDiff, Nat.reduceAdd, ↓reduceIte, reduceCtorEq]; done) | (simp only [zT, Nat.reduceEqDiff, Nat.reduceAdd, ↓reduceIte, reduceCtorEq]; trivial) | (simp only [zT, Nat.reduceEqDiff, Nat.reduceAdd, ↓reduceIte, reduceCtorEq]; repeat' (fail))) (by simp) (by simp) (trivial) (by first | (simp [lkE_cons, lkE_nil]; done) | (intro j hj; simp at hj; simp only [lkE_cons, lkE_nil]; repeat rw [if_neg (by omega)])) (by first | (simp [Ent.pure]; done) | (simp [Ent.pure]; repeat' (first | (first | exact drows_nrow _ | exact drows_wrow _) | refine ⟨?_, ?_⟩))) (by simp) (by simp)) ?_
  refine RG.go fun Q hQ => ?_
  simp (disch := first | (intros; contradiction) | omega | (simp only [zN]; omega)) only [zS, reduceCtorEq, Nat.reduceAdd, Nat.reduceEqDiff, ↓reduceIte]
  refine hQ _ _ _ _ _ (RG.nil ?_)
  try simp only [zX]
  refine aw_reg 304 (RG.go fun Q hQ => ?_)
  simp (disch := first | (intros; contradiction) | omega | (simp only [zN]; omega)) only [zS, reduceCtorEq, Nat.reduceAdd, Nat.reduceEqDiff, ↓reduceIte]
  refine hQ _ _ _ _ _ (RG.nil ?_)
  try simp only [zX]
  refine aw_reg 368 (RG.go fun Q hQ => ?_)
  simp (disch := first | (intros; contradiction) | omega | (simp only [zN]; omega)) only [zS, reduceCtorEq, Nat.reduceAdd, Nat.reduceEqDiff, ↓reduceIte, k2]
  refine hQ _ _ _ _ _ (RG.nil ?_)
  try simp only [zX]
  refine aw_cond _ rfl trivial (fun ht => by cases ht) (fun hf => ?_)
  try simp only [zX]
  refine aw_reg 432 (RG.go fun Q hQ => ?_)
  simp (disch := first | (intros; contradiction) | omega | (simp only [zN]; omega)) only [zS, reduceCtorEq, Nat.reduceAdd, Nat.reduceEqDiff, ↓reduceIte, k3]
  refine hQ _ _ _ _ _ (RG.nil ?_)
  try simp only [zX]
  refine aw_cond _ rfl trivial (fun ht => by cases ht) (fun hf => ?_)
  try simp only [zX]
  refine aw_reg 496 (RG.go fun Q hQ => ?_)
  simp (disch := first | (intros; contradiction) | omega | (simp only [zN]; omega)) only [zS, reduceCtorEq, Nat.reduceAdd, Nat.reduceEqDiff, ↓reduceIte, k4]
  refine hQ _ _ _ _ _ (RG.nil ?_)
  try simp only [zX]
  refine aw_cond _ rfl trivial (fun ht => by cases ht) (fun hf => ?_)
  try simp only [zX, Nat.reduceEqDiff, ↓reduceIte, reduceCtorEq]
  refine aw_reg 560 (RG.go fun Q hQ => ?_)
  simp (disch := first | (intros; contradiction) | omega | (simp only [zN]; omega)) only [zS, reduceCtorEq, Nat.reduceAdd, Nat.reduceEqDiff, ↓reduceIte, k5]
  refine hQ _ _ _ _ _ (RG.nil ?_)
  try simp only [zX]
  refine aw_cond _ rfl trivial (fun ht => by cases ht) (fun hf => ?_)
  try simp only [zX]
  refine aw_reg 624 (RG.go fun Q hQ => ?_)
  simp (disch := first | (intros; contradiction) | omega | (simp only [zN]; omega)) only [zS, reduceCtorEq, Nat.reduceAdd, Nat.reduceEqDiff, ↓reduceIte, k6]
  refine hQ _ _ _ _ _ (RG.nil ?_)
  try simp only [zX]
  refine aw_cond _ rfl trivial (fun ht => by cases ht) (fun hf => ?_)
  try simp only [zX, Nat.reduceEqDiff, ↓reduceIte, reduceCtorEq]
  refine aw_reg 688 (RG.go fun Q hQ => ?_)
  simp (disch := first | (intros; contradiction) | omega | (simp only [zN]; omega)) only [zS, reduceCtorEq, Nat.reduceAdd, Nat.reduceEqDiff, ↓reduceIte, k7]
  refine hQ _ _ _ _ _ (RG.nil ?_)
  try simp only [zX]
  refine aw_cond _ rfl trivial (fun ht => ?_) (fun hf => by cases hf)
  try simp only [zX, Nat.reduceEqDiff, ↓reduceIte, reduceCtorEq]
  refine aw_reg 752 (RG.go fun Q hQ => ?_)
  simp (disch := first | (intros; contradiction) | omega | (simp only [zN]; omega)) only [zS, reduceCtorEq, Nat.reduceAdd, Nat.reduceEqDiff, ↓reduceIte]
  refine hQ _ _ _ _ _ ?_
  refine RG.callo [240, 241] [] (volume_imports_same v c ok hl hd w e h) (.mk (by (repeat' (first | exact tr_nil | refine tr_cons ?_ ?_ | exact tr_agg (by repeat' (first | exact trivial | rfl | refine ⟨?_, ?_⟩))))) (by first | trivial | (simp only [zT, Nat.reduceEqDiff, ↓reduceIte]; done) | (simp only [zT, Nat.reduceEqDiff, ↓reduceIte]; trivial) | (simp only [zT, Nat.reduceEqDiff, ↓reduceIte]; repeat' (first | (first | exact drows_nrow _ | exact drows_wrow _) | refine ⟨?_, ?_⟩))) (by simp) (by simp) (trivial) (by first | (simp [lkE_cons, lkE_nil]; done) | (intro j hj; simp at hj; simp only [setEs, setE_cons, setE_nil, lkE_cons, lkE_nil]; repeat rw [if_neg (by omega)])) (by first | (simp [Ent.pure]; done) | (simp [Ent.pure]; repeat' (first | (first | exact drows_nrow _ | exact drows_wrow _) | refine ⟨?_, ?_⟩))) (by simp) (by simp)) ?_
  refine RG.go fun Q hQ => ?_
  simp (disch := first | (intros; contradiction) | omega | (simp only [zN]; omega)) only [zS, reduceCtorEq, Nat.reduceAdd, Nat.reduceEqDiff, ↓reduceIte, vO_eq]
  refine hQ _ _ _ _ _ (RG.nil ?_)
  try simp only [zX]
  refine aw_reg 912 (RG.go fun Q hQ => ?_)
  simp (disch := first | (intros; contradiction) | omega | (simp only [zN]; omega)) only [zS, reduceCtorEq, Nat.reduceAdd, Nat.reduceEqDiff, ↓reduceIte]
  refine hQ _ _ _ _ _ (RG.nil ?_)
  try simp only [zX]
  refine aw_cond _ rfl trivial (fun ht => ?_) (fun hf => by simp at hf; exact absurd hf he0)
  try simp only [zX]
  refine aw_reg 976 (RG.go fun Q hQ => ?_)
  simp (disch := first | (intros; contradiction) | omega | (simp only [zN]; omega)) only [zS, reduceCtorEq, Nat.reduceAdd, Nat.reduceEqDiff, Nat.reduceLeDiff, ↓reduceIte]
  refine hQ _ _ _ _ _ (RG.nil ?_)
  try simp only [zX]
  refine Fin.data [128, 129] (.inr rfl) rfl (by (exact ⟨trivial, trivial, trivial⟩)) ?_
  simp only [zL, Nat.reduceEqDiff, ↓reduceIte]
  all_goals ((repeat' (first | exact trivial | rfl | (refine ⟨⟨_, _, rfl⟩, ?_⟩; (first | exact drows_nrow _ | exact drows_wrow _)) | refine ⟨?_, ?_⟩)))

theorem Do_imp7_same (v : VOL) (c : CMD) (ok : Vok v) (hk : c.kind = 7) (hl : c.items.length ≤ 1000000) (hd : ∀ x ∈ c.items, x.d.length ≤ 1000000) (h : impS v c = some (pubV v, 0)) : Con Try.prog 18 [.agg (volC v), .agg (cmdC c)] [] (doR (done (pubV v))) [] := by
  have k2 : (c.kind == 2) = false := by rw [hk]; rfl
  have k3 : (c.kind == 3) = false := by rw [hk]; rfl
  have k4 : (c.kind == 4) = false := by rw [hk]; rfl
  have k5 : (c.kind == 5) = false := by rw [hk]; rfl
  have k6 : (c.kind == 6) = false := by rw [hk]; rfl
  have k7 : (c.kind == 7) = true := by rw [hk]; rfl
  have k8 : (c.kind == 8) = false := by rw [hk]; rfl
  refine C_volume_Do (Nat.le_of_ble_eq_true rfl) (Nat.le_of_ble_eq_true rfl) ?_
  simp only [A_volume_Do, argL, objL, List.length_nil, Nat.zero_add, zX]
  refine aw_reg 16 (RG.go fun Q hQ => ?_)
  simp (disch := first | (intros; contradiction) | omega | (simp only [zN]; omega)) only [zS, reduceCtorEq, Nat.reduceAdd, Nat.reduceEqDiff, ↓reduceIte, vC_eq, cmdC, cC]
  refine hQ _ _ _ _ _ (RG.nil ?_)
  try simp only [zX]
  refine aw_reg 112 (RG.go fun Q hQ => ?_)
  simp (disch := first | (intros; contradiction) | omega | (simp only [zN]; omega)) only [zS, reduceCtorEq, Nat.reduceAdd, Nat.reduceEqDiff, ↓reduceIte]
  refine hQ _ _ _ _ _ ?_
  refine RG.callo [] [] (volume_copied_con v ok) (.mk (by (repeat' (first | exact tr_nil | refine tr_cons ?_ ?_ | exact tr_agg (by repeat' (first | exact trivial | rfl | refine ⟨?_, ?_⟩))))) (by first | trivial | (simp only [zT, Nat.reduceEqDiff, Nat.reduceAdd, ↓reduceIte, reduceCtorEq]; done) | (simp only [zT, Nat.reduceEqDiff, Nat.reduceAdd, ↓reduceIte, reduceCtorEq]; trivial) | (simp only [zT, Nat.reduceEqDiff, Nat.reduceAdd, ↓reduceIte, reduceCtorEq]; repeat' (fail))) (by simp) (by simp) (trivial) (by first | (simp [lkE_cons, lkE_nil]; done) | (intro j hj; simp at hj; simp only [lkE_cons, lkE_nil]; repeat rw [if_neg (by omega)])) (by first | (simp [Ent.pure]; done) | (simp [Ent.pure]; repeat' (first | (first | exact drows_nrow _ | exact drows_wrow _) | refine ⟨?_, ?_⟩))) (by simp) (by simp)) ?_
  refine RG.go fun Q hQ => ?_
  simp (disch := first | (intros; contradiction) | omega | (simp only [zN]; omega)) only [zS, reduceCtorEq, Nat.reduceAdd, Nat.reduceEqDiff, ↓reduceIte]
  refine hQ _ _ _ _ _ (RG.nil ?_)
  try simp only [zX]
  refine aw_reg 224 (RG.go fun Q hQ => ?_)
  simp (disch := first | (intros; contradiction) | omega | (simp only [zN]; omega)) only [zS, reduceCtorEq, Nat.reduceAdd, Nat.reduceEqDiff, ↓reduceIte]
  refine hQ _ _ _ _ _ ?_
  refine RG.callo [] [] (volume_copied_con v ok) (.mk (by (repeat' (first | exact tr_nil | refine tr_cons ?_ ?_ | exact tr_agg (by repeat' (first | exact trivial | rfl | refine ⟨?_, ?_⟩))))) (by first | trivial | (simp only [zT, Nat.reduceEqDiff, Nat.reduceAdd, ↓reduceIte, reduceCtorEq]; done) | (simp only [zT, Nat.reduceEqDiff, Nat.reduceAdd, ↓reduceIte, reduceCtorEq]; trivial) | (simp only [zT, Nat.reduceEqDiff, Nat.reduceAdd, ↓reduceIte, reduceCtorEq]; repeat' (fail))) (by simp) (by simp) (trivial) (by first | (simp [lkE_cons, lkE_nil]; done) | (intro j hj; simp at hj; simp only [lkE_cons, lkE_nil]; repeat rw [if_neg (by omega)])) (by first | (simp [Ent.pure]; done) | (simp [Ent.pure]; repeat' (first | (first | exact drows_nrow _ | exact drows_wrow _) | refine ⟨?_, ?_⟩))) (by simp) (by simp)) ?_
  refine RG.go fun Q hQ => ?_
  simp (disch := first | (intros; contradiction) | omega | (simp only [zN]; omega)) only [zS, reduceCtorEq, Nat.reduceAdd, Nat.reduceEqDiff, ↓reduceIte]
  refine hQ _ _ _ _ _ (RG.nil ?_)
  try simp only [zX]
  refine aw_reg 304 (RG.go fun Q hQ => ?_)
  simp (disch := first | (intros; contradiction) | omega | (simp only [zN]; omega)) only [zS, reduceCtorEq, Nat.reduceAdd, Nat.reduceEqDiff, ↓reduceIte]
  refine hQ _ _ _ _ _ (RG.nil ?_)
  try simp only [zX]
  refine aw_reg 368 (RG.go fun Q hQ => ?_)
  simp (disch := first | (intros; contradiction) | omega | (simp only [zN]; omega)) only [zS, reduceCtorEq, Nat.reduceAdd, Nat.reduceEqDiff, ↓reduceIte, k2]
  refine hQ _ _ _ _ _ (RG.nil ?_)
  try simp only [zX]
  refine aw_cond _ rfl trivial (fun ht => by cases ht) (fun hf => ?_)
  try simp only [zX]
  refine aw_reg 432 (RG.go fun Q hQ => ?_)
  simp (disch := first | (intros; contradiction) | omega | (simp only [zN]; omega)) only [zS, reduceCtorEq, Nat.reduceAdd, Nat.reduceEqDiff, ↓reduceIte, k3]
  refine hQ _ _ _ _ _ (RG.nil ?_)
  try simp only [zX]
  refine aw_cond _ rfl trivial (fun ht => by cases ht) (fun hf => ?_)
  try simp only [zX]
  refine aw_reg 496 (RG.go fun Q hQ => ?_)
  simp (disch := first | (intros; contradiction) | omega | (simp only [zN]; omega)) only [zS, reduceCtorEq, Nat.reduceAdd, Nat.reduceEqDiff, ↓reduceIte, k4]
  refine hQ _ _ _ _ _ (RG.nil ?_)
  try simp only [zX]
  refine aw_cond _ rfl trivial (fun ht => by cases ht) (fun hf => ?_)
  try simp only [zX, Nat.reduceEqDiff, ↓reduceIte, reduceCtorEq]
  refine aw_reg 560 (RG.go fun Q hQ => ?_)
  simp (disch := first | (intros; contradiction) | omega | (simp only [zN]; omega)) only [zS, reduceCtorEq, Nat.reduceAdd, Nat.reduceEqDiff, ↓reduceIte, k5]
  refine hQ _ _ _ _ _ (RG.nil ?_)
  try simp only [zX]
  refine aw_cond _ rfl trivial (fun ht => by cases ht) (fun hf => ?_)
  try simp only [zX]
  refine aw_reg 624 (RG.go fun Q hQ => ?_)
  simp (disch := first | (intros; contradiction) | omega | (simp only [zN]; omega)) only [zS, reduceCtorEq, Nat.reduceAdd, Nat.reduceEqDiff, ↓reduceIte, k6]
  refine hQ _ _ _ _ _ (RG.nil ?_)
  try simp only [zX]
  refine aw_cond _ rfl trivial (fun ht => by cases ht) (fun hf => ?_)
  try simp only [zX, Nat.reduceEqDiff, ↓reduceIte, reduceCtorEq]
  refine aw_reg 688 (RG.go fun Q hQ => ?_)
  simp (disch := first | (intros; contradiction) | omega | (simp only [zN]; omega)) only [zS, reduceCtorEq, Nat.reduceAdd, Nat.reduceEqDiff, ↓reduceIte, k7]
  refine hQ _ _ _ _ _ (RG.nil ?_)
  try simp only [zX]
  refine aw_cond _ rfl trivial (fun ht => ?_) (fun hf => by cases hf)
  try simp only [zX, Nat.reduceEqDiff, ↓reduceIte, reduceCtorEq]
  refine aw_reg 752 (RG.go fun Q hQ => ?_)
  simp (disch := first | (intros; contradiction) | omega | (simp only [zN]; omega)) only [zS, reduceCtorEq, Nat.reduceAdd, Nat.reduceEqDiff, ↓reduceIte]
  refine hQ _ _ _ _ _ ?_
  refine RG.callo [240, 241] [] (volume_imports_same v c ok hl hd _ 0 h) (.mk (by (repeat' (first | exact tr_nil | refine tr_cons ?_ ?_ | exact tr_agg (by repeat' (first | exact trivial | rfl | refine ⟨?_, ?_⟩))))) (by first | trivial | (simp only [zT, Nat.reduceEqDiff, ↓reduceIte]; done) | (simp only [zT, Nat.reduceEqDiff, ↓reduceIte]; trivial) | (simp only [zT, Nat.reduceEqDiff, ↓reduceIte]; repeat' (first | (first | exact drows_nrow _ | exact drows_wrow _) | refine ⟨?_, ?_⟩))) (by simp) (by simp) (trivial) (by first | (simp [lkE_cons, lkE_nil]; done) | (intro j hj; simp at hj; simp only [setEs, setE_cons, setE_nil, lkE_cons, lkE_nil]; repeat rw [if_neg (by omega)])) (by first | (simp [Ent.pure]; done) | (simp [Ent.pure]; repeat' (first | (first | exact drows_nrow _ | exact drows_wrow _) | refine ⟨?_, ?_⟩))) (by simp) (by simp)) ?_
  refine RG.go fun Q hQ => ?_
  simp (disch := first | (intros; contradiction) | omega | (simp only [zN]; omega)) only [zS, reduceCtorEq, Nat.reduceAdd, Nat.reduceEqDiff, ↓reduceIte, vO_eq, pubV]
  refine hQ _ _ _ _ _ (RG.nil ?_)
  try simp only [zX]
  refine aw_reg 912 (RG.go fun Q hQ => ?_)
  simp (disch := first | (intros; contradiction) | omega | (simp only [zN]; omega)) only [zS, reduceCtorEq, Nat.reduceAdd, Nat.reduceEqDiff, ↓reduceIte, Int.reduceBNe]
  refine hQ _ _ _ _ _ (RG.nil ?_)
  try simp only [zX]
  refine aw_cond _ rfl trivial (fun ht => by cases ht) (fun hf => ?_)
  try simp only [zX]
  refine aw_draw 976 (RG.go fun Q hQ => ?_)
  simp (disch := first | (intros; contradiction) | omega | (simp only [zN]; omega)) only [zS, reduceCtorEq, Nat.reduceAdd, Nat.reduceEqDiff, ↓reduceIte]
  refine hQ _ _ _ _ _ ?_
  refine RG.call [240, 241] (volume_Len_con (pubV v)) (by (repeat' (first | exact tr_nil | refine tr_cons ?_ ?_ | exact tr_agg (by (repeat' (first | exact trivial | rfl | (refine ⟨by simp, _, _, _, rfl, ?_⟩; (first | exact drows_nrow _ | exact drows_wrow _)) | refine ⟨?_, ?_⟩)))))) (by repeat' (first | exact trivial | refine views1 rfl ?_)) (by (exact .inl trivial)) ?_
  refine RG.go fun Q hQ => ?_
  simp (disch := first | (intros; contradiction) | omega | (simp only [zN]; omega)) only [zS, reduceCtorEq, Nat.reduceAdd, Nat.reduceEqDiff, Nat.reduceLeDiff, ↓reduceIte, pubV]
  refine hQ _ _ _ _ _ (RG.nil ⟨by decide +kernel, ?_⟩)
  try simp only [zX]
  refine Fin.data [240, 241] (.inr rfl) rfl (by (exact ⟨trivial, trivial, trivial⟩)) ?_
  simp only [zL, Nat.reduceEqDiff, ↓reduceIte]
  all_goals ((repeat' (first | exact trivial | rfl | (refine ⟨⟨_, _, rfl⟩, ?_⟩; (first | exact drows_nrow _ | exact drows_wrow _)) | refine ⟨?_, ?_⟩)))

theorem Do_imp7_write (v : VOL) (c : CMD) (ok : Vok v) (hk : c.kind = 7) (hl : c.items.length ≤ 1000000) (hd : ∀ x ∈ c.items, x.d.length ≤ 1000000) (hn : v.next ≤ 1099511627776 ∧ 0 ≤ v.next) (h : impS v c = none) : Con Try.prog 18 [.agg (volC v), .agg (cmdC c)] [] (doR (done (addN v c.items))) [] := by
  have k2 : (c.kind == 2) = false := by rw [hk]; rfl
  have k3 : (c.kind == 3) = false := by rw [hk]; rfl
  have k4 : (c.kind == 4) = false := by rw [hk]; rfl
  have k5 : (c.kind == 5) = false := by rw [hk]; rfl
  have k6 : (c.kind == 6) = false := by rw [hk]; rfl
  have k7 : (c.kind == 7) = true := by rw [hk]; rfl
  have k8 : (c.kind == 8) = false := by rw [hk]; rfl
  refine C_volume_Do (Nat.le_of_ble_eq_true rfl) (Nat.le_of_ble_eq_true rfl) ?_
  simp only [A_volume_Do, argL, objL, List.length_nil, Nat.zero_add, zX]
  refine aw_reg 16 (RG.go fun Q hQ => ?_)
  simp (disch := first | (intros; contradiction) | omega | (simp only [zN]; omega)) only [zS, reduceCtorEq, Nat.reduceAdd, Nat.reduceEqDiff, ↓reduceIte, vC_eq, cmdC, cC]
  refine hQ _ _ _ _ _ (RG.nil ?_)
  try simp only [zX]
  refine aw_reg 112 (RG.go fun Q hQ => ?_)
  simp (disch := first | (intros; contradiction) | omega | (simp only [zN]; omega)) only [zS, reduceCtorEq, Nat.reduceAdd, Nat.reduceEqDiff, ↓reduceIte]
  refine hQ _ _ _ _ _ ?_
  refine RG.callo [] [] (volume_copied_con v ok) (.mk (by (repeat' (first | exact tr_nil | refine tr_cons ?_ ?_ | exact tr_agg (by repeat' (first | exact trivial | rfl | refine ⟨?_, ?_⟩))))) (by first | trivial | (simp only [zT, Nat.reduceEqDiff, Nat.reduceAdd, ↓reduceIte, reduceCtorEq]; done) | (simp only [zT, Nat.reduceEqDiff, Nat.reduceAdd, ↓reduceIte, reduceCtorEq]; trivial) | (simp only [zT, Nat.reduceEqDiff, Nat.reduceAdd, ↓reduceIte, reduceCtorEq]; repeat' (fail))) (by simp) (by simp) (trivial) (by first | (simp [lkE_cons, lkE_nil]; done) | (intro j hj; simp at hj; simp only [lkE_cons, lkE_nil]; repeat rw [if_neg (by omega)])) (by first | (simp [Ent.pure]; done) | (simp [Ent.pure]; repeat' (first | (first | exact drows_nrow _ | exact drows_wrow _) | refine ⟨?_, ?_⟩))) (by simp) (by simp)) ?_
  refine RG.go fun Q hQ => ?_
  simp (disch := first | (intros; contradiction) | omega | (simp only [zN]; omega)) only [zS, reduceCtorEq, Nat.reduceAdd, Nat.reduceEqDiff, ↓reduceIte]
  refine hQ _ _ _ _ _ (RG.nil ?_)
  try simp only [zX]
  refine aw_reg 224 (RG.go fun Q hQ => ?_)
  simp (disch := first | (intros; contradiction) | omega | (simp only [zN]; omega)) only [zS, reduceCtorEq, Nat.reduceAdd, Nat.reduceEqDiff, ↓reduceIte]
  refine hQ _ _ _ _ _ ?_
  refine RG.callo [] [] (volume_copied_con v ok) (.mk (by (repeat' (first | exact tr_nil | refine tr_cons ?_ ?_ | exact tr_agg (by repeat' (first | exact trivial | rfl | refine ⟨?_, ?_⟩))))) (by first | trivial | (simp only [zT, Nat.reduceEqDiff, Nat.reduceAdd, ↓reduceIte, reduceCtorEq]; done) | (simp only [zT, Nat.reduceEqDiff, Nat.reduceAdd, ↓reduceIte, reduceCtorEq]; trivial) | (simp only [zT, Nat.reduceEqDiff, Nat.reduceAdd, ↓reduceIte, reduceCtorEq]; repeat' (fail))) (by simp) (by simp) (trivial) (by first | (simp [lkE_cons, lkE_nil]; done) | (intro j hj; simp at hj; simp only [lkE_cons, lkE_nil]; repeat rw [if_neg (by omega)])) (by first | (simp [Ent.pure]; done) | (simp [Ent.pure]; repeat' (first | (first | exact drows_nrow _ | exact drows_wrow _) | refine ⟨?_, ?_⟩))) (by simp) (by simp)) ?_
  refine RG.go fun Q hQ => ?_
  simp (disch := first | (intros; contradiction) | omega | (simp only [zN]; omega)) only [zS, reduceCtorEq, Nat.reduceAdd, Nat.reduceEqDiff, ↓reduceIte]
  refine hQ _ _ _ _ _ (RG.nil ?_)
  try simp only [zX]
  refine aw_reg 304 (RG.go fun Q hQ => ?_)
  simp (disch := first | (intros; contradiction) | omega | (simp only [zN]; omega)) only [zS, reduceCtorEq, Nat.reduceAdd, Nat.reduceEqDiff, ↓reduceIte]
  refine hQ _ _ _ _ _ (RG.nil ?_)
  try simp only [zX]
  refine aw_reg 368 (RG.go fun Q hQ => ?_)
  simp (disch := first | (intros; contradiction) | omega | (simp only [zN]; omega)) only [zS, reduceCtorEq, Nat.reduceAdd, Nat.reduceEqDiff, ↓reduceIte, k2]
  refine hQ _ _ _ _ _ (RG.nil ?_)
  try simp only [zX]
  refine aw_cond _ rfl trivial (fun ht => by cases ht) (fun hf => ?_)
  try simp only [zX]
  refine aw_reg 432 (RG.go fun Q hQ => ?_)
  simp (disch := first | (intros; contradiction) | omega | (simp only [zN]; omega)) only [zS, reduceCtorEq, Nat.reduceAdd, Nat.reduceEqDiff, ↓reduceIte, k3]
  refine hQ _ _ _ _ _ (RG.nil ?_)
  try simp only [zX]
  refine aw_cond _ rfl trivial (fun ht => by cases ht) (fun hf => ?_)
  try simp only [zX]
  refine aw_reg 496 (RG.go fun Q hQ => ?_)
  simp (disch := first | (intros; contradiction) | omega | (simp only [zN]; omega)) only [zS, reduceCtorEq, Nat.reduceAdd, Nat.reduceEqDiff, ↓reduceIte, k4]
  refine hQ _ _ _ _ _ (RG.nil ?_)
  try simp only [zX]
  refine aw_cond _ rfl trivial (fun ht => by cases ht) (fun hf => ?_)
  try simp only [zX, Nat.reduceEqDiff, ↓reduceIte, reduceCtorEq]
  refine aw_reg 560 (RG.go fun Q hQ => ?_)
  simp (disch := first | (intros; contradiction) | omega | (simp only [zN]; omega)) only [zS, reduceCtorEq, Nat.reduceAdd, Nat.reduceEqDiff, ↓reduceIte, k5]
  refine hQ _ _ _ _ _ (RG.nil ?_)
  try simp only [zX]
  refine aw_cond _ rfl trivial (fun ht => by cases ht) (fun hf => ?_)
  try simp only [zX]
  refine aw_reg 624 (RG.go fun Q hQ => ?_)
  simp (disch := first | (intros; contradiction) | omega | (simp only [zN]; omega)) only [zS, reduceCtorEq, Nat.reduceAdd, Nat.reduceEqDiff, ↓reduceIte, k6]
  refine hQ _ _ _ _ _ (RG.nil ?_)
  try simp only [zX]
  refine aw_cond _ rfl trivial (fun ht => by cases ht) (fun hf => ?_)
  try simp only [zX, Nat.reduceEqDiff, ↓reduceIte, reduceCtorEq]
  refine aw_reg 688 (RG.go fun Q hQ => ?_)
  simp (disch := first | (intros; contradiction) | omega | (simp only [zN]; omega)) only [zS, reduceCtorEq, Nat.reduceAdd, Nat.reduceEqDiff, ↓reduceIte, k7]
  refine hQ _ _ _ _ _ (RG.nil ?_)
  try simp only [zX]
  refine aw_cond _ rfl trivial (fun ht => ?_) (fun hf => by cases hf)
  try simp only [zX, Nat.reduceEqDiff, ↓reduceIte, reduceCtorEq]
  refine aw_reg 752 (RG.go fun Q hQ => ?_)
  simp (disch := first | (intros; contradiction) | omega | (simp only [zN]; omega)) only [zS, reduceCtorEq, Nat.reduceAdd, Nat.reduceEqDiff, ↓reduceIte]
  refine hQ _ _ _ _ _ ?_
  refine RG.callo [240, 241] [] (volume_imports_write v c ok hl hd hn h) (.mk (by (repeat' (first | exact tr_nil | refine tr_cons ?_ ?_ | exact tr_agg (by repeat' (first | exact trivial | rfl | refine ⟨?_, ?_⟩))))) (by first | trivial | (simp only [zT, Nat.reduceEqDiff, ↓reduceIte]; done) | (simp only [zT, Nat.reduceEqDiff, ↓reduceIte]; trivial) | (simp only [zT, Nat.reduceEqDiff, ↓reduceIte]; repeat' (first | (first | exact drows_nrow _ | exact drows_wrow _) | refine ⟨?_, ?_⟩))) (by simp) (by simp) (trivial) (by first | (simp [lkE_cons, lkE_nil]; done) | (intro j hj; simp at hj; simp only [setEs, setE_cons, setE_nil, lkE_cons, lkE_nil]; repeat rw [if_neg (by omega)])) (by first | (simp [Ent.pure]; done) | (simp [Ent.pure]; repeat' (first | (first | exact drows_nrow _ | exact drows_wrow _) | refine ⟨?_, ?_⟩))) (by simp) (by simp)) ?_
  refine RG.go fun Q hQ => ?_
  simp (disch := first | (intros; contradiction) | omega | (simp only [zN]; omega)) only [zS, reduceCtorEq, Nat.reduceAdd, Nat.reduceEqDiff, Nat.reduceSub, ↓reduceIte, vO_eq]
  refine hQ _ _ _ _ _ (RG.nil ?_)
  try simp only [zX]
  refine aw_reg 912 (RG.go fun Q hQ => ?_)
  simp (disch := first | (intros; contradiction) | omega | (simp only [zN]; omega)) only [zS, reduceCtorEq, Nat.reduceAdd, Nat.reduceEqDiff, ↓reduceIte, Int.reduceBNe]
  refine hQ _ _ _ _ _ (RG.nil ?_)
  try simp only [zX]
  refine aw_cond _ rfl trivial (fun ht => by cases ht) (fun hf => ?_)
  try simp only [zX]
  refine aw_draw 976 (RG.go fun Q hQ => ?_)
  simp (disch := first | (intros; contradiction) | omega | (simp only [zN]; omega)) only [zS, reduceCtorEq, Nat.reduceAdd, Nat.reduceEqDiff, ↓reduceIte]
  refine hQ _ _ _ _ _ ?_
  refine RG.call [240, 784] (volume_Len_con (addN v c.items)) (by (repeat' (first | exact tr_nil | refine tr_cons ?_ ?_ | exact tr_agg (by (repeat' (first | exact trivial | rfl | (refine ⟨by simp, _, _, _, rfl, ?_⟩; (first | exact drows_nrow _ | exact drows_wrow _)) | refine ⟨?_, ?_⟩)))))) (by repeat' (first | exact trivial | refine views1 rfl ?_)) (by (exact .inl trivial)) ?_
  refine RG.go fun Q hQ => ?_
  simp (disch := first | (intros; contradiction) | omega | (simp only [zN]; omega)) only [zS, reduceCtorEq, Nat.reduceAdd, Nat.reduceEqDiff, Nat.reduceLeDiff, ↓reduceIte]
  refine hQ _ _ _ _ _ (RG.nil ⟨by decide +kernel, ?_⟩)
  try simp only [zX]
  refine Fin.data [240, 784] (.inr rfl) rfl (by (exact ⟨trivial, trivial, trivial⟩)) ?_
  simp only [zL, Nat.reduceEqDiff, ↓reduceIte]
  all_goals ((repeat' (first | exact trivial | rfl | (refine ⟨⟨_, _, rfl⟩, ?_⟩; (first | exact drows_nrow _ | exact drows_wrow _)) | refine ⟨?_, ?_⟩)))

theorem Do_stat (v : VOL) (c : CMD) (ok : Vok v) (hk : c.kind = 8) : Con Try.prog 18 [.agg (volC v), .agg (cmdC c)] [] (doR (done v)) [] := by
  have k2 : (c.kind == 2) = false := by rw [hk]; rfl
  have k3 : (c.kind == 3) = false := by rw [hk]; rfl
  have k4 : (c.kind == 4) = false := by rw [hk]; rfl
  have k5 : (c.kind == 5) = false := by rw [hk]; rfl
  have k6 : (c.kind == 6) = false := by rw [hk]; rfl
  have k7 : (c.kind == 7) = false := by rw [hk]; rfl
  have k8 : (c.kind == 8) = true := by rw [hk]; rfl
  refine C_volume_Do (Nat.le_of_ble_eq_true rfl) (Nat.le_of_ble_eq_true rfl) ?_
  simp only [A_volume_Do, argL, objL, List.length_nil, Nat.zero_add, zX]
  refine aw_reg 16 (RG.go fun Q hQ => ?_)
  simp (disch := first | (intros; contradiction) | omega | (simp only [zN]; omega)) only [zS, reduceCtorEq, Nat.reduceAdd, Nat.reduceEqDiff, ↓reduceIte, vC_eq, cmdC, cC]
  refine hQ _ _ _ _ _ (RG.nil ?_)
  try simp only [zX]
  refine aw_reg 112 (RG.go fun Q hQ => ?_)
  simp (disch := first | (intros; contradiction) | omega | (simp only [zN]; omega)) only [zS, reduceCtorEq, Nat.reduceAdd, Nat.reduceEqDiff, ↓reduceIte]
  refine hQ _ _ _ _ _ ?_
  refine RG.callo [] [] (volume_copied_con v ok) (.mk (by (repeat' (first | exact tr_nil | refine tr_cons ?_ ?_ | exact tr_agg (by repeat' (first | exact trivial | rfl | refine ⟨?_, ?_⟩))))) (by first | trivial | (simp only [zT, Nat.reduceEqDiff, Nat.reduceAdd, ↓reduceIte, reduceCtorEq]; done) | (simp only [zT, Nat.reduceEqDiff, Nat.reduceAdd, ↓reduceIte, reduceCtorEq]; trivial) | (simp only [zT, Nat.reduceEqDiff, Nat.reduceAdd, ↓reduceIte, reduceCtorEq]; repeat' (fail))) (by simp) (by simp) (trivial) (by first | (simp [lkE_cons, lkE_nil]; done) | (intro j hj; simp at hj; simp only [lkE_cons, lkE_nil]; repeat rw [if_neg (by omega)])) (by first | (simp [Ent.pure]; done) | (simp [Ent.pure]; repeat' (first | (first | exact drows_nrow _ | exact drows_wrow _) | refine ⟨?_, ?_⟩))) (by simp) (by simp)) ?_
  refine RG.go fun Q hQ => ?_
  simp (disch := first | (intros; contradiction) | omega | (simp only [zN]; omega)) only [zS, reduceCtorEq, Nat.reduceAdd, Nat.reduceEqDiff, ↓reduceIte]
  refine hQ _ _ _ _ _ (RG.nil ?_)
  try simp only [zX]
  refine aw_reg 224 (RG.go fun Q hQ => ?_)
  simp (disch := first | (intros; contradiction) | omega | (simp only [zN]; omega)) only [zS, reduceCtorEq, Nat.reduceAdd, Nat.reduceEqDiff, ↓reduceIte]
  refine hQ _ _ _ _ _ ?_
  refine RG.callo [] [] (volume_copied_con v ok) (.mk (by (repeat' (first | exact tr_nil | refine tr_cons ?_ ?_ | exact tr_agg (by repeat' (first | exact trivial | rfl | refine ⟨?_, ?_⟩))))) (by first | trivial | (simp only [zT, Nat.reduceEqDiff, Nat.reduceAdd, ↓reduceIte, reduceCtorEq]; done) | (simp only [zT, Nat.reduceEqDiff, Nat.reduceAdd, ↓reduceIte, reduceCtorEq]; trivial) | (simp only [zT, Nat.reduceEqDiff, Nat.reduceAdd, ↓reduceIte, reduceCtorEq]; repeat' (fail))) (by simp) (by simp) (trivial) (by first | (simp [lkE_cons, lkE_nil]; done) | (intro j hj; simp at hj; simp only [lkE_cons, lkE_nil]; repeat rw [if_neg (by omega)])) (by first | (simp [Ent.pure]; done) | (simp [Ent.pure]; repeat' (first | (first | exact drows_nrow _ | exact drows_wrow _) | refine ⟨?_, ?_⟩))) (by simp) (by simp)) ?_
  refine RG.go fun Q hQ => ?_
  simp (disch := first | (intros; contradiction) | omega | (simp only [zN]; omega)) only [zS, reduceCtorEq, Nat.reduceAdd, Nat.reduceEqDiff, ↓reduceIte]
  refine hQ _ _ _ _ _ (RG.nil ?_)
  try simp only [zX]
  refine aw_reg 304 (RG.go fun Q hQ => ?_)
  simp (disch := first | (intros; contradiction) | omega | (simp only [zN]; omega)) only [zS, reduceCtorEq, Nat.reduceAdd, Nat.reduceEqDiff, ↓reduceIte]
  refine hQ _ _ _ _ _ (RG.nil ?_)
  try simp only [zX]
  refine aw_reg 368 (RG.go fun Q hQ => ?_)
  simp (disch := first | (intros; contradiction) | omega | (simp only [zN]; omega)) only [zS, reduceCtorEq, Nat.reduceAdd, Nat.reduceEqDiff, ↓reduceIte, k2]
  refine hQ _ _ _ _ _ (RG.nil ?_)
  try simp only [zX]
  refine aw_cond _ rfl trivial (fun ht => by cases ht) (fun hf => ?_)
  try simp only [zX]
  refine aw_reg 432 (RG.go fun Q hQ => ?_)
  simp (disch := first | (intros; contradiction) | omega | (simp only [zN]; omega)) only [zS, reduceCtorEq, Nat.reduceAdd, Nat.reduceEqDiff, ↓reduceIte, k3]
  refine hQ _ _ _ _ _ (RG.nil ?_)
  try simp only [zX]
  refine aw_cond _ rfl trivial (fun ht => by cases ht) (fun hf => ?_)
  try simp only [zX]
  refine aw_reg 496 (RG.go fun Q hQ => ?_)
  simp (disch := first | (intros; contradiction) | omega | (simp only [zN]; omega)) only [zS, reduceCtorEq, Nat.reduceAdd, Nat.reduceEqDiff, ↓reduceIte, k4]
  refine hQ _ _ _ _ _ (RG.nil ?_)
  try simp only [zX]
  refine aw_cond _ rfl trivial (fun ht => by cases ht) (fun hf => ?_)
  try simp only [zX, Nat.reduceEqDiff, ↓reduceIte, reduceCtorEq]
  refine aw_reg 560 (RG.go fun Q hQ => ?_)
  simp (disch := first | (intros; contradiction) | omega | (simp only [zN]; omega)) only [zS, reduceCtorEq, Nat.reduceAdd, Nat.reduceEqDiff, ↓reduceIte, k5]
  refine hQ _ _ _ _ _ (RG.nil ?_)
  try simp only [zX]
  refine aw_cond _ rfl trivial (fun ht => by cases ht) (fun hf => ?_)
  try simp only [zX]
  refine aw_reg 624 (RG.go fun Q hQ => ?_)
  simp (disch := first | (intros; contradiction) | omega | (simp only [zN]; omega)) only [zS, reduceCtorEq, Nat.reduceAdd, Nat.reduceEqDiff, ↓reduceIte, k6]
  refine hQ _ _ _ _ _ (RG.nil ?_)
  try simp only [zX]
  refine aw_cond _ rfl trivial (fun ht => by cases ht) (fun hf => ?_)
  try simp only [zX, Nat.reduceEqDiff, ↓reduceIte, reduceCtorEq]
  refine aw_reg 688 (RG.go fun Q hQ => ?_)
  simp (disch := first | (intros; contradiction) | omega | (simp only [zN]; omega)) only [zS, reduceCtorEq, Nat.reduceAdd, Nat.reduceEqDiff, ↓reduceIte, k7]
  refine hQ _ _ _ _ _ (RG.nil ?_)
  try simp only [zX]
  refine aw_cond _ rfl trivial (fun ht => by cases ht) (fun hf => ?_)
  try simp only [zX]
  refine aw_reg 752 (RG.go fun Q hQ => ?_)
  simp (disch := first | (intros; contradiction) | omega | (simp only [zN]; omega)) only [zS, reduceCtorEq, Nat.reduceAdd, Nat.reduceEqDiff, ↓reduceIte, k8]
  refine hQ _ _ _ _ _ (RG.nil ?_)
  try simp only [zX]
  refine aw_cond _ rfl trivial (fun ht => ?_) (fun hf => by cases hf)
  try simp only [zX]
  refine aw_reg 816 (RG.go fun Q hQ => ?_)
  simp (disch := first | (intros; contradiction) | omega | (simp only [zN]; omega)) only [zS, reduceCtorEq, Nat.reduceAdd, Nat.reduceEqDiff, ↓reduceIte, Int.reduceBNe]
  refine hQ _ _ _ _ _ (RG.nil ?_)
  try simp only [zX]
  refine aw_cond _ rfl trivial (fun ht => by cases ht) (fun hf => ?_)
  try simp only [zX]
  refine aw_draw 880 (RG.go fun Q hQ => ?_)
  simp (disch := first | (intros; contradiction) | omega | (simp only [zN]; omega)) only [zS, reduceCtorEq, Nat.reduceAdd, Nat.reduceEqDiff, ↓reduceIte]
  refine hQ _ _ _ _ _ ?_
  refine RG.call [240, 241] (volume_Len_con v) (by (repeat' (first | exact tr_nil | refine tr_cons ?_ ?_ | exact tr_agg (by (repeat' (first | exact trivial | rfl | (refine ⟨by simp, _, _, _, rfl, ?_⟩; (first | exact drows_nrow _ | exact drows_wrow _)) | refine ⟨?_, ?_⟩)))))) (by repeat' (first | exact trivial | refine views1 rfl ?_)) (by (exact .inl trivial)) ?_
  refine RG.go fun Q hQ => ?_
  simp (disch := first | (intros; contradiction) | omega | (simp only [zN]; omega)) only [zS, reduceCtorEq, Nat.reduceAdd, Nat.reduceEqDiff, Nat.reduceLeDiff, ↓reduceIte]
  refine hQ _ _ _ _ _ (RG.nil ⟨by decide +kernel, ?_⟩)
  try simp only [zX]
  refine Fin.data [240, 241] (.inr rfl) rfl (by (exact ⟨trivial, trivial, trivial⟩)) ?_
  simp only [zL, Nat.reduceEqDiff, ↓reduceIte]
  all_goals ((repeat' (first | exact trivial | rfl | (refine ⟨⟨_, _, rfl⟩, ?_⟩; (first | exact drows_nrow _ | exact drows_wrow _)) | refine ⟨?_, ?_⟩)))

theorem Do_other (v : VOL) (c : CMD) (ok : Vok v) (hk : c.kind < 2 ∨ 8 < c.kind) : Con Try.prog 18 [.agg (volC v), .agg (cmdC c)] [] (doR (fail v 23)) [] := by
  have k2 : (c.kind == 2) = false := by rw [beq_eq_false_iff_ne]; omega
  have k3 : (c.kind == 3) = false := by rw [beq_eq_false_iff_ne]; omega
  have k4 : (c.kind == 4) = false := by rw [beq_eq_false_iff_ne]; omega
  have k5 : (c.kind == 5) = false := by rw [beq_eq_false_iff_ne]; omega
  have k6 : (c.kind == 6) = false := by rw [beq_eq_false_iff_ne]; omega
  have k7 : (c.kind == 7) = false := by rw [beq_eq_false_iff_ne]; omega
  have k8 : (c.kind == 8) = false := by rw [beq_eq_false_iff_ne]; omega
  refine C_volume_Do (Nat.le_of_ble_eq_true rfl) (Nat.le_of_ble_eq_true rfl) ?_
  simp only [A_volume_Do, argL, objL, List.length_nil, Nat.zero_add, zX]
  refine aw_reg 16 (RG.go fun Q hQ => ?_)
  simp (disch := first | (intros; contradiction) | omega | (simp only [zN]; omega)) only [zS, reduceCtorEq, Nat.reduceAdd, Nat.reduceEqDiff, ↓reduceIte, vC_eq, cmdC, cC]
  refine hQ _ _ _ _ _ (RG.nil ?_)
  try simp only [zX]
  refine aw_reg 112 (RG.go fun Q hQ => ?_)
  simp (disch := first | (intros; contradiction) | omega | (simp only [zN]; omega)) only [zS, reduceCtorEq, Nat.reduceAdd, Nat.reduceEqDiff, ↓reduceIte]
  refine hQ _ _ _ _ _ ?_
  refine RG.callo [] [] (volume_copied_con v ok) (.mk (by (repeat' (first | exact tr_nil | refine tr_cons ?_ ?_ | exact tr_agg (by repeat' (first | exact trivial | rfl | refine ⟨?_, ?_⟩))))) (by first | trivial | (simp only [zT, Nat.reduceEqDiff, Nat.reduceAdd, ↓reduceIte, reduceCtorEq]; done) | (simp only [zT, Nat.reduceEqDiff, Nat.reduceAdd, ↓reduceIte, reduceCtorEq]; trivial) | (simp only [zT, Nat.reduceEqDiff, Nat.reduceAdd, ↓reduceIte, reduceCtorEq]; repeat' (fail))) (by simp) (by simp) (trivial) (by first | (simp [lkE_cons, lkE_nil]; done) | (intro j hj; simp at hj; simp only [lkE_cons, lkE_nil]; repeat rw [if_neg (by omega)])) (by first | (simp [Ent.pure]; done) | (simp [Ent.pure]; repeat' (first | (first | exact drows_nrow _ | exact drows_wrow _) | refine ⟨?_, ?_⟩))) (by simp) (by simp)) ?_
  refine RG.go fun Q hQ => ?_
  simp (disch := first | (intros; contradiction) | omega | (simp only [zN]; omega)) only [zS, reduceCtorEq, Nat.reduceAdd, Nat.reduceEqDiff, ↓reduceIte]
  refine hQ _ _ _ _ _ (RG.nil ?_)
  try simp only [zX]
  refine aw_reg 224 (RG.go fun Q hQ => ?_)
  simp (disch := first | (intros; contradiction) | omega | (simp only [zN]; omega)) only [zS, reduceCtorEq, Nat.reduceAdd, Nat.reduceEqDiff, ↓reduceIte]
  refine hQ _ _ _ _ _ ?_
  refine RG.callo [] [] (volume_copied_con v ok) (.mk (by (repeat' (first | exact tr_nil | refine tr_cons ?_ ?_ | exact tr_agg (by repeat' (first | exact trivial | rfl | refine ⟨?_, ?_⟩))))) (by first | trivial | (simp only [zT, Nat.reduceEqDiff, Nat.reduceAdd, ↓reduceIte, reduceCtorEq]; done) | (simp only [zT, Nat.reduceEqDiff, Nat.reduceAdd, ↓reduceIte, reduceCtorEq]; trivial) | (simp only [zT, Nat.reduceEqDiff, Nat.reduceAdd, ↓reduceIte, reduceCtorEq]; repeat' (fail))) (by simp) (by simp) (trivial) (by first | (simp [lkE_cons, lkE_nil]; done) | (intro j hj; simp at hj; simp only [lkE_cons, lkE_nil]; repeat rw [if_neg (by omega)])) (by first | (simp [Ent.pure]; done) | (simp [Ent.pure]; repeat' (first | (first | exact drows_nrow _ | exact drows_wrow _) | refine ⟨?_, ?_⟩))) (by simp) (by simp)) ?_
  refine RG.go fun Q hQ => ?_
  simp (disch := first | (intros; contradiction) | omega | (simp only [zN]; omega)) only [zS, reduceCtorEq, Nat.reduceAdd, Nat.reduceEqDiff, ↓reduceIte]
  refine hQ _ _ _ _ _ (RG.nil ?_)
  try simp only [zX]
  refine aw_reg 304 (RG.go fun Q hQ => ?_)
  simp (disch := first | (intros; contradiction) | omega | (simp only [zN]; omega)) only [zS, reduceCtorEq, Nat.reduceAdd, Nat.reduceEqDiff, ↓reduceIte]
  refine hQ _ _ _ _ _ (RG.nil ?_)
  try simp only [zX]
  refine aw_reg 368 (RG.go fun Q hQ => ?_)
  simp (disch := first | (intros; contradiction) | omega | (simp only [zN]; omega)) only [zS, reduceCtorEq, Nat.reduceAdd, Nat.reduceEqDiff, ↓reduceIte, k2]
  refine hQ _ _ _ _ _ (RG.nil ?_)
  try simp only [zX]
  refine aw_cond _ rfl trivial (fun ht => by cases ht) (fun hf => ?_)
  try simp only [zX]
  refine aw_reg 432 (RG.go fun Q hQ => ?_)
  simp (disch := first | (intros; contradiction) | omega | (simp only [zN]; omega)) only [zS, reduceCtorEq, Nat.reduceAdd, Nat.reduceEqDiff, ↓reduceIte, k3]
  refine hQ _ _ _ _ _ (RG.nil ?_)
  try simp only [zX]
  refine aw_cond _ rfl trivial (fun ht => by cases ht) (fun hf => ?_)
  try simp only [zX]
  refine aw_reg 496 (RG.go fun Q hQ => ?_)
  simp (disch := first | (intros; contradiction) | omega | (simp only [zN]; omega)) only [zS, reduceCtorEq, Nat.reduceAdd, Nat.reduceEqDiff, ↓reduceIte, k4]
  refine hQ _ _ _ _ _ (RG.nil ?_)
  try simp only [zX]
  refine aw_cond _ rfl trivial (fun ht => by cases ht) (fun hf => ?_)
  try simp only [zX, Nat.reduceEqDiff, ↓reduceIte, reduceCtorEq]
  refine aw_reg 560 (RG.go fun Q hQ => ?_)
  simp (disch := first | (intros; contradiction) | omega | (simp only [zN]; omega)) only [zS, reduceCtorEq, Nat.reduceAdd, Nat.reduceEqDiff, ↓reduceIte, k5]
  refine hQ _ _ _ _ _ (RG.nil ?_)
  try simp only [zX]
  refine aw_cond _ rfl trivial (fun ht => by cases ht) (fun hf => ?_)
  try simp only [zX]
  refine aw_reg 624 (RG.go fun Q hQ => ?_)
  simp (disch := first | (intros; contradiction) | omega | (simp only [zN]; omega)) only [zS, reduceCtorEq, Nat.reduceAdd, Nat.reduceEqDiff, ↓reduceIte, k6]
  refine hQ _ _ _ _ _ (RG.nil ?_)
  try simp only [zX]
  refine aw_cond _ rfl trivial (fun ht => by cases ht) (fun hf => ?_)
  try simp only [zX, Nat.reduceEqDiff, ↓reduceIte, reduceCtorEq]
  refine aw_reg 688 (RG.go fun Q hQ => ?_)
  simp (disch := first | (intros; contradiction) | omega | (simp only [zN]; omega)) only [zS, reduceCtorEq, Nat.reduceAdd, Nat.reduceEqDiff, ↓reduceIte, k7]
  refine hQ _ _ _ _ _ (RG.nil ?_)
  try simp only [zX]
  refine aw_cond _ rfl trivial (fun ht => by cases ht) (fun hf => ?_)
  try simp only [zX]
  refine aw_reg 752 (RG.go fun Q hQ => ?_)
  simp (disch := first | (intros; contradiction) | omega | (simp only [zN]; omega)) only [zS, reduceCtorEq, Nat.reduceAdd, Nat.reduceEqDiff, ↓reduceIte, k8]
  refine hQ _ _ _ _ _ (RG.nil ?_)
  try simp only [zX]
  refine aw_cond _ rfl trivial (fun ht => by cases ht) (fun hf => ?_)
  try simp only [zX, Nat.reduceEqDiff, ↓reduceIte, reduceCtorEq]
  refine aw_reg 816 (RG.go fun Q hQ => ?_)
  simp (disch := first | (intros; contradiction) | omega | (simp only [zN]; omega)) only [zS, reduceCtorEq, Nat.reduceAdd, Nat.reduceEqDiff, ↓reduceIte]
  refine hQ _ _ _ _ _ (RG.nil ?_)
  try simp only [zX]
  refine aw_reg 864 (RG.go fun Q hQ => ?_)
  simp (disch := first | (intros; contradiction) | omega | (simp only [zN]; omega)) only [zS, reduceCtorEq, Nat.reduceAdd, Nat.reduceEqDiff, ↓reduceIte, Int.reduceBNe]
  refine hQ _ _ _ _ _ (RG.nil ?_)
  try simp only [zX]
  refine aw_cond _ rfl trivial (fun ht => ?_) (fun hf => by cases hf)
  try simp only [zX]
  refine aw_reg 928 (RG.go fun Q hQ => ?_)
  simp (disch := first | (intros; contradiction) | omega | (simp only [zN]; omega)) only [zS, reduceCtorEq, Nat.reduceAdd, Nat.reduceEqDiff, Nat.reduceLeDiff, ↓reduceIte]
  refine hQ _ _ _ _ _ (RG.nil ?_)
  try simp only [zX]
  refine Fin.data [128, 129] (.inr rfl) rfl (by (exact ⟨trivial, trivial, trivial⟩)) ?_
  simp only [zL, Nat.reduceEqDiff, ↓reduceIte]
  all_goals ((repeat' (first | exact trivial | rfl | (refine ⟨⟨_, _, rfl⟩, ?_⟩; (first | exact drows_nrow _ | exact drows_wrow _)) | refine ⟨?_, ?_⟩)))

end Go.Abs

namespace Go.Abs
open Go Go.Proofs
set_option maxRecDepth 100000
set_option linter.unusedSimpArgs false
set_option maxHeartbeats 4000000

theorem while_parts {p : Int → Bool} : ∀ l : List Int, l.takeWhile p ++ l.dropWhile p = l := fun l => List.takeWhile_append_dropWhile
theorem insP_eq {t : Int} {l : List Int} (hs : l.Pairwise (· ≤ ·)) : isort (l ++ [t]) = insP t l := by
  symm
  have hp := while_parts (p := fun x => decide (x ≤ t)) l
  refine isort_unique ?_ ?_
  · unfold insP
    conv => rhs; rw [← hp]
    rw [List.append_assoc]
    exact List.Perm.append_left _ (List.perm_append_comm (l₁ := [t]))
  · have hs' := hs
    rw [← hp, List.pairwise_append] at hs'
    unfold insP
    rw [List.pairwise_append, List.pairwise_cons]
    refine ⟨hs'.1, ⟨fun y hy => ?_, hs'.2.1⟩, fun x hx y hy => ?_⟩
    · cases hd : l.dropWhile (fun x => decide (x ≤ t)) with
      | nil => rw [hd] at hy; cases hy
      | cons z r =>
        have hz : ¬ z ≤ t := by
          have := List.head_dropWhile_not (fun x => decide (x ≤ t)) (l := l) (by rw [hd]; simp)
          simpa [hd] using this
        rw [hd] at hy hs'
        rcases List.mem_cons.1 hy with rfl | hy
        · omega
        · have := (List.pairwise_cons.1 hs'.2.1).1 y hy; omega
    · have hxt : x ≤ t := by
        have := List.all_takeWhile (p := fun x => decide (x ≤ t)) (l := l)
        simpa using List.all_eq_true.1 this x hx
      rcases List.mem_cons.1 hy with rfl | hy
      · exact hxt
      · exact hs'.2.2 x hx y hy

theorem first_idx {t : Int} : ∀ {l : List Int}, t ∈ l → ∃ (k : Nat) (hk : k < l.length), l[k] = t ∧ ∀ i (hi : i < l.length), i < k → l[i] ≠ t
  | x :: l, h => by
    by_cases hx : x = t
    · exact ⟨0, by simp, by simp [hx], fun i _ h => by omega⟩
    · obtain ⟨k, hk, h1, h2⟩ := first_idx (l := l) (by rcases List.mem_cons.1 h with h | h; exact absurd h.symm hx; exact h)
      refine ⟨k + 1, by simpa using hk, by simpa using h1, fun i hi h => ?_⟩
      match i with
      | 0 => simpa using hx
      | i + 1 => simpa using h2 i (by simpa using hi) (by omega)

structure DoOk (v : VOL) (c : CMD) : Prop where
  ok : Vok v
  pins : v.pins.length < 60000
  sorted : v.pins.Pairwise (· ≤ ·)
  next : 0 ≤ v.next ∧ v.next ≤ 1099511627776
  items : c.items.length ≤ 1000000
  data : ∀ x ∈ c.items, x.d.length ≤ 1000000

theorem volume_Do_con (v : VOL) (c : CMD) (h : DoOk v c) : Con Try.prog 18 [.agg (volC v), .agg (cmdC c)] [] (doR (doV v c)) [] := by
  obtain ⟨ok, hp, hs, hn, hl, hd⟩ := h
  unfold doV
  split
  · rename_i hk; exact volume_Do_put v c ok hk hl hd
  split
  · rename_i hk
    unfold doPrune
    split
    · rename_i hh; exact Do_hid3 v c ok hk hh
    · rename_i hh
      have hh : v.hid = false := by simpa using hh
      split
      · rename_i h1; exact Do_prune_no v c ok hk hh 30 (by unfold timeE; rw [if_pos h1]) (by decide)
      split
      · rename_i h1 h2; exact Do_prune_no v c ok hk hh 31 (by unfold timeE; rw [if_neg h1, if_pos h2]) (by decide)
      · rename_i h1 h2; exact Do_prune_yes v c ok hk hh (timeE_of.2 (by omega))
  split
  · rename_i hk
    unfold doPin
    split
    · rename_i hh; exact Do_hid4 v c ok hk hh
    · rename_i hh
      have hh : v.hid = false := by simpa using hh
      split
      · rename_i h1; exact Do_pin_no v c ok hk hh 30 (by unfold timeE; rw [if_pos h1]) (by decide)
      split
      · rename_i h1 h2; exact Do_pin_no v c ok hk hh 31 (by unfold timeE; rw [if_neg h1, if_pos h2]) (by decide)
      · rename_i h1 h2
        rw [← insP_eq hs]
        exact Do_pin_yes v c ok hk hp hh (timeE_of.2 (by omega))
  split
  · rename_i hk
    unfold doUnpin
    split
    · rename_i hh; exact Do_hid5 v c ok hk hh
    · rename_i hh
      have hh : v.hid = false := by simpa using hh
      split
      · rename_i hm
        obtain ⟨k, hkl, h1, h2⟩ := first_idx hm
        rw [delP_at hkl h1 (fun x hx => by
          obtain ⟨i, hi, rfl⟩ := List.mem_iff_getElem.1 hx
          rw [List.getElem_take]
          simp at hi
          exact h2 i (by omega) (by omega))]
        exact Do_unpin_yes v c ok hk hh k hkl h1 h2 _ rfl
      · rename_i hm
        exact Do_unpin_no v c ok hk hh fun i hi he => hm (by rw [← he]; exact List.getElem_mem hi)
  split
  · rename_i h2 h3 h4 h5 hk
    unfold doImp
    split
    · rename_i hi
      rcases hk with hk | hk
      · exact Do_imp6_write v c ok hk hl hd ⟨hn.2, hn.1⟩ hi
      · exact Do_imp7_write v c ok hk hl hd ⟨hn.2, hn.1⟩ hi
    · rename_i w e hi
      split
      · rename_i he
        subst he
        rcases hk with hk | hk
        · have hw : w = v := by
            unfold impS at hi
            rw [if_neg (show ¬ c.kind = 7 by omega)] at hi
            split at hi
            · cases hi
            split at hi
            · cases hi; rfl
            split at hi
            · cases hi
            split at hi <;> cases hi
          subst hw
          exact Do_imp6_same w c ok hk hl hd hi
        · have hw : w = pubV v := by
            unfold impS at hi
            rw [if_pos hk] at hi
            split at hi
            · cases hi
            split at hi
            · cases hi; rfl
            · cases hi
          subst hw
          exact Do_imp7_same v c ok hk hl hd hi
      · rename_i he
        rcases hk with hk | hk
        · exact Do_imp6_no v c ok hk hl hd w e hi he
        · exact Do_imp7_no v c ok hk hl hd w e hi he
  split
  · rename_i hk; exact Do_stat v c ok hk
  · exact Do_other v c ok (by omega)

end Go.Abs

namespace Go.Abs
open Go Go.Proofs
set_option maxRecDepth 100000
set_option linter.unusedSimpArgs false
set_option maxHeartbeats 4000000

def dataN (n k : Nat) : List Nat := (List.range n).map fun i => (k + i * 7) % 256
theorem dataN_succ (n k : Nat) : dataN (n + 1) k = dataN n k ++ [(k + n * 7) % 256] := by simp [dataN, List.range_succ]
theorem dataN_len (n k : Nat) : (dataN n k).length = n := by simp [dataN]
theorem dataN_by (n k : Nat) : ∀ c ∈ dataN n k, c < 256 := by
  intro c hc; obtain ⟨i, _, rfl⟩ := List.mem_map.1 hc; omega

theorem Data_con (n k : Nat) (hn : n ≤ 200) (hk : k < 256) : Con Try.prog 59 [I n, .c (.v (.int .u8 k))] [] (.c (.osl 0)) [.arr 5 1 ((dataN n k).map brow) false] := by
  refine C_mementoseat_Data (Nat.le_of_ble_eq_true rfl) (Nat.le_of_ble_eq_true rfl) ?_
  simp only [A_mementoseat_Data, argL, objL, List.length_nil, Nat.zero_add, zX]
  refine aw_reg 16 (RG.go fun Q hQ => ?_)
  simp (disch := first | (intros; contradiction) | omega | (simp only [zN]; omega)) only [zS, reduceCtorEq, Nat.reduceAdd, Nat.reduceEqDiff, ↓reduceIte]
  refine hQ _ _ _ _ _ (RG.nil ?_)
  try simp only [zX]
  refine aw_reg 64 (RG.go fun Q hQ => ?_)
  simp (disch := first | (intros; contradiction) | omega | (simp only [zN]; omega)) only [zS, reduceCtorEq, Nat.reduceAdd, Nat.reduceEqDiff, ↓reduceIte]
  refine hQ _ _ _ _ _ (RG.nil ?_)
  try simp only [zX]
  refine aw_reg 112 (RG.go fun Q hQ => ?_)
  simp (disch := first | (intros; contradiction) | omega | (simp only [zN]; omega)) only [zS, reduceCtorEq, Nat.reduceAdd, Nat.reduceEqDiff, ↓reduceIte]
  refine hQ _ _ _ _ _ (RG.nil ?_)
  try simp only [zX]
  refine aw_loopK (X := { i : Nat // i ≤ n }) [0, 1] (fun i => [(5, .c (.osl 5000)), (6, I i.1)]) [] (fun i => [(5000, .arr 5 1 ((dataN i.1 k).map brow) false)]) (fun i => n - i.1) (⟨0, by omega⟩) ?_ ?_
  · skip
    simp only [keepS, keepE, lk_cons, List.cons_append, List.nil_append, ↓reduceIte, reduceCtorEq]
    refine (Le.own 5 5000 5 1 rfl rfl (by decide)).trans ?_
    simp only [setS_cons, setE_nil, Nat.reduceEqDiff, ↓reduceIte, reduceCtorEq]
    refine Le.lit [] [] _ _ ?_ ?_ ?_ ?_
    · simp only [zL, Nat.reduceEqDiff, ↓reduceIte, reduceCtorEq]
      all_goals (try (skip))
    · simp only [zL, ↓reduceIte, reduceCtorEq]
      all_goals (try ((repeat' (first | (exact drows_brow _) | rfl | refine ⟨?_, ?_⟩))))
    · simp [rlook]
    · first | (simp; done) | (intro k hk; simp [rlook]; omega)
  rintro ⟨i, hi⟩
  simp only [keepS, keepE, lk_cons, List.cons_append, List.nil_append, ↓reduceIte, reduceCtorEq]
  try simp only [zX]
  have hl := dataN_len i k
  refine aw_reg 160 (RG.go fun Q hQ => ?_)
  simp (disch := first | (intros; contradiction) | omega | (simp only [zN]; omega)) only [zS, reduceCtorEq, Nat.reduceAdd, Nat.reduceEqDiff, ↓reduceIte]
  refine hQ _ _ _ _ _ (RG.nil ?_)
  try simp only [zX]
  refine aw_cond _ rfl trivial (fun ht => ?_) (fun hf => ?_)
  · skip
    try simp at ht
    try simp only [zX]
    have e1 : IntKind.u8.wrap ((k : Int) + IntKind.u8.wrap ((i : Int) * 7)) = (((k + i * 7) % 256 : Nat) : Int) := by rw [w_u8, w_u8]; omega
    have e2 : (dataN i k).map brow ++ [[.v (.int .u8 (((k + i * 7) % 256 : Nat) : Int))]] = (dataN (i + 1) k).map brow := by rw [dataN_succ, List.map_append]; rfl
    refine aw_reg 240 (RG.go fun Q hQ => ?_)
    simp (disch := first | (intros; contradiction) | omega | (simp only [zN]; omega)) only [zS, zW, reduceCtorEq, Nat.reduceAdd, Nat.reduceEqDiff, ↓reduceIte, e1, e2, hl]
    repeat refine ⟨by ((simp; omega)), ?_⟩
    refine hQ _ _ _ _ _ (RG.nil ?_)
    try simp only [zX]
    refine aw_reg 416 (RG.go fun Q hQ => ?_)
    simp (disch := first | (intros; contradiction) | omega | (simp only [zN]; omega)) only [zS, zW, reduceCtorEq, Nat.reduceAdd, Nat.reduceEqDiff, ↓reduceIte]
    refine hQ _ _ _ _ _ (RG.nil ?_)
    try simp only [zX]
    refine ⟨⟨i + 1, by omega⟩, ?_, by first | omega | (simp only; omega)⟩
    refine Le.lit [] [(5000, 352)] _ _ ?_ ?_ ?_ ?_
    · simp only [zL, Nat.reduceEqDiff, ↓reduceIte, reduceCtorEq]
      all_goals (try ((repeat' (rfl))))
    · simp only [zL, Nat.reduceEqDiff, ↓reduceIte, reduceCtorEq]
      all_goals (try ((repeat' ((exact drows_brow _)))))
    · simp [rlook]
    · first | (simp; done) | (intro k hk; simp [rlook]; omega)
  try simp at hf
  try simp only [zX, ↓reduceIte]
  obtain rfl : i = n := by omega
  refine aw_reg 496 (RG.go fun Q hQ => ?_)
  simp (disch := first | (intros; contradiction) | omega | (simp only [zN]; omega)) only [zS, reduceCtorEq, Nat.reduceAdd, Nat.reduceEqDiff, ↓reduceIte]
  refine hQ _ _ _ _ _ (RG.nil ?_)
  try simp only [zX]
  refine Fin.objs [] [(0, 5000)] (.inr rfl) rfl (by first | exact trivial | exact ⟨trivial, trivial⟩ | exact ⟨trivial, trivial, trivial⟩) ?_ ?_ (by simp [objL, rlook]) (by first | (simp [objL, rlook]; done) | (intro k hk; simp [objL, rlook]; omega))
  · simp only [zL, Nat.reduceEqDiff, ↓reduceIte, reduceCtorEq]
    all_goals (try (skip))
  · simp only [zL, ↓reduceIte, reduceCtorEq]
    all_goals (try ((repeat' ((exact drows_brow _)))))

theorem DataD_con (n k : Nat) (hn : n ≤ 200) (hk : k < 256) : Con Try.prog 59 [I n, .c (.v (.int .u8 k))] [] (.c (.sl ((dataN n k).map brow))) [] :=
  (Data_con n k hn hk).rows (drows_brow _)

def hasB (b : Int) (l : List IT) : Bool := l.any fun y => decide (y.b = b)
def itsStep (blocks size : Nat) (acc : List IT) (c : Nat) : List IT := if hasB ((c % max blocks 1 : Nat)) acc then acc else acc ++ [⟨(c % max blocks 1 : Nat), dataN size c⟩]
def itsF (blocks size : Nat) : List Nat → List IT → List IT
  | [], acc => acc
  | c :: l, acc => if acc.length < 8 then itsF blocks size l (itsStep blocks size acc c) else acc
def itsN (blocks size : Nat) (l : List Nat) : List IT := itsF blocks size l []

theorem Items_con (blocks size : Nat) (l : List Nat) (hb : blocks ≤ 1000000) (hs : size ≤ 200) (hl : l.length ≤ 1000000) (h8 : ∀ c ∈ l, c < 256) :
    Con Try.prog 38 [I blocks, I size, .c (.sl (l.map brow))] [] (.c (.osl 0)) [.arr 76 2 ((itsN blocks size l).map irow) false] := by
  obtain ⟨q, hq⟩ : ∃ q, q = max blocks 1 := ⟨_, rfl⟩
  have hqi : (if (blocks : Int) < 1 then 1 else (blocks : Int)) = (q : Int) := by split <;> omega
  obtain ⟨R, hR⟩ : ∃ R, R = itsN blocks size l := ⟨_, rfl⟩
  rw [← hR]
  refine C_mementoseat_Items (Nat.le_of_ble_eq_true rfl) (Nat.le_of_ble_eq_true rfl) ?_
  simp only [A_mementoseat_Items, argL, objL, List.length_nil, Nat.reduceAdd, Nat.zero_add, zX]
  refine aw_reg 16 (RG.go fun Q hQ => ?_)
  simp (disch := first | (intros; contradiction) | omega | (simp only [zN]; omega)) only [zS, reduceCtorEq, Nat.reduceAdd, Nat.reduceEqDiff, ↓reduceIte]
  refine hQ _ _ _ _ _ (RG.nil ?_)
  try simp only [zX]
  refine aw_reg 64 (RG.go fun Q hQ => ?_)
  simp (disch := first | (intros; contradiction) | omega | (simp only [zN]; omega)) only [zS, reduceCtorEq, Nat.reduceAdd, Nat.reduceEqDiff, ↓reduceIte]
  refine hQ _ _ _ _ _ (RG.nil ?_)
  try simp only [zX]
  refine aw_reg 112 (RG.go fun Q hQ => ?_)
  simp (disch := first | (intros; contradiction) | omega | (simp only [zN]; omega)) only [zS, reduceCtorEq, Nat.reduceAdd, Nat.reduceEqDiff, ↓reduceIte]
  refine hQ _ _ _ _ _ (RG.nil ?_)
  try simp only [zX]
  refine aw_loopK (X := { p : Nat × List IT // p.1 ≤ l.length ∧ itsF blocks size (l.drop p.1) p.2 = R ∧ p.2.length ≤ 8 }) [0, 1, 2] (fun p => [(7, .c (.osl 5000)), (8, I p.1.1)]) [] (fun p => [(5000, .arr 76 2 (p.1.2.map irow) false)]) (fun p => l.length - p.1.1) (⟨(0, []), by simp only; omega, hR.symm, by simp⟩) ?_ ?_
  · skip
    simp only [keepS, keepE, lk_cons, List.cons_append, List.nil_append, Nat.reduceEqDiff, ↓reduceIte, reduceCtorEq]
    refine (Le.own 7 5000 76 2 rfl rfl (by decide)).trans ?_
    simp only [setS_cons, setE_nil, Nat.reduceEqDiff, ↓reduceIte, reduceCtorEq]
    refine Le.lit [] [] _ _ ?_ ?_ ?_ ?_
    · simp only [zL, Nat.reduceEqDiff, ↓reduceIte, reduceCtorEq]
      all_goals (try (skip))
    · simp only [zL, ↓reduceIte, reduceCtorEq]
      all_goals (try ((repeat' (((simp [C.isD]; done))))))
    · simp [rlook]
    · first | (simp; done) | (intro k hk; simp [rlook]; omega)
  rintro ⟨⟨i, acc⟩, h1, h2, h3⟩
  simp only [keepS, keepE, lk_cons, List.cons_append, List.nil_append, Nat.reduceEqDiff, ↓reduceIte, reduceCtorEq]
  try simp only [zX]
  simp only at h1 h2 h3
  refine aw_reg 160 (RG.go fun Q hQ => ?_)
  simp (disch := first | (intros; contradiction) | omega | (simp only [zN]; omega)) only [zS, zW, reduceCtorEq, Nat.reduceAdd, Nat.reduceEqDiff, ↓reduceIte]
  refine hQ _ _ _ _ _ (RG.nil ?_)
  try simp only [zX]
  refine aw_cond _ rfl trivial (fun ht => ?_) (fun hf => ?_)
  rotate_left
  · skip
    try simp at hf
    try simp only [zX, ↓reduceIte]
    have hd : itsF blocks size (l.drop i) acc = acc := by
      rcases Nat.lt_or_ge i l.length with h | h
      · rw [drop_get h]; unfold itsF; rw [if_neg (by omega)]
      · rw [List.drop_of_length_le h]; rfl
    rw [hd] at h2
    subst h2
    refine aw_reg 336 (RG.go fun Q hQ => ?_)
    simp (disch := first | (intros; contradiction) | omega | (simp only [zN]; omega)) only [zS, reduceCtorEq, Nat.reduceAdd, Nat.reduceEqDiff, ↓reduceIte]
    refine hQ _ _ _ _ _ (RG.nil ?_)
    try simp only [zX]
    refine Fin.objs [] [(0, 5000)] (.inr rfl) rfl (by first | exact trivial | exact ⟨trivial, trivial⟩ | exact ⟨trivial, trivial, trivial⟩) ?_ ?_ (by simp [objL, rlook]) (by first | (simp [objL, rlook]; done) | (intro k hk; simp [objL, rlook]; omega))
    · simp only [zL, Nat.reduceEqDiff, ↓reduceIte, reduceCtorEq]
      all_goals (try (skip))
    · simp only [zL, ↓reduceIte, reduceCtorEq]
      all_goals (try ((repeat' ((exact drows_irow _)))))
  try simp at ht
  try simp only [zX]
  have hi : i < l.length := by omega
  have hc8 := h8 _ (List.getElem_mem hi)
  rw [drop_get hi] at h2
  unfold itsF at h2
  rw [if_pos (by omega)] at h2
  have e1 : (l[i] : Int) % (q : Int) = ((l[i] % q : Nat) : Int) := by omega
  obtain ⟨b, hb2⟩ : ∃ b, b = l[i] % q := ⟨_, rfl⟩
  rw [← hb2] at e1
  have hstep : itsStep blocks size acc l[i] = if hasB b acc then acc else acc ++ [⟨b, dataN size l[i]⟩] := by unfold itsStep; rw [← hq, ← hb2]
  rw [hstep] at h2
  refine aw_reg 400 (RG.go fun Q hQ => ?_)
  simp (disch := first | (intros; contradiction) | omega | (simp only [zN]; omega)) only [zS, zW, reduceCtorEq, Nat.reduceAdd, Nat.reduceEqDiff, Nat.reduceLT, ↓reduceIte, brow, hqi, e1]
  repeat refine ⟨by (omega), ?_⟩
  refine hQ _ _ _ _ _ (RG.nil ?_)
  try simp only [zX]
  refine aw_reg 576 (RG.go fun Q hQ => ?_)
  simp (disch := first | (intros; contradiction) | omega | (simp only [zN]; omega)) only [zS, reduceCtorEq, Nat.reduceAdd, Nat.reduceEqDiff, ↓reduceIte]
  refine hQ _ _ _ _ _ (RG.nil ?_)
  try simp only [zX]
  refine aw_reg 624 (RG.go fun Q hQ => ?_)
  simp (disch := first | (intros; contradiction) | omega | (simp only [zN]; omega)) only [zS, reduceCtorEq, Nat.reduceAdd, Nat.reduceEqDiff, ↓reduceIte]
  refine hQ _ _ _ _ _ (RG.nil ?_)
  try simp only [zX]
  refine aw_loopK (X := { k : Nat // k ≤ acc.length }) [0, 1, 2, 7, 8, 9] (fun k => [(10, B (hasB b (acc.take k.1))), (11, I k.1)]) [5000] (fun k => []) (fun k => acc.length - k.1) (⟨0, by omega⟩) ?_ ?_
  · skip
    simp only [keepS, keepE, Option.getD_some, lk_cons, lkE_cons, List.cons_append, List.nil_append, Nat.reduceEqDiff, ↓reduceIte, reduceCtorEq]
    refine Le.lit [] [] _ _ ?_ ?_ ?_ ?_
    · simp only [zL, Nat.reduceEqDiff, ↓reduceIte, reduceCtorEq]
      all_goals (try ((repeat' (rfl))))
    · simp only [zL, ↓reduceIte, reduceCtorEq]
      all_goals (try ((repeat' ((exact drows_irow _)))))
    · simp [rlook]
    · first | (simp; done) | (intro k hk; simp [rlook]; omega)
  rintro ⟨k, hk⟩
  simp only [keepS, keepE, Option.getD_some, lk_cons, lkE_cons, List.cons_append, List.nil_append, Nat.reduceEqDiff, ↓reduceIte, reduceCtorEq]
  try simp only [zX]
  refine aw_reg 672 (RG.go fun Q hQ => ?_)
  simp (disch := first | (intros; contradiction) | omega | (simp only [zN]; omega)) only [zS, zW, reduceCtorEq, Nat.reduceAdd, Nat.reduceEqDiff, ↓reduceIte]
  refine hQ _ _ _ _ _ (RG.nil ?_)
  try simp only [zX]
  refine aw_cond _ rfl trivial (fun ht => ?_) (fun hf => ?_)
  · skip
    try simp at ht
    try simp only [zX]
    have hkl : k < acc.length := by omega
    have e3 : hasB b (acc.take (k + 1)) = (hasB b (acc.take k) || (acc[k].b == (b : Int))) := by
      unfold hasB; rw [take_one _ _ hkl, List.any_append]; simp; rw [Bool.eq_iff_iff]; simp
    refine aw_reg 768 (RG.go fun Q hQ => ?_)
    simp (disch := first | (intros; contradiction) | omega | (simp only [zN]; omega)) only [zS, zW, reduceCtorEq, Nat.reduceAdd, Nat.reduceEqDiff, Nat.reduceLT, ↓reduceIte, irow, itC]
    repeat refine ⟨by (first | (simp; done) | (intro h; refine ⟨?_, h⟩; simp [] at h; omega)), ?_⟩
    refine hQ _ _ _ _ _ (RG.nil ?_)
    try simp only [zX]
    refine aw_reg 976 (RG.go fun Q hQ => ?_)
    simp (disch := first | (intros; contradiction) | omega | (simp only [zN]; omega)) only [zS, zW, reduceCtorEq, Nat.reduceAdd, Nat.reduceEqDiff, ↓reduceIte]
    refine hQ _ _ _ _ _ (RG.nil ?_)
    try simp only [zX]
    refine ⟨⟨k + 1, hkl⟩, ?_, by first | omega | (simp only; omega)⟩
    refine Le.lit [] [] _ _ ?_ ?_ ?_ ?_
    · simp only [zL, Nat.reduceEqDiff, ↓reduceIte, reduceCtorEq]
      all_goals (rw [e3]; (repeat' ((simp; done))))
    · simp only [zL, ↓reduceIte, reduceCtorEq]
      all_goals (try ((repeat' ((exact drows_irow _)))))
    · simp [rlook]
    · first | (simp; done) | (intro k hk; simp [rlook]; omega)
  try simp at hf
  try simp only [zX, ↓reduceIte]
  obtain rfl : k = acc.length := by omega
  refine aw_reg 1056 (RG.go fun Q hQ => ?_)
  simp (disch := first | (intros; contradiction) | omega | (simp only [zN]; omega)) only [zS, zW, reduceCtorEq, Nat.reduceAdd, Nat.reduceEqDiff, ↓reduceIte]
  refine hQ _ _ _ _ _ (RG.nil ?_)
  try simp only [zX]
  refine aw_cond _ rfl trivial (fun ht => ?_) (fun hf => ?_)
  · skip
    try simp at ht
    try simp only [zX, Nat.reduceEqDiff, ↓reduceIte, reduceCtorEq]
    refine aw_reg 1120 (RG.go fun Q hQ => ?_)
    simp (disch := first | (intros; contradiction) | omega | (simp only [zN]; omega)) only [zS, zW, reduceCtorEq, Nat.reduceAdd, Nat.reduceEqDiff, Nat.reduceLT, ↓reduceIte, brow]
    repeat refine ⟨by (omega), ?_⟩
    refine hQ _ _ _ _ _ ?_
    refine RG.call [] (DataD_con size l[i] hs hc8) (by (repeat' (first | exact tr_nil | refine tr_cons ?_ ?_ | exact tr_v))) trivial (by (exact .inr ⟨rfl, trivial⟩)) ?_
    refine RG.go fun Q hQ => ?_
    simp (disch := first | (intros; contradiction) | omega | (simp only [zN]; omega)) only [zS, zW, reduceCtorEq, Nat.reduceAdd, Nat.reduceEqDiff, Nat.reduceLeDiff, ↓reduceIte]
    rw [if_neg (by simp [ht])] at h2
    have e2 : (acc ++ [(⟨(b : Int), dataN size l[i]⟩ : IT)]).map irow = acc.map irow ++ [[.v (.int .i64 b), .sl ((dataN size l[i]).map brow)]] := by rw [List.map_append]; rfl
    repeat refine ⟨by ((simp; omega)), ?_⟩
    refine hQ _ _ _ _ _ (RG.nil ?_)
    try simp only [zX]
    refine aw_reg 1344 (RG.go fun Q hQ => ?_)
    simp (disch := first | (intros; contradiction) | omega | (simp only [zN]; omega)) only [zS, zW, reduceCtorEq, Nat.reduceAdd, Nat.reduceEqDiff, ↓reduceIte]
    refine hQ _ _ _ _ _ (RG.nil ?_)
    try simp only [zX]
    refine ⟨⟨(i + 1, acc ++ [⟨b, dataN size l[i]⟩]), by simp only; omega, h2, by simp; omega⟩, ?_, by first | omega | (simp only; omega)⟩
    refine Le.lit [] [(5000, 1280)] _ _ ?_ ?_ ?_ ?_
    · simp only [zL, Nat.reduceEqDiff, ↓reduceIte, reduceCtorEq]
      all_goals (try ((repeat' (rfl))))
    · simp only [zL, Nat.reduceEqDiff, ↓reduceIte, reduceCtorEq]
      all_goals (rw [e2]; exact ⟨rfl, by rw [← e2]; exact drows_irow _⟩; skip)
    · simp [rlook]
    · first | (simp; done) | (intro k hk; simp [rlook]; omega)
  try simp at hf
  try simp only [zX]
  rw [if_pos hf] at h2
  refine aw_reg 1424 (RG.go fun Q hQ => ?_)
  simp (disch := first | (intros; contradiction) | omega | (simp only [zN]; omega)) only [zS, zW, reduceCtorEq, Nat.reduceAdd, Nat.reduceEqDiff, ↓reduceIte]
  refine hQ _ _ _ _ _ (RG.nil ?_)
  try simp only [zX]
  refine ⟨⟨(i + 1, acc), by simp only; omega, h2, h3⟩, ?_, by first | omega | (simp only; omega)⟩
  refine Le.lit [] [] _ _ ?_ ?_ ?_ ?_
  · simp only [zL, Nat.reduceEqDiff, ↓reduceIte, reduceCtorEq]
    all_goals (try ((repeat' (rfl))))
  · simp only [zL, ↓reduceIte, reduceCtorEq]
    all_goals (try ((repeat' ((exact drows_irow _)))))
  · simp [rlook]
  · first | (simp; done) | (intro k hk; simp [rlook]; omega)

end Go.Abs

namespace Go.Abs
open Go Go.Proofs
set_option maxRecDepth 100000
set_option linter.unusedSimpArgs false
set_option maxHeartbeats 4000000

def placeN (per n : Nat) : List Int := (List.range n).map fun i => ((1 + (i + per) % 2 : Nat) : Int)
theorem placeN_succ (per n : Nat) : placeN per (n + 1) = placeN per n ++ [((1 + (n + per) % 2 : Nat) : Int)] := by simp [placeN, List.range_succ]
theorem placeN_len (per n : Nat) : (placeN per n).length = n := by simp [placeN]
def createC (vol blocks size per total : Nat) : CMD :=
  ⟨1, (vol % 3 : Nat), (blocks % 9 + 1 : Nat), (size % 3 + 1 : Nat), (per % (blocks % 9 + 1) + 1 : Nat), placeN per (chunksN (blocks % 9 + 1 : Nat) (per % (blocks % 9 + 1) + 1 : Nat)).toNat, total, 0, 0, []⟩

theorem Create_con (vol blocks size per total : Nat) (h1 : vol < 256) (h2 : blocks < 256) (h3 : size < 256) (h4 : per < 256) (h5 : total < 1000) :
    Con Try.prog 16 [.c (.v (.int .u8 vol)), .c (.v (.int .u8 blocks)), .c (.v (.int .u8 size)), .c (.v (.int .u8 per)), I total] [] (.agg (cmdC (createC vol blocks size per total))) [] := by
  obtain ⟨b, hb⟩ : ∃ b, b = blocks % 9 + 1 := ⟨_, rfl⟩
  obtain ⟨p, hp⟩ : ∃ p, p = per % b + 1 := ⟨_, rfl⟩
  have hpb : p ≤ b := by have := Nat.mod_lt per (show 0 < b by omega); omega
  obtain ⟨c1, c2⟩ := chunks_nn (b := b) (p := p) (by omega) (by omega)
  obtain ⟨m, hm⟩ : ∃ m, m = (chunksN b p).toNat := ⟨_, rfl⟩
  have hmc : chunksN b p = (m : Int) := by omega
  have e1 : (blocks : Int) % 9 + 1 = (b : Int) := by omega
  have e2 : (per : Int) % (b : Int) + 1 = (p : Int) := by omega
  have e3 : (vol : Int) % 3 = ((vol % 3 : Nat) : Int) := by omega
  have e4 : (size : Int) % 3 + 1 = ((size % 3 + 1 : Nat) : Int) := by omega
  have cC := mementoref16_Chunks_con b p (by omega) (by omega)
  rw [hmc] at cC
  have hres : cmdC (createC vol blocks size per total) = [.v (.int .i64 1), .v (.int .i64 (vol % 3 : Nat)), .v (.int .i64 b), .v (.int .i64 (size % 3 + 1 : Nat)), .v (.int .i64 p), .sl ((placeN per m).map nrow), .v (.int .i64 total), .v (.int .i64 0), .v (.int .i64 0), .sl []] := by
    unfold createC; rw [← hb, ← hp, ← hm]; rfl
  rw [hres]
  refine C_mementoseat_Create (Nat.le_of_ble_eq_true rfl) (Nat.le_of_ble_eq_true rfl) ?_
  simp only [A_mementoseat_Create, argL, objL, List.length_nil, Nat.reduceAdd, Nat.zero_add, zX]
  refine aw_reg 16 (RG.go fun Q hQ => ?_)
  simp (disch := first | (intros; contradiction) | omega | (simp only [zN]; omega)) only [zS, reduceCtorEq, Nat.reduceAdd, Nat.reduceEqDiff, ↓reduceIte]
  refine hQ _ _ _ _ _ (RG.nil ?_)
  try simp only [zX]
  refine aw_reg 64 (RG.go fun Q hQ => ?_)
  simp (disch := first | (intros; contradiction) | omega | (simp only [zN]; omega)) only [zS, zW, reduceCtorEq, Nat.reduceAdd, Nat.reduceEqDiff, Nat.reduceLeDiff, ↓reduceIte, e1, e3, e4]
  repeat refine ⟨by (omega), ?_⟩
  refine hQ _ _ _ _ _ (RG.nil ?_)
  try simp only [zX]
  refine aw_reg 336 (RG.go fun Q hQ => ?_)
  simp (disch := first | (intros; contradiction) | omega | (simp only [zN]; omega)) only [zS, zW, reduceCtorEq, Nat.reduceAdd, Nat.reduceEqDiff, Nat.reduceLeDiff, ↓reduceIte, e2]
  repeat refine ⟨by (omega), ?_⟩
  refine hQ _ _ _ _ _ (RG.nil ?_)
  try simp only [zX]
  refine aw_reg 496 (RG.go fun Q hQ => ?_)
  simp (disch := first | (intros; contradiction) | omega | (simp only [zN]; omega)) only [zS, reduceCtorEq, Nat.reduceAdd, Nat.reduceEqDiff, ↓reduceIte]
  refine hQ _ _ _ _ _ (RG.nil ?_)
  try simp only [zX]
  refine aw_loopK (X := { i : Nat // i ≤ m }) [3, 10, 11] (fun i => [(12, I i.1)]) [16] (fun i => [(272, .box [.v (.int .i64 1), .v (.int .i64 (vol % 3 : Nat)), .v (.int .i64 b), .v (.int .i64 (size % 3 + 1 : Nat)), .v (.int .i64 p), .osl 5000, .v (.int .i64 total), .v (.int .i64 0), .v (.int .i64 0), .v (.slice none 0 0)]), (5000, .arr 3 1 ((placeN per i.1).map nrow) false)]) (fun i => m - i.1) (⟨0, by omega⟩) ?_ ?_
  · skip
    simp only [keepS, keepE, Option.getD_some, lk_cons, lkE_cons, List.cons_append, List.nil_append, Nat.reduceEqDiff, ↓reduceIte, reduceCtorEq]
    refine (Le.ownB 272 5 5000 _ 3 1 rfl rfl rfl (by decide)).trans ?_
    simp only [List.set_cons_succ, List.set_cons_zero, setE_cons, setE_nil, Nat.reduceEqDiff, ↓reduceIte]
    refine Le.lit [] [] _ _ ?_ ?_ ?_ ?_
    · simp only [zL, Nat.reduceEqDiff, ↓reduceIte, reduceCtorEq]
      all_goals (try (skip))
    · simp only [zL, Nat.reduceEqDiff, ↓reduceIte, reduceCtorEq]
      all_goals (try ((repeat' (first | (exact drows_nrow _) | rfl | refine ⟨?_, ?_⟩))))
    · simp [rlook]
    · first | (simp; done) | (intro k hk; simp [rlook]; omega)
  rintro ⟨i, hi⟩
  simp only [keepS, keepE, Option.getD_some, lk_cons, lkE_cons, List.cons_append, List.nil_append, Nat.reduceEqDiff, ↓reduceIte, reduceCtorEq]
  try simp only [zX]
  have hl := placeN_len per i
  refine aw_reg 544 (RG.go fun Q hQ => ?_)
  simp (disch := first | (intros; contradiction) | omega | (simp only [zN]; omega)) only [zS, Nat.reduceAdd, Nat.reduceEqDiff, ↓reduceIte]
  refine hQ _ _ _ _ _ ?_
  refine RG.call [] (cC) (by (repeat' (first | exact tr_nil | refine tr_cons ?_ ?_ | exact tr_v))) trivial (by (exact .inl trivial)) ?_
  refine RG.go fun Q hQ => ?_
  simp (disch := first | (intros; contradiction) | omega | (simp only [zN]; omega)) only [zS, Nat.reduceAdd, Nat.reduceEqDiff, ↓reduceIte]
  refine hQ _ _ _ _ _ (RG.nil ?_)
  try simp only [zX]
  refine aw_cond _ rfl trivial (fun ht => ?_) (fun hf => ?_)
  · skip
    try simp at ht
    try simp only [zX]
    have e5 : 1 + ((i : Int) + per) % 2 = ((1 + (i + per) % 2 : Nat) : Int) := by omega
    have e6 : (placeN per i).map nrow ++ [[.v (.int .i64 ((1 + (i + per) % 2 : Nat) : Int))]] = (placeN per (i + 1)).map nrow := by rw [placeN_succ, List.map_append]; rfl
    refine aw_reg 688 (RG.go fun Q hQ => ?_)
    simp (disch := first | (intros; contradiction) | omega | (simp only [zN]; omega)) only [zS, zW, Nat.reduceAdd, Nat.reduceEqDiff, Nat.reduceLeDiff, ↓reduceIte, e5, e6, hl]
    repeat refine ⟨by (first | omega | (simp; omega)), ?_⟩
    refine hQ _ _ _ _ _ (RG.nil ?_)
    try simp only [zX]
    refine aw_reg 912 (RG.go fun Q hQ => ?_)
    simp (disch := first | (intros; contradiction) | omega | (simp only [zN]; omega)) only [zS, zW, Nat.reduceAdd, Nat.reduceEqDiff, ↓reduceIte]
    refine hQ _ _ _ _ _ (RG.nil ?_)
    try simp only [zX]
    refine ⟨⟨i + 1, by omega⟩, ?_, by first | omega | (simp only; omega)⟩
    refine Le.lit [] [(5000, 832)] _ _ ?_ ?_ ?_ ?_
    · simp only [zL, Nat.reduceEqDiff, ↓reduceIte, reduceCtorEq]
      all_goals (try ((repeat' (rfl))))
    · simp only [zL, Nat.reduceEqDiff, ↓reduceIte, reduceCtorEq]
      all_goals (try ((repeat' ((exact drows_nrow _)))))
    · simp [rlook]
    · first | (simp; done) | (intro k hk; simp [rlook]; omega)
  try simp at hf
  try simp only [zX, ↓reduceIte]
  obtain rfl : i = m := by omega
  refine aw_reg 992 (RG.go fun Q hQ => ?_)
  simp (disch := first | (intros; contradiction) | omega | (simp only [zN]; omega)) only [zS, Nat.reduceAdd, Nat.reduceEqDiff, ↓reduceIte]
  refine hQ _ _ _ _ _ (RG.nil ?_)
  try simp only [zX]
  refine Fin.data [5000] (.inr rfl) rfl (by (exact ⟨trivial, trivial⟩)) ?_
  simp only [zL, Nat.reduceEqDiff, ↓reduceIte]
  all_goals ((repeat' (first | exact trivial | rfl | (refine ⟨⟨_, _, rfl⟩, ?_⟩; (exact drows_nrow _)) | refine ⟨?_, ?_⟩)))

end Go.Abs

namespace Go.Abs
open Go Go.Proofs
set_option maxRecDepth 100000
set_option linter.unusedSimpArgs false
set_option maxHeartbeats 4000000

theorem rightV_iff {v : VOL} : rightV v = true ↔ shapeV v = true ∧ (0 ≤ v.next ∧ v.next ≤ v.total) ∧ (v.hid = true ∨ v.next = v.total) ∧ (v.hid = false ∨ v.total ≠ 0) ∧ 0 ≤ v.floor ∧ v.floor ≤ lenV v ∧ pinsR (lenV v) v.floor v.pins = true ∧ wsR v.blocks v.size 0 v.ws = true := by
  unfold rightV
  simp [inR, and_assoc]

theorem pinsR_iff {n : Int} : ∀ {l : List Int} {last : Int}, pinsR n last l = true ↔ (∀ p ∈ l, last ≤ p ∧ p ≤ n) ∧ l.Pairwise (· ≤ ·)
  | [], last => by simp [pinsR]
  | p :: l, last => by
    simp only [pinsR, Bool.and_eq_true, decide_eq_true_eq, pinsR_iff (l := l), List.mem_cons, List.pairwise_cons]
    constructor
    · rintro ⟨⟨h1, h2⟩, h3, h4⟩
      refine ⟨?_, fun q hq => (h3 q hq).1, h4⟩
      rintro q (rfl | hq)
      · exact ⟨h1, h2⟩
      · exact ⟨by have := (h3 q hq).1; omega, (h3 q hq).2⟩
    · rintro ⟨h1, h2, h3⟩
      exact ⟨h1 p (.inl rfl), fun q hq => ⟨h2 q hq, (h1 q (.inr hq)).2⟩, h3⟩

theorem wsR_app {b s : Int} {w : WR} : ∀ {l : List WR} {i : Nat}, wsR b s i (l ++ [w]) = (wsR b s i l && (decide (w.s = (i : Int) + l.length + 1) && itemsR b s w.its))
  | [], i => by simp [wsR]
  | x :: l, i => by
    simp only [List.cons_append, wsR, wsR_app (l := l), List.length_cons, Bool.and_assoc]
    congr 3
    rw [show ((i + 1 : Nat) : Int) + l.length + 1 = (i : Int) + ((l.length + 1 : Nat) : Int) + 1 by omega]

structure Vgood (v : VOL) (n : Nat) : Prop where
  right : rightV v = true
  by8 : byW v.ws
  ws : v.ws.length ≤ n
  pins : v.pins.length ≤ n
  hidp : v.hid = true → v.pins = []

theorem Vgood.mono {v : VOL} {n m : Nat} (h : Vgood v n) (hm : n ≤ m) : Vgood v m := ⟨h.right, h.by8, by have := h.ws; omega, by have := h.pins; omega, h.hidp⟩

theorem shape_lims {v : VOL} (h : shapeV v = true) : (0 ≤ v.id ∧ v.id ≤ 7) ∧ (1 ≤ v.blocks ∧ v.blocks ≤ 256) ∧ (1 ≤ v.size ∧ v.size ≤ 32) ∧ (1 ≤ v.per ∧ v.per ≤ v.blocks) ∧ (v.place.length : Int) = chunksN v.blocks v.per ∧ (0 ≤ v.total ∧ v.total ≤ 1099511627776) ∧ v.place.length ≤ 512 := by
  have h' := h
  simp only [shapeV, shapeP, Bool.and_eq_true, inR_iff, decide_eq_true_eq] at h'
  obtain ⟨⟨⟨⟨⟨⟨h1, h2⟩, h3⟩, h4⟩, h5⟩, h6⟩, _⟩ := h'
  have := (chunks_nn (b := v.blocks) (p := v.per) (by omega) (by omega)).2
  exact ⟨h1, h2, h3, h4, h5, h6, by omega⟩

theorem Vgood.ok {v : VOL} {n : Nat} (h : Vgood v n) (hn : n ≤ 50000) : Vok v := by
  obtain ⟨h1, h2, h3, h4, h5⟩ := h
  obtain ⟨r1, r2, r3, r4, r5, r6, r7, r8⟩ := rightV_iff.1 h1
  obtain ⟨s1, s2, s3, s4, s5, s6, s7⟩ := shape_lims r1
  refine ⟨by omega, by omega, by omega, fun w hw => ?_⟩
  have hi := wsR_mem r8 w hw
  exact ⟨by have := (itemsR_len hi).2; omega, fun x hx => by have := (itemsR_mem hi x hx).2.2; omega⟩

theorem Vgood.next {v : VOL} {n : Nat} (h : Vgood v n) : 0 ≤ v.next ∧ v.next ≤ 1099511627776 := by
  obtain ⟨r1, r2, r3, r4, r5, r6, r7, r8⟩ := rightV_iff.1 h.right
  obtain ⟨s1, s2, s3, s4, s5, s6, s7⟩ := shape_lims r1
  omega

theorem Vgood.do {v : VOL} {n : Nat} (h : Vgood v n) (hn : n ≤ 50000) {c : CMD} (hl : c.items.length ≤ 1000000) (hd : ∀ x ∈ c.items, x.d.length ≤ 1000000) : DoOk v c := by
  have h0 := h
  obtain ⟨h1, h2, h3, h4, h5⟩ := h
  obtain ⟨r1, r2, r3, r4, r5, r6, r7, r8⟩ := rightV_iff.1 h1
  exact ⟨h0.ok hn, by omega, (pinsR_iff.1 r7).2, h0.next, hl, hd⟩

theorem Vgood.new {c : CMD} (h : shapeV (newV c) = true) : Vgood (newV c) 0 := by
  have s6 : 0 ≤ c.total := (shape_lims h).2.2.2.2.2.1.1
  refine ⟨rightV_iff.2 ⟨h, ⟨Int.le_refl _, s6⟩, ?_, ?_, Int.le_refl _, ?_, rfl, rfl⟩, fun w hw => (by cases hw), Nat.le_refl _, Nat.le_refl _, fun _ => rfl⟩
  · show decide (0 < c.total) = true ∨ 0 = c.total
    simp; omega
  · show decide (0 < c.total) = false ∨ c.total ≠ 0
    simp; omega
  · simp [newV, lenV]

theorem insP_mem {t x : Int} {l : List Int} (hs : l.Pairwise (· ≤ ·)) : x ∈ insP t l ↔ x ∈ l ∨ x = t := by
  rw [← insP_eq hs]
  have := (isort_perm (l ++ [t])).mem_iff (a := x)
  rw [this]; simp
theorem insP_sorted {t : Int} {l : List Int} (hs : l.Pairwise (· ≤ ·)) : (insP t l).Pairwise (· ≤ ·) := by
  rw [← insP_eq hs]; exact isort_sorted _
theorem insP_len {t : Int} {l : List Int} (hs : l.Pairwise (· ≤ ·)) : (insP t l).length = l.length + 1 := by
  rw [← insP_eq hs, isort_len]; simp
theorem delP_sub {t : Int} : ∀ l : List Int, (delP t l).Sublist l
  | [] => .slnil
  | x :: l => by
    unfold delP
    split
    · exact List.sublist_cons_self _ _
    · exact (delP_sub l).cons_cons _
theorem lowL_le : ∀ (l : List Int) (n : Int), lowL n l ≤ n ∧ ∀ p ∈ l, lowL n l ≤ p
  | [], n => ⟨Int.le_refl _, fun p hp => (by cases hp)⟩
  | x :: l, n => by
    have := lowL_le l (min n x)
    have e : lowL n (x :: l) = lowL (min n x) l := rfl
    rw [e]
    refine ⟨by omega, fun p hp => ?_⟩
    rcases List.mem_cons.1 hp with rfl | hp
    · omega
    · exact this.2 p hp

theorem Vgood.add {v : VOL} {n : Nat} (h : Vgood v n) {l : List IT} (hr : itemsR v.blocks v.size l = true) (hb : byI l) : Vgood (addW v l) (n + 1) := by
  obtain ⟨h1, h2, h3, h4, h5⟩ := h
  obtain ⟨r1, r2, r3, r4, r5, r6, r7, r8⟩ := rightV_iff.1 h1
  have hlen : lenV (addW v l) = lenV v + 1 := by simp [lenV, addW]
  refine ⟨rightV_iff.2 ⟨r1, r2, r3, r4, r5, by rw [hlen]; show v.floor ≤ _; omega, ?_, ?_⟩, fun w hw => ?_, by simp [addW]; omega, by show v.pins.length ≤ _; omega, h5⟩
  · rw [hlen]; show pinsR _ v.floor v.pins = true
    obtain ⟨p1, p2⟩ := pinsR_iff.1 r7
    exact pinsR_iff.2 ⟨fun p hp => by have := p1 p hp; omega, p2⟩
  · show wsR v.blocks v.size 0 (v.ws ++ [⟨v.ws.length + 1, l⟩]) = true
    rw [wsR_app, r8]; simp [hr]
  · simp only [addW, List.mem_append, List.mem_singleton] at hw
    rcases hw with hw | rfl
    · exact h2 w hw
    · exact hb

theorem Vgood.doV {v : VOL} {n : Nat} (h : Vgood v n) {c : CMD} (hb : byI c.items) : Vgood (doV v c).v (n + 1) := by
  have hm := h.mono (Nat.le_succ n)
  have hf : ∀ e, Vgood (fail v e).v (n + 1) := fun e => hm
  obtain ⟨h1, h2, h3, h4, h5⟩ := h
  obtain ⟨r1, r2, r3, r4, r5, r6, r7, r8⟩ := rightV_iff.1 h1
  obtain ⟨p1, p2⟩ := pinsR_iff.1 r7
  have himp : Vgood (doImp v c).v (n + 1) := by
    unfold doImp
    split
    · rename_i hi
      unfold impS at hi
      split at hi
      · cases hi
      split at hi
      · split at hi <;> cases hi
      split at hi
      · cases hi
      split at hi
      · cases hi
      rename_i g1 g2 g3 g4
      split at hi
      · rename_i g5
        have ha := Vgood.add ⟨h1, h2, h3, h4, h5⟩ g5 hb
        obtain ⟨a1, a2, a3, a4, a5⟩ := ha
        obtain ⟨q1, q2, q3, q4, q5, q6, q7, q8⟩ := rightV_iff.1 a1
        have g1' : v.hid = true := by simpa using g1
        exact ⟨rightV_iff.2 ⟨q1, ⟨by show 0 ≤ v.next + 1; omega, by show v.next + 1 ≤ v.total; omega⟩, .inl g1', q4, q5, q6, q7, q8⟩, a2, a3, a4, a5⟩
      · cases hi
    · rename_i w e hi
      split
      · rename_i he
        subst he
        unfold impS at hi
        split at hi
        · cases hi
        split at hi
        · split at hi
          · cases hi
            rename_i g1 g2 g3
            have g1' : v.hid = true := by simpa using g1
            have hp := h5 g1'
            refine ⟨rightV_iff.2 ⟨r1, r2, .inr g3, .inl rfl, ?_, Int.le_refl _, ?_, r8⟩, h2, by show v.ws.length ≤ _; omega, by show v.pins.length ≤ _; omega, fun h => by cases h⟩
            · show (0 : Int) ≤ (v.ws.length : Int); omega
            · show pinsR _ _ v.pins = true; rw [hp]; rfl
          · cases hi
        split at hi
        · cases hi; exact hm
        split at hi
        · cases hi
        split at hi <;> cases hi
      · exact hm
  unfold Go.Abs.doV
  split
  · unfold doPut
    split
    · exact hm
    split
    · rename_i g; exact Vgood.add ⟨h1, h2, h3, h4, h5⟩ g hb
    · exact hm
  split
  · unfold doPrune
    split
    · exact hm
    split
    · exact hm
    split
    · exact hm
    · rename_i g1 g2 g3
      have hl := lowL_le v.pins v.ws.length
      refine ⟨rightV_iff.2 ⟨r1, r2, r3, r4, by show 0 ≤ c.at'; omega, ?_, ?_, r8⟩, h2, by show v.ws.length ≤ _; omega, by show v.pins.length ≤ _; omega, h5⟩
      · show c.at' ≤ lenV v
        have := lowV_le v; omega
      · show pinsR (lenV v) c.at' v.pins = true
        refine pinsR_iff.2 ⟨fun p hp => ⟨?_, (p1 p hp).2⟩, p2⟩
        have : lowV v ≤ p := hl.2 p hp
        omega
  split
  · unfold doPin
    split
    · exact hm
    split
    · exact hm
    split
    · exact hm
    · rename_i g1 g2 g3
      have g1' : v.hid = false := by simpa using g1
      refine ⟨rightV_iff.2 ⟨r1, r2, r3, r4, r5, r6, ?_, r8⟩, h2, by show v.ws.length ≤ _; omega, ?_, fun h => by rw [show v.hid = true from h] at g1'; cases g1'⟩
      · show pinsR (lenV v) v.floor (insP c.at' v.pins) = true
        refine pinsR_iff.2 ⟨fun p hp => ?_, insP_sorted p2⟩
        rcases (insP_mem p2).1 hp with hp | rfl
        · exact p1 p hp
        · omega
      · show (insP c.at' v.pins).length ≤ _
        rw [insP_len p2]; omega
  split
  · unfold doUnpin
    split
    · exact hm
    split
    · rename_i g1 g2
      have g1' : v.hid = false := by simpa using g1
      refine ⟨rightV_iff.2 ⟨r1, r2, r3, r4, r5, r6, ?_, r8⟩, h2, by show v.ws.length ≤ _; omega, ?_, fun h => by rw [show v.hid = true from h] at g1'; cases g1'⟩
      · show pinsR (lenV v) v.floor (delP c.at' v.pins) = true
        exact pinsR_iff.2 ⟨fun p hp => p1 p ((delP_sub _).subset hp), p2.sublist (delP_sub _)⟩
      · show (delP c.at' v.pins).length ≤ _
        have := (delP_sub (t := c.at') v.pins).length_le; omega
    · exact hm
  split
  · exact himp
  split
  · exact hm
  · exact hm

theorem createC_shape (vol blocks size per total : Nat) (h : total < 1000) : shapeV (newV (createC vol blocks size per total)) = true := by
  obtain ⟨b, hb⟩ : ∃ b, b = blocks % 9 + 1 := ⟨_, rfl⟩
  obtain ⟨p, hp⟩ : ∃ p, p = per % b + 1 := ⟨_, rfl⟩
  have hpb : p ≤ b := by have := Nat.mod_lt per (show 0 < b by omega); omega
  obtain ⟨c1, c2⟩ := chunks_nn (b := b) (p := p) (by omega) (by omega)
  have e : createC vol blocks size per total = ⟨1, (vol % 3 : Nat), b, (size % 3 + 1 : Nat), p, placeN per (chunksN b p).toNat, total, 0, 0, []⟩ := by unfold createC; rw [← hb, ← hp]
  rw [e]
  obtain ⟨m, hm⟩ : ∃ m, m = (chunksN b p).toNat := ⟨_, rfl⟩
  rw [← hm]
  show (inR ((vol % 3 : Nat) : Int) 0 7 && inR b 1 256 && inR ((size % 3 + 1 : Nat) : Int) 1 32 && inR p 1 b && decide (((placeN per m).length : Int) = chunksN b p) && inR total 0 1099511627776 && (placeN per m).all fun n => inR n 1 7) = true
  rw [placeN_len]
  simp only [Bool.and_eq_true, inR_iff, decide_eq_true_eq]
  refine ⟨⟨⟨⟨⟨⟨by omega, by omega⟩, by omega⟩, by omega⟩, by omega⟩, by omega⟩, List.all_eq_true.2 fun x hx => ?_⟩
  obtain ⟨i, _, rfl⟩ := List.mem_map.1 hx
  rw [inR_iff]; omega

theorem new_of {c : CMD} (h : shapeV (newV c) = true) : newR c = (newV c, 0) := by unfold newR; rw [if_pos h]

end Go.Abs

namespace Go.Abs
open Go Go.Proofs
set_option maxRecDepth 100000
set_option linter.unusedSimpArgs false
set_option maxHeartbeats 4000000

theorem repC_pure (a b c d : Int) : (SV.agg (repC a b c d [])).pureD := by
  intro x hx
  simp only [repC, List.mem_cons, List.not_mem_nil, or_false] at hx
  rcases hx with rfl | rfl | rfl | rfl | rfl <;> rfl
theorem cmdC_pure (c : CMD) : (SV.agg (cmdC c)).pureD := by
  intro x hx
  simp only [cmdC, cC, List.mem_cons, List.not_mem_nil, or_false] at hx
  rcases hx with rfl | rfl | rfl | rfl | rfl | rfl | rfl | rfl | rfl | rfl <;> rfl
theorem doR_pure (d : DO) : (doR d).pureD := by
  intro s hs
  simp only [List.mem_cons, List.not_mem_nil, or_false] at hs
  rcases hs with rfl | rfl
  · exact volC_pure _
  · exact repC_pure _ _ _ _

theorem its_one (b s c : Nat) : itsN b s [c] = [⟨(c % max b 1 : Nat), dataN s c⟩] := by
  simp [itsN, itsF, itsStep, hasB]
theorem one_right (b s c : Nat) (hb : 1 ≤ b) : itemsR b s (itsN b s [c]) = true := by
  rw [its_one]
  have := Nat.mod_lt c (show 0 < max b 1 by omega)
  simp [itemsR, itOk, onceB, dataN_len]
  omega
theorem ItemsD_con (blocks size : Nat) (l : List Nat) (hb : blocks ≤ 1000000) (hs : size ≤ 200) (hl : l.length ≤ 1000000) (h8 : ∀ c ∈ l, c < 256) :
    Con Try.prog 38 [I blocks, I size, .c (.sl (l.map brow))] [] (.c (.sl ((itsN blocks size l).map irow))) [] :=
  (Items_con blocks size l hb hs hl h8).rows (drows_irow _)

structure ImpI (b s k : Nat) (v : VOL) : Prop where
  good : Vgood v 4
  hid : v.hid = true
  next : v.next = v.ws.length
  total : v.total = k
  bl : v.blocks = b
  sz : v.size = s
  le : v.ws.length ≤ k
  fl : v.floor = 0

theorem ImpI.put {b s k : Nat} {v : VOL} (h : ImpI b s k v) (c : CMD) (hk : c.kind = 2) : doV v c = fail v 28 := by
  unfold doV; rw [if_pos hk]; unfold doPut; rw [if_pos h.hid]

theorem ImpI.imp {b s k : Nat} {v : VOL} (h : ImpI b s k v) (c : CMD) (hk : c.kind = 6 ∨ c.kind = 7) : doV v c = doImp v c := by
  unfold doV; rw [if_neg (by omega), if_neg (by omega), if_neg (by omega), if_neg (by omega), if_pos hk]

theorem ImpI.add {b s k : Nat} {v : VOL} (h : ImpI b s k v) (hk : k ≤ 4) {l : List IT} (hr : itemsR v.blocks v.size l = true) (hb : byI l) (hlt : v.ws.length < k) : ImpI b s k (addN v l) := by
  obtain ⟨g, h1, h2, h3, h4, h5, h6, h7⟩ := h
  have hd : doV v ⟨6, 0, 0, 0, 0, [], 0, 0, v.next, l⟩ = done (addN v l) := by
    unfold doV; rw [if_neg (by simp), if_neg (by simp), if_neg (by simp), if_neg (by simp), if_pos (.inl rfl)]
    refine doImp_none ?_
    unfold impS
    rw [if_neg (by simp [h1]), if_neg (by simp), if_neg (by simp only; omega), if_neg (by simp only; omega), if_pos hr]
  have hg := g.doV (c := ⟨6, 0, 0, 0, 0, [], 0, 0, v.next, l⟩) hb
  rw [hd] at hg
  have hlen : (addN v l).ws.length = v.ws.length + 1 := by simp [addN, addW]
  refine ⟨⟨hg.right, hg.by8, by rw [hlen]; omega, ?_, hg.hidp⟩, h1, ?_, h3, h4, h5, by rw [hlen]; omega, h7⟩
  · show v.pins.length ≤ 4
    rw [g.hidp h1]; decide
  · rw [hlen]; show v.next + 1 = _; omega

theorem byI_its (b s : Nat) (l : List Nat) : byI (itsN b s l) := by
  have : ∀ (l : List Nat) (acc : List IT), byI acc → byI (itsF b s l acc) := by
    intro l
    induction l with
    | nil => intro acc h; exact h
    | cons c l ih =>
      intro acc h
      unfold itsF
      split
      · refine ih _ ?_
        unfold itsStep
        split
        · exact h
        · intro x hx
          rcases List.mem_append.1 hx with hx | hx
          · exact h x hx
          · simp only [List.mem_singleton] at hx; subst hx; exact dataN_by _ _
      · exact h
  exact this l [] (fun x hx => by cases hx)

theorem VolumeImports_con (s0 s1 s2 total : Nat) (order : List Nat) (h0 : s0 < 256) (h1 : s1 < 256) (h2 : s2 < 256) (h3 : total < 256) (ho : ∀ c ∈ order, c < 256) :
    Con Try.prog 8 [.agg [.v (.int .u8 s0), .v (.int .u8 s1), .v (.int .u8 s2)], .c (.v (.int .u8 total)), .c (.sl (order.map brow))] [] (B true) [] := by
  obtain ⟨k, hk⟩ : ∃ k, k = total % 4 + 1 := ⟨_, rfl⟩
  obtain ⟨b, hb⟩ : ∃ b, b = s0 % 9 + 1 := ⟨_, rfl⟩
  obtain ⟨s, hs⟩ : ∃ s, s = s1 % 3 + 1 := ⟨_, rfl⟩
  have e1 : (total : Int) % 4 = ((total % 4 : Nat) : Int) := by omega
  have e2 : ((total % 4 : Nat) : Int) + 1 = (k : Int) := by omega
  have cC := Create_con 0 s0 s1 s2 k (by omega) h0 h1 h2 (by omega)
  have hsh := createC_shape 0 s0 s1 s2 k (by omega)
  have hpl := (shape_lims hsh).2.2.2.2.2.2
  have cN := mementoref16_New_con (createC 0 s0 s1 s2 k) (by have : (createC 0 s0 s1 s2 k).place.length ≤ 512 := hpl; omega)
  rw [new_of hsh] at cN
  have g0 := Vgood.new hsh
  have hI : ImpI b s k (newV (createC 0 s0 s1 s2 k)) := ⟨g0.mono (by omega), by simp [newV, createC]; omega, rfl, rfl, by simp [newV, createC]; omega, by simp [newV, createC]; omega, Nat.zero_le _, rfl⟩
  obtain ⟨V, hV⟩ : ∃ V, V = newV (createC 0 s0 s1 s2 k) := ⟨_, rfl⟩
  rw [← hV] at cN hI
  refine C_mementolaw16_VolumeImports (Nat.le_of_ble_eq_true rfl) (Nat.le_of_ble_eq_true rfl) ?_
  simp only [A_mementolaw16_VolumeImports, argL, objL, List.length_nil, Nat.reduceAdd, Nat.zero_add, zX]
  refine aw_reg 16 (RG.go fun Q hQ => ?_)
  simp (disch := first | (intros; contradiction) | omega | (simp only [zN]; omega)) only [zS, reduceCtorEq, Nat.reduceAdd, Nat.reduceEqDiff, ↓reduceIte]
  refine hQ _ _ _ _ _ (RG.nil ?_)
  try simp only [zX]
  refine aw_reg 80 (RG.go fun Q hQ => ?_)
  simp (disch := first | (intros; contradiction) | omega | (simp only [zN]; omega)) only [zS, ↓reduceIte]
  refine hQ _ _ _ _ _ ?_
  refine RG.call [] (mementolaw16_known_con) (by (repeat' (exact tr_nil))) trivial (by (exact .inl trivial)) ?_
  refine RG.go fun Q hQ => ?_
  simp (disch := first | (intros; contradiction) | omega | (simp only [zN]; omega)) only [zS, reduceCtorEq, Nat.reduceAdd, Nat.reduceEqDiff, ↓reduceIte]
  refine hQ _ _ _ _ _ (RG.nil ?_)
  try simp only [zX]
  refine aw_cond _ rfl trivial (fun ht => by cases ht) (fun hf => ?_)
  try simp only [zX]
  refine aw_reg 144 (RG.go fun Q hQ => ?_)
  simp (disch := first | (intros; contradiction) | omega | (simp only [zN]; omega)) only [zS, zW, reduceCtorEq, Nat.reduceAdd, Nat.reduceEqDiff, ↓reduceIte]
  refine hQ _ _ _ _ _ (RG.nil ?_)
  try simp only [zX]
  refine aw_cond _ rfl trivial (fun ht => ?_) (fun hf => ?_)
  · skip
    try simp at ht
    try simp only [zX]
    refine aw_reg 224 (RG.go fun Q hQ => ?_)
    simp (disch := first | (intros; contradiction) | omega | (simp only [zN]; omega)) only [zS, reduceCtorEq, Nat.reduceAdd, Nat.reduceEqDiff, ↓reduceIte]
    refine hQ _ _ _ _ _ (RG.nil ?_)
    try simp only [zX]
    refine Fin.b (.inr rfl) rfl trivial ?_
    rfl
  try simp at hf
  try simp only [zX]
  have hw0 : V.ws.length = 0 := by rw [hV]; rfl
  refine aw_reg 272 (RG.go fun Q hQ => ?_)
  simp (disch := first | (intros; contradiction) | omega | (simp only [zN]; omega)) only [zS, zW, reduceCtorEq, Nat.reduceAdd, Nat.reduceEqDiff, ↓reduceIte, e1, e2]
  repeat refine ⟨by (omega), ?_⟩
  refine hQ _ _ _ _ _ (RG.nil ?_)
  try simp only [zX]
  refine aw_reg 384 (RG.go fun Q hQ => ?_)
  simp (disch := first | (intros; contradiction) | omega | (simp only [zN]; omega)) only [zS, reduceCtorEq, Nat.reduceAdd, Nat.reduceEqDiff, ↓reduceIte]
  refine hQ _ _ _ _ _ ?_
  refine RG.call [] (cC) (by (repeat' (first | exact tr_nil | refine tr_cons ?_ ?_ | exact tr_v))) trivial (by exact .inr ⟨cmdC_pure _, trivial⟩) ?_
  refine RG.go fun Q hQ => ?_
  simp (disch := first | (intros; contradiction) | omega | (simp only [zN]; omega)) only [zS, reduceCtorEq, Nat.reduceAdd, Nat.reduceEqDiff, ↓reduceIte]
  refine hQ _ _ _ _ _ ?_
  refine RG.call [] (cN) (by (repeat' (first | exact tr_nil | refine tr_cons ?_ ?_ | exact tr_agg (by repeat' (first | exact trivial | rfl | refine ⟨?_, ?_⟩))))) trivial (by exact .inr ⟨pureTA (fun c hc => volC_pure _ c hc), trivial⟩) ?_
  refine RG.go fun Q hQ => ?_
  simp (disch := first | (intros; contradiction) | omega | (simp only [zN]; omega)) only [zS, reduceCtorEq, Nat.reduceAdd, Nat.reduceEqDiff, ↓reduceIte, vC_eq]
  refine hQ _ _ _ _ _ (RG.nil ?_)
  try simp only [zX]
  refine aw_reg 656 (RG.go fun Q hQ => ?_)
  simp (disch := first | (intros; contradiction) | omega | (simp only [zN]; omega)) only [zS, reduceCtorEq, Nat.reduceAdd, Nat.reduceEqDiff, ↓reduceIte]
  refine hQ _ _ _ _ _ (RG.nil ?_)
  try simp only [zX]
  refine aw_reg 704 (RG.go fun Q hQ => ?_)
  simp (disch := first | (intros; contradiction) | omega | (simp only [zN]; omega)) only [zS, reduceCtorEq, Nat.reduceAdd, Nat.reduceEqDiff, ↓reduceIte]
  refine hQ _ _ _ _ _ (RG.nil ?_)
  try simp only [zX]
  refine aw_loopK (X := { x : Nat × VOL // x.1 ≤ order.length ∧ ImpI b s k x.2 }) [2, 7, 8] (fun x => [(10, I x.1.2.ws.length), (11, I x.1.1)]) [] (fun x => [(576, .box (volC x.1.2))]) (fun x => order.length - x.1.1) (⟨(0, V), by simp only; omega, hI⟩) ?_ ?_
  · skip
    simp only [keepS, keepE, lk_cons, List.cons_append, List.nil_append, Nat.reduceEqDiff, ↓reduceIte, reduceCtorEq]
    refine Le.lit [] [] _ _ ?_ ?_ ?_ ?_
    · simp only [zL, Nat.reduceEqDiff, ↓reduceIte, reduceCtorEq]
      all_goals (try ((repeat' ((congr 1; omega)))))
    · simp only [zL, Nat.reduceEqDiff, ↓reduceIte]
      all_goals (trivial; skip)
    · simp [rlook]
    · first | (simp; done) | (intro k hk; simp [rlook]; omega)
  rintro ⟨⟨i, v⟩, hi, hv⟩
  simp only [keepS, keepE, lk_cons, List.cons_append, List.nil_append, Nat.reduceEqDiff, ↓reduceIte, reduceCtorEq]
  try simp only [zX]
  simp only at hi hv
  refine aw_reg 752 (RG.go fun Q hQ => ?_)
  simp (disch := first | (intros; contradiction) | omega | (simp only [zN]; omega)) only [zS, zW, Nat.reduceAdd, Nat.reduceEqDiff, ↓reduceIte, vC_eq]
  refine hQ _ _ _ _ _ (RG.nil ?_)
  try simp only [zX]
  refine aw_cond _ rfl trivial (fun ht => ?_) (fun hf => ?_)
  · skip
    try simp at ht
    try simp only [zX]
    have hio : i < order.length := by omega
    have hc := ho _ (List.getElem_mem hio)
    have e3 : (order[i] : Int) % 6 = ((order[i] % 6 : Nat) : Int) := by omega
    obtain ⟨its, hits⟩ : ∃ its, its = itsN b s [order[i]] := ⟨_, rfl⟩
    have cIt : Con Try.prog 38 [I v.blocks, I v.size, .c (.sl [[.v (.int .u8 order[i])]])] [] (.c (.sl (its.map irow))) [] := by
      rw [hv.bl, hv.sz, hits]
      exact ItemsD_con b s [order[i]] (by omega) (by omega) (by simp) (by simpa using hc)
    refine aw_reg 848 (RG.go fun Q hQ => ?_)
    simp (disch := first | (intros; contradiction) | omega | (simp only [zN]; omega)) only [zS, zW, Nat.reduceAdd, Nat.reduceEqDiff, Nat.reduceLT, ↓reduceIte, brow, e3]
    repeat refine ⟨by (omega), ?_⟩
    refine hQ _ _ _ _ _ (RG.nil ?_)
    try simp only [zX]
    refine aw_draw 992 (RG.go fun Q hQ => ?_)
    simp (disch := first | (intros; contradiction) | omega | (simp only [zN]; omega)) only [zS, zW, Nat.reduceAdd, Nat.reduceEqDiff, Nat.reduceLT, ↓reduceIte, brow]
    repeat refine ⟨by (omega), ?_⟩
    refine hQ _ _ _ _ _ ?_
    refine RG.callo [] [1120] (cIt) (.mk (tr_cons tr_v (tr_cons tr_v (tr_cons (tr_view (by simp) rfl (by simp [isDRows, C.isD])) tr_nil))) (by first | trivial | (simp only [zT, Nat.reduceEqDiff, Nat.reduceAdd, ↓reduceIte, reduceCtorEq]; done) | (simp only [zT, Nat.reduceEqDiff, Nat.reduceAdd, ↓reduceIte, reduceCtorEq]; trivial) | (simp only [zT, Nat.reduceEqDiff, Nat.reduceAdd, ↓reduceIte, reduceCtorEq]; repeat' (fail))) (by simp) (by simp) (views1 rfl trivial) (by first | (simp [lkE_cons, lkE_nil]; done) | (intro j hj; simp at hj; simp only [setEs, setE_cons, setE_nil, lkE_cons, lkE_nil]; repeat rw [if_neg (by omega)])) (by first | (simp [Ent.pure]; done) | (simp [Ent.pure]; repeat' (fail))) (by simp) (by simp)) ?_
    refine RG.go fun Q hQ => ?_
    simp (disch := first | (intros; contradiction) | omega | (simp only [zN]; omega)) only [zS, Nat.reduceAdd, Nat.reduceEqDiff, ↓reduceIte]
    have hcl : its.length ≤ 1000000 := by rw [hits, its_one]; simp
    have hcd : ∀ x ∈ its, x.d.length ≤ 1000000 := by rw [hits, its_one]; intro x hx; simp at hx; subst hx; simp [dataN_len]; omega
    have hb8 : byI its := by rw [hits]; exact byI_its _ _ _
    have hir : itemsR v.blocks v.size its = true := by rw [hv.bl, hv.sz, hits]; exact one_right b s _ (by omega)
    have hk4 : k ≤ 4 := by omega
    have hput : ∀ w, ImpI b s k w → Con Try.prog 18 [.agg (volC w), .agg (cmdC ⟨2, 0, 0, 0, 0, [], 0, 0, 0, its⟩)] [] (doR (fail w 28)) [] := by
      intro w hw
      have h := volume_Do_con w ⟨2, 0, 0, 0, 0, [], 0, 0, 0, its⟩ (hw.good.do (by omega) hcl hcd)
      rwa [hw.put _ rfl] at h
    have cPv := hput v hv
    have hwl := hv.le
    have hnx := hv.next
    have htt := hv.total
    refine hQ _ _ _ _ _ (RG.nil ⟨by decide +kernel, ?_⟩)
    try simp only [zX]
    refine aw_reg 1200 (RG.go fun Q hQ => ?_)
    simp (disch := first | (intros; contradiction) | omega | (simp only [zN]; omega)) only [zS, Nat.reduceAdd, Nat.reduceEqDiff, Nat.reduceLeDiff, ↓reduceIte]
    refine hQ _ _ _ _ _ (RG.nil ?_)
    try simp only [zX]
    refine aw_reg 1312 (RG.go fun Q hQ => ?_)
    simp (disch := first | (intros; contradiction) | omega | (simp only [zN]; omega)) only [zS, zW, Nat.reduceAdd, Nat.reduceEqDiff, Nat.reduceLT, ↓reduceIte, brow]
    repeat refine ⟨by (omega), ?_⟩
    refine hQ _ _ _ _ _ (RG.nil ?_)
    try simp only [zX]
    refine aw_cond _ rfl trivial (fun ht => ?_) (fun hf => ?_)
    · skip
      try simp at ht
      try simp only [zX, Nat.reduceEqDiff, ↓reduceIte, reduceCtorEq]
      have cD := volume_Do_con v ⟨7, 0, 0, 0, 0, [], 0, 0, 0, []⟩ (hv.good.do (by omega) (by simp) (by simp))
      rw [hv.imp _ (.inr rfl)] at cD
      by_cases hp : v.ws.length = k
      · skip
        have hd : doImp v ⟨7, 0, 0, 0, 0, [], 0, 0, 0, []⟩ = done (pubV v) := by
          rw [doImp_some (w := pubV v) (e := 0) (by unfold impS; rw [if_neg (by simp [hv.hid]), if_pos rfl, if_pos (by omega)])]; rfl
        have hgp := hv.good.doV (c := ⟨7, 0, 0, 0, 0, [], 0, 0, 0, []⟩) (by intro x hx; cases hx)
        rw [hv.imp _ (.inr rfl), hd] at hgp
        obtain ⟨w, hw⟩ : ∃ w, w = pubV v := ⟨_, rfl⟩
        have f1 : w.hid = false := by rw [hw]; rfl
        have f2 : w.floor = k := by rw [hw]; show (v.ws.length : Int) = k; omega
        have f3 : lenV w = k := by rw [hw]; show (v.ws.length : Int) = k; omega
        have hgw : Vgood w 5 := by rw [hw]; exact hgp
        have f4 := hgw.right
        rw [hd, ← hw] at cD
        refine aw_reg 1424 (RG.go fun Q hQ => ?_)
        simp (disch := first | (intros; contradiction) | omega | (simp only [zN]; omega)) only [zS, Nat.reduceAdd, Nat.reduceEqDiff, Nat.reduceLeDiff, ↓reduceIte]
        refine hQ _ _ _ _ _ (RG.nil ?_)
        try simp only [zX]
        refine aw_reg 1488 (RG.go fun Q hQ => ?_)
        simp (disch := first | (intros; contradiction) | omega | (simp only [zN]; omega)) only [zS, Nat.reduceAdd, Nat.reduceEqDiff, ↓reduceIte]
        refine hQ _ _ _ _ _ ?_
        refine RG.call [] (cD) (by (repeat' (first | exact tr_nil | refine tr_cons ?_ ?_ | exact tr_agg (by repeat' (first | exact trivial | rfl | refine ⟨?_, ?_⟩))))) trivial (by exact .inr ⟨doR_pure _, trivial⟩) ?_
        refine RG.go fun Q hQ => ?_
        simp (disch := first | (intros; contradiction) | omega | (simp only [zN]; omega)) only [zS, Nat.reduceAdd, Nat.reduceEqDiff, ↓reduceIte, vC_eq, done, repC]
        refine hQ _ _ _ _ _ (RG.nil ?_)
        try simp only [zX]
        refine aw_reg 1680 (RG.go fun Q hQ => ?_)
        simp (disch := first | (intros; contradiction) | omega | (simp only [zN]; omega)) only [zS, Nat.reduceAdd, Nat.reduceEqDiff, ↓reduceIte]
        refine hQ _ _ _ _ _ (RG.nil ?_)
        try simp only [zX]
        refine aw_cond _ rfl trivial (fun ht => ?_) (fun hf => by cases hf)
        try simp only [zX]
        refine aw_reg 1776 (RG.go fun Q hQ => ?_)
        simp (disch := first | (intros; contradiction) | omega | (simp only [zN]; omega)) only [zS, Nat.reduceAdd, Nat.reduceEqDiff, ↓reduceIte]
        refine hQ _ _ _ _ _ (RG.nil ?_)
        try simp only [zX]
        refine aw_cond _ rfl trivial (fun ht => by simp [hp] at ht) (fun hf => ?_)
        try simp only [zX]
        refine aw_reg 1920 (RG.go fun Q hQ => ?_)
        simp (disch := first | (intros; contradiction) | omega | (simp only [zN]; omega)) only [zS, Nat.reduceAdd, Nat.reduceEqDiff, ↓reduceIte]
        refine hQ _ _ _ _ _ (RG.nil ?_)
        try simp only [zX]
        refine aw_cond _ rfl trivial (fun ht => ?_) (fun hf => by simp [hp] at hf)
        try simp only [zX]
        refine aw_reg 2000 (RG.go fun Q hQ => ?_)
        simp (disch := first | (intros; contradiction) | omega | (simp only [zN]; omega)) only [zS, Nat.reduceAdd, Nat.reduceEqDiff, ↓reduceIte]
        refine hQ _ _ _ _ _ ?_
        refine RG.callg _ _ [] rfl (fun hg => ⟨_, (volume_Right_con w (hgw.ok (by omega))), by (repeat' (first | exact tr_nil | refine tr_cons ?_ ?_ | exact tr_opt (by simpa using hg) (tr_agg (by repeat' (first | exact trivial | rfl | refine ⟨?_, ?_⟩))))), trivial, by (exact .inl trivial)⟩) ?_
        refine RG.go fun Q hQ => ?_
        simp (disch := first | (intros; contradiction) | omega | (simp only [zN]; omega)) only [zS, Nat.reduceAdd, Nat.reduceEqDiff, ↓reduceIte]
        refine hQ _ _ _ _ _ (RG.nil ?_)
        try simp only [zX]
        refine Fin.b (.inr rfl) rfl trivial ?_
        simp [f1, f2, f3, f4]
      have hd : doImp v ⟨7, 0, 0, 0, 0, [], 0, 0, 0, []⟩ = fail v 33 := by
        rw [doImp_some (w := v) (e := 33) (by unfold impS; rw [if_neg (by simp [hv.hid]), if_pos rfl, if_neg (by omega)])]; rfl
      rw [hd] at cD
      refine aw_reg 2448 (RG.go fun Q hQ => ?_)
      simp (disch := first | (intros; contradiction) | omega | (simp only [zN]; omega)) only [zS, Nat.reduceAdd, Nat.reduceEqDiff, Nat.reduceLeDiff, ↓reduceIte]
      refine hQ _ _ _ _ _ (RG.nil ?_)
      try simp only [zX]
      refine aw_reg 2512 (RG.go fun Q hQ => ?_)
      simp (disch := first | (intros; contradiction) | omega | (simp only [zN]; omega)) only [zS, Nat.reduceAdd, Nat.reduceEqDiff, ↓reduceIte]
      refine hQ _ _ _ _ _ ?_
      refine RG.call [] (cD) (by (repeat' (first | exact tr_nil | refine tr_cons ?_ ?_ | exact tr_agg (by repeat' (first | exact trivial | rfl | refine ⟨?_, ?_⟩))))) trivial (by exact .inr ⟨doR_pure _, trivial⟩) ?_
      refine RG.go fun Q hQ => ?_
      simp (disch := first | (intros; contradiction) | omega | (simp only [zN]; omega)) only [zS, Nat.reduceAdd, Nat.reduceEqDiff, ↓reduceIte, vC_eq, fail, repC]
      refine hQ _ _ _ _ _ (RG.nil ?_)
      try simp only [zX]
      refine aw_reg 2704 (RG.go fun Q hQ => ?_)
      simp (disch := first | (intros; contradiction) | omega | (simp only [zN]; omega)) only [zS, Nat.reduceAdd, Nat.reduceEqDiff, ↓reduceIte]
      refine hQ _ _ _ _ _ (RG.nil ?_)
      try simp only [zX]
      refine aw_cond _ rfl trivial (fun ht => ?_) (fun hf => by cases hf)
      try simp only [zX]
      refine aw_reg 2800 (RG.go fun Q hQ => ?_)
      simp (disch := first | (intros; contradiction) | omega | (simp only [zN]; omega)) only [zS, Nat.reduceAdd, Nat.reduceEqDiff, ↓reduceIte, Int.reduceBEq]
      refine hQ _ _ _ _ _ (RG.nil ?_)
      try simp only [zX]
      refine aw_cond _ rfl trivial (fun ht => by simp at ht; omega) (fun hf => ?_)
      try simp only [zX]
      refine aw_reg 2944 (RG.go fun Q hQ => ?_)
      simp (disch := first | (intros; contradiction) | omega | (simp only [zN]; omega)) only [zS, Nat.reduceAdd, Nat.reduceEqDiff, ↓reduceIte]
      refine hQ _ _ _ _ _ (RG.nil ?_)
      try simp only [zX]
      refine aw_cond _ rfl trivial (fun ht => by simp at ht; omega) (fun hf => ?_)
      try simp only [zX]
      refine aw_reg 3024 (RG.go fun Q hQ => ?_)
      simp (disch := first | (intros; contradiction) | omega | (simp only [zN]; omega)) only [zS, Nat.reduceAdd, Nat.reduceEqDiff, ↓reduceIte]
      refine hQ _ _ _ _ _ (RG.nil ?_)
      try simp only [zX]
      refine aw_reg 3088 (RG.go fun Q hQ => ?_)
      simp (disch := first | (intros; contradiction) | omega | (simp only [zN]; omega)) only [zS, Nat.reduceAdd, Nat.reduceEqDiff, Nat.reduceLeDiff, ↓reduceIte]
      refine hQ _ _ _ _ _ ?_
      refine RG.call [] (cPv) (by (repeat' (first | exact tr_nil | refine tr_cons ?_ ?_ | exact tr_agg (by repeat' (first | exact trivial | rfl | refine ⟨?_, ?_⟩))))) trivial (by exact .inr ⟨doR_pure _, trivial⟩) ?_
      refine RG.go fun Q hQ => ?_
      simp (disch := first | (intros; contradiction) | omega | (simp only [zN]; omega)) only [zS, Nat.reduceAdd, Nat.reduceEqDiff, ↓reduceIte, vC_eq, fail, repC]
      refine hQ _ _ _ _ _ (RG.nil ?_)
      try simp only [zX]
      refine aw_reg 3296 (RG.go fun Q hQ => ?_)
      simp (disch := first | (intros; contradiction) | omega | (simp only [zN]; omega)) only [zS, Nat.reduceAdd, Nat.reduceEqDiff, ↓reduceIte, Int.reduceBNe]
      refine hQ _ _ _ _ _ (RG.nil ?_)
      try simp only [zX]
      refine aw_cond _ rfl trivial (fun ht => by cases ht) (fun hf => ?_)
      try simp only [zX]
      refine aw_reg 3376 (RG.go fun Q hQ => ?_)
      simp (disch := first | (intros; contradiction) | omega | (simp only [zN]; omega)) only [zS, zW, Nat.reduceAdd, Nat.reduceEqDiff, ↓reduceIte]
      refine hQ _ _ _ _ _ (RG.nil ?_)
      try simp only [zX]
      refine ⟨⟨(i + 1, v), by simp only; omega, hv⟩, ?_, by first | omega | (simp only; omega)⟩
      refine Le.lit [] [] _ _ ?_ ?_ ?_ ?_
      · simp only [zL, Nat.reduceEqDiff, ↓reduceIte, reduceCtorEq]
        all_goals (try ((repeat' (rfl))))
      · simp only [zL, ↓reduceIte]
        all_goals (trivial; skip)
      · simp [rlook]
      · first | (simp; done) | (intro k hk; simp [rlook]; omega)
    try simp at hf
    try simp only [zX]
    have cD := volume_Do_con v ⟨6, 0, 0, 0, 0, [], 0, 0, (order[i] % 6 : Nat), its⟩ (hv.good.do (by omega) hcl hcd)
    rw [hv.imp _ (.inl rfl)] at cD
    have cS := mementoref16_Same_con v v (hv.good.ok (by omega)) hv.good.by8 hv.good.by8
    by_cases h1 : order[i] % 6 < v.ws.length
    · skip
      have hd : doImp v ⟨6, 0, 0, 0, 0, [], 0, 0, (order[i] % 6 : Nat), its⟩ = done v := by
        rw [doImp_some (w := v) (e := 0) (by unfold impS; rw [if_neg (by simp [hv.hid]), if_neg (by simp), if_pos (by simp only; omega)])]; rfl
      rw [hd] at cD
      refine aw_reg 3456 (RG.go fun Q hQ => ?_)
      simp (disch := first | (intros; contradiction) | omega | (simp only [zN]; omega)) only [zS, Nat.reduceAdd, Nat.reduceEqDiff, ↓reduceIte]
      refine hQ _ _ _ _ _ ?_
      refine RG.call [] (cD) (by (repeat' (first | exact tr_nil | refine tr_cons ?_ ?_ | exact tr_agg (by repeat' (first | exact trivial | rfl | refine ⟨?_, ?_⟩))))) trivial (by exact .inr ⟨doR_pure _, trivial⟩) ?_
      refine RG.go fun Q hQ => ?_
      simp (disch := first | (intros; contradiction) | omega | (simp only [zN]; omega)) only [zS, Nat.reduceAdd, Nat.reduceEqDiff, ↓reduceIte, vC_eq, done, repC]
      refine hQ _ _ _ _ _ (RG.nil ?_)
      try simp only [zX]
      refine aw_reg 3648 (RG.go fun Q hQ => ?_)
      simp (disch := first | (intros; contradiction) | omega | (simp only [zN]; omega)) only [zS, Nat.reduceAdd, Nat.reduceEqDiff, ↓reduceIte, Int.reduceBEq]
      refine hQ _ _ _ _ _ (RG.nil ?_)
      try simp only [zX]
      refine aw_cond _ rfl trivial (fun ht => by cases ht) (fun hf => ?_)
      try simp only [zX]
      refine aw_reg 3744 (RG.go fun Q hQ => ?_)
      simp (disch := first | (intros; contradiction) | omega | (simp only [zN]; omega)) only [zS, Nat.reduceAdd, Nat.reduceEqDiff, ↓reduceIte]
      refine hQ _ _ _ _ _ (RG.nil ?_)
      try simp only [zX]
      refine aw_cond _ rfl trivial (fun ht => ?_) (fun hf => by simp at hf; omega)
      try simp only [zX]
      refine aw_reg 3840 (RG.go fun Q hQ => ?_)
      simp (disch := first | (intros; contradiction) | omega | (simp only [zN]; omega)) only [zS, Nat.reduceAdd, Nat.reduceEqDiff, ↓reduceIte, Int.reduceBNe]
      refine hQ _ _ _ _ _ ?_
      refine RG.callg _ _ [] rfl (fun hg => ⟨_, (cS), by (repeat' (first | exact tr_nil | refine tr_cons ?_ ?_ | exact tr_opt (by simpa using hg) (tr_agg (by repeat' (first | exact trivial | rfl | refine ⟨?_, ?_⟩))))), trivial, by (exact .inl trivial)⟩) ?_
      refine RG.go fun Q hQ => ?_
      simp (disch := first | (intros; contradiction) | omega | (simp only [zN]; omega)) only [zS, Nat.reduceAdd, Nat.reduceEqDiff, ↓reduceIte]
      repeat refine ⟨by ((simp; done)), ?_⟩
      refine hQ _ _ _ _ _ (RG.nil ?_)
      try simp only [zX]
      refine aw_cond _ rfl trivial (fun ht => by simp at ht; omega) (fun hf => ?_)
      try simp only [zX]
      refine aw_reg 4112 (RG.go fun Q hQ => ?_)
      simp (disch := first | (intros; contradiction) | omega | (simp only [zN]; omega)) only [zS, Nat.reduceAdd, Nat.reduceEqDiff, ↓reduceIte]
      refine hQ _ _ _ _ _ (RG.nil ?_)
      try simp only [zX]
      refine aw_reg 4176 (RG.go fun Q hQ => ?_)
      simp (disch := first | (intros; contradiction) | omega | (simp only [zN]; omega)) only [zS, Nat.reduceAdd, Nat.reduceEqDiff, Nat.reduceLeDiff, ↓reduceIte]
      refine hQ _ _ _ _ _ ?_
      refine RG.call [] (cPv) (by (repeat' (first | exact tr_nil | refine tr_cons ?_ ?_ | exact tr_agg (by repeat' (first | exact trivial | rfl | refine ⟨?_, ?_⟩))))) trivial (by exact .inr ⟨doR_pure _, trivial⟩) ?_
      refine RG.go fun Q hQ => ?_
      simp (disch := first | (intros; contradiction) | omega | (simp only [zN]; omega)) only [zS, Nat.reduceAdd, Nat.reduceEqDiff, ↓reduceIte, vC_eq, fail, repC]
      refine hQ _ _ _ _ _ (RG.nil ?_)
      try simp only [zX]
      refine aw_reg 4384 (RG.go fun Q hQ => ?_)
      simp (disch := first | (intros; contradiction) | omega | (simp only [zN]; omega)) only [zS, Nat.reduceAdd, Nat.reduceEqDiff, ↓reduceIte, Int.reduceBNe]
      refine hQ _ _ _ _ _ (RG.nil ?_)
      try simp only [zX]
      refine aw_cond _ rfl trivial (fun ht => by cases ht) (fun hf => ?_)
      try simp only [zX]
      refine aw_reg 4464 (RG.go fun Q hQ => ?_)
      simp (disch := first | (intros; contradiction) | omega | (simp only [zN]; omega)) only [zS, zW, Nat.reduceAdd, Nat.reduceEqDiff, ↓reduceIte]
      refine hQ _ _ _ _ _ (RG.nil ?_)
      try simp only [zX]
      refine ⟨⟨(i + 1, v), by simp only; omega, hv⟩, ?_, by first | omega | (simp only; omega)⟩
      refine Le.lit [] [] _ _ ?_ ?_ ?_ ?_
      · simp only [zL, Nat.reduceEqDiff, ↓reduceIte, reduceCtorEq]
        all_goals (try ((repeat' (rfl))))
      · simp only [zL, ↓reduceIte]
        all_goals (trivial; skip)
      · simp [rlook]
      · first | (simp; done) | (intro k hk; simp [rlook]; omega)
    by_cases h2 : order[i] % 6 = v.ws.length ∧ v.ws.length < k
    · skip
      have hd : doImp v ⟨6, 0, 0, 0, 0, [], 0, 0, (order[i] % 6 : Nat), its⟩ = done (addN v its) := by
        rw [doImp_none (by unfold impS; rw [if_neg (by simp [hv.hid]), if_neg (by simp), if_neg (by simp only; omega), if_neg (by simp only; omega), if_pos hir])]
      obtain ⟨w, hw⟩ : ∃ w, w = addN v its := ⟨_, rfl⟩
      have hIw : ImpI b s k w := by rw [hw]; exact hv.add hk4 hir hb8 h2.2
      have f1 : w.ws.length = v.ws.length + 1 := by rw [hw]; simp [addN, addW]
      have f2 : w.next = v.ws.length + 1 := by rw [hIw.next, f1]; rfl
      have f3 : lenV w = v.ws.length + 1 := by unfold lenV; rw [f1]; rfl
      have cPw := hput w hIw
      have f5 : (w.ws.length : Int) = v.ws.length + 1 := by omega
      rw [hd, ← hw] at cD
      refine aw_reg 4544 (RG.go fun Q hQ => ?_)
      simp (disch := first | (intros; contradiction) | omega | (simp only [zN]; omega)) only [zS, Nat.reduceAdd, Nat.reduceEqDiff, ↓reduceIte]
      refine hQ _ _ _ _ _ ?_
      refine RG.call [] (cD) (by (repeat' (first | exact tr_nil | refine tr_cons ?_ ?_ | exact tr_agg (by repeat' (first | exact trivial | rfl | refine ⟨?_, ?_⟩))))) trivial (by exact .inr ⟨doR_pure _, trivial⟩) ?_
      refine RG.go fun Q hQ => ?_
      simp (disch := first | (intros; contradiction) | omega | (simp only [zN]; omega)) only [zS, Nat.reduceAdd, Nat.reduceEqDiff, ↓reduceIte, vC_eq, done, repC]
      refine hQ _ _ _ _ _ (RG.nil ?_)
      try simp only [zX]
      refine aw_reg 4736 (RG.go fun Q hQ => ?_)
      simp (disch := first | (intros; contradiction) | omega | (simp only [zN]; omega)) only [zS, Nat.reduceAdd, Nat.reduceEqDiff, ↓reduceIte, Int.reduceBEq]
      refine hQ _ _ _ _ _ (RG.nil ?_)
      try simp only [zX]
      refine aw_cond _ rfl trivial (fun ht => by cases ht) (fun hf => ?_)
      try simp only [zX]
      refine aw_reg 4832 (RG.go fun Q hQ => ?_)
      simp (disch := first | (intros; contradiction) | omega | (simp only [zN]; omega)) only [zS, Nat.reduceAdd, Nat.reduceEqDiff, ↓reduceIte]
      refine hQ _ _ _ _ _ (RG.nil ?_)
      try simp only [zX]
      refine aw_cond _ rfl trivial (fun ht => by simp at ht; omega) (fun hf => ?_)
      try simp only [zX]
      refine aw_reg 4928 (RG.go fun Q hQ => ?_)
      simp (disch := first | (intros; contradiction) | omega | (simp only [zN]; omega)) only [zS, Nat.reduceAdd, Nat.reduceEqDiff, ↓reduceIte]
      refine hQ _ _ _ _ _ (RG.nil ?_)
      try simp only [zX]
      refine aw_cond _ rfl trivial (fun ht => ?_) (fun hf => by simp at hf; omega)
      try simp only [zX]
      refine aw_reg 5104 (RG.go fun Q hQ => ?_)
      simp (disch := first | (intros; contradiction) | omega | (simp only [zN]; omega)) only [zS, zW, Nat.reduceAdd, Nat.reduceEqDiff, ↓reduceIte]
      refine hQ _ _ _ _ _ (RG.nil ?_)
      try simp only [zX]
      refine aw_reg 5184 (RG.go fun Q hQ => ?_)
      simp (disch := first | (intros; contradiction) | omega | (simp only [zN]; omega)) only [zS, Nat.reduceAdd, Nat.reduceEqDiff, ↓reduceIte, Int.reduceBNe]
      repeat refine ⟨by ((simp; done)), ?_⟩
      refine hQ _ _ _ _ _ (RG.nil ?_)
      try simp only [zX]
      refine aw_cond _ rfl trivial (fun ht => by simp at ht; omega) (fun hf => ?_)
      try simp only [zX]
      refine aw_reg 5456 (RG.go fun Q hQ => ?_)
      simp (disch := first | (intros; contradiction) | omega | (simp only [zN]; omega)) only [zS, Nat.reduceAdd, Nat.reduceEqDiff, ↓reduceIte]
      refine hQ _ _ _ _ _ (RG.nil ?_)
      try simp only [zX]
      refine aw_reg 5520 (RG.go fun Q hQ => ?_)
      simp (disch := first | (intros; contradiction) | omega | (simp only [zN]; omega)) only [zS, Nat.reduceAdd, Nat.reduceEqDiff, Nat.reduceLeDiff, ↓reduceIte]
      refine hQ _ _ _ _ _ ?_
      refine RG.call [] (cPw) (by (repeat' (first | exact tr_nil | refine tr_cons ?_ ?_ | exact tr_agg (by repeat' (first | exact trivial | rfl | refine ⟨?_, ?_⟩))))) trivial (by exact .inr ⟨doR_pure _, trivial⟩) ?_
      refine RG.go fun Q hQ => ?_
      simp (disch := first | (intros; contradiction) | omega | (simp only [zN]; omega)) only [zS, Nat.reduceAdd, Nat.reduceEqDiff, ↓reduceIte, vC_eq, fail, repC]
      refine hQ _ _ _ _ _ (RG.nil ?_)
      try simp only [zX]
      refine aw_reg 5728 (RG.go fun Q hQ => ?_)
      simp (disch := first | (intros; contradiction) | omega | (simp only [zN]; omega)) only [zS, Nat.reduceAdd, Nat.reduceEqDiff, ↓reduceIte, Int.reduceBNe]
      refine hQ _ _ _ _ _ (RG.nil ?_)
      try simp only [zX]
      refine aw_cond _ rfl trivial (fun ht => by cases ht) (fun hf => ?_)
      try simp only [zX]
      refine aw_reg 5808 (RG.go fun Q hQ => ?_)
      simp (disch := first | (intros; contradiction) | omega | (simp only [zN]; omega)) only [zS, zW, Nat.reduceAdd, Nat.reduceEqDiff, ↓reduceIte]
      refine hQ _ _ _ _ _ (RG.nil ?_)
      try simp only [zX]
      refine ⟨⟨(i + 1, w), by simp only; omega, hIw⟩, ?_, by first | omega | (simp only; omega)⟩
      refine Le.lit [] [] _ _ ?_ ?_ ?_ ?_
      · simp only [zL, Nat.reduceEqDiff, ↓reduceIte, reduceCtorEq]
        all_goals (rw [f5]; (repeat' ((simp; done))))
      · simp only [zL, ↓reduceIte]
        all_goals (trivial; skip)
      · simp [rlook]
      · first | (simp; done) | (intro k hk; simp [rlook]; omega)
    have hd : doImp v ⟨6, 0, 0, 0, 0, [], 0, 0, (order[i] % 6 : Nat), its⟩ = fail v 33 := by
      rw [doImp_some (w := v) (e := 33) (by unfold impS; rw [if_neg (by simp [hv.hid]), if_neg (by simp), if_neg (by simp only; omega), if_pos (by simp only; omega)])]; rfl
    rw [hd] at cD
    refine aw_reg 5888 (RG.go fun Q hQ => ?_)
    simp (disch := first | (intros; contradiction) | omega | (simp only [zN]; omega)) only [zS, Nat.reduceAdd, Nat.reduceEqDiff, ↓reduceIte]
    refine hQ _ _ _ _ _ ?_
    refine RG.call [] (cD) (by (repeat' (first | exact tr_nil | refine tr_cons ?_ ?_ | exact tr_agg (by repeat' (first | exact trivial | rfl | refine ⟨?_, ?_⟩))))) trivial (by exact .inr ⟨doR_pure _, trivial⟩) ?_
    refine RG.go fun Q hQ => ?_
    simp (disch := first | (intros; contradiction) | omega | (simp only [zN]; omega)) only [zS, Nat.reduceAdd, Nat.reduceEqDiff, ↓reduceIte, vC_eq, fail, repC]
    refine hQ _ _ _ _ _ (RG.nil ?_)
    try simp only [zX]
    refine aw_reg 6080 (RG.go fun Q hQ => ?_)
    simp (disch := first | (intros; contradiction) | omega | (simp only [zN]; omega)) only [zS, Nat.reduceAdd, Nat.reduceEqDiff, ↓reduceIte, Int.reduceBEq]
    refine hQ _ _ _ _ _ (RG.nil ?_)
    try simp only [zX]
    refine aw_cond _ rfl trivial (fun ht => by cases ht) (fun hf => ?_)
    try simp only [zX]
    refine aw_reg 6176 (RG.go fun Q hQ => ?_)
    simp (disch := first | (intros; contradiction) | omega | (simp only [zN]; omega)) only [zS, Nat.reduceAdd, Nat.reduceEqDiff, ↓reduceIte]
    refine hQ _ _ _ _ _ (RG.nil ?_)
    try simp only [zX]
    refine aw_cond _ rfl trivial (fun ht => by simp at ht; omega) (fun hf => ?_)
    try simp only [zX]
    refine aw_reg 6272 (RG.go fun Q hQ => ?_)
    simp (disch := first | (intros; contradiction) | omega | (simp only [zN]; omega)) only [zS, Nat.reduceAdd, Nat.reduceEqDiff, ↓reduceIte]
    refine hQ _ _ _ _ _ (RG.nil ?_)
    try simp only [zX]
    refine aw_cond _ rfl trivial (fun ht => by simp at ht; omega) (fun hf => ?_)
    try simp only [zX]
    refine aw_reg 6448 (RG.go fun Q hQ => ?_)
    simp (disch := first | (intros; contradiction) | omega | (simp only [zN]; omega)) only [zS, Nat.reduceAdd, Nat.reduceEqDiff, ↓reduceIte, Int.reduceBNe]
    refine hQ _ _ _ _ _ ?_
    refine RG.callg _ _ [] rfl (fun hg => ⟨_, (cS), by (repeat' (first | exact tr_nil | refine tr_cons ?_ ?_ | exact tr_opt (by simpa using hg) (tr_agg (by repeat' (first | exact trivial | rfl | refine ⟨?_, ?_⟩))))), trivial, by (exact .inl trivial)⟩) ?_
    refine RG.go fun Q hQ => ?_
    simp (disch := first | (intros; contradiction) | omega | (simp only [zN]; omega)) only [zS, Nat.reduceAdd, Nat.reduceEqDiff, ↓reduceIte]
    refine hQ _ _ _ _ _ (RG.nil ?_)
    try simp only [zX]
    refine aw_cond _ rfl trivial (fun ht => by simp at ht) (fun hf => ?_)
    try simp only [zX]
    refine aw_reg 6624 (RG.go fun Q hQ => ?_)
    simp (disch := first | (intros; contradiction) | omega | (simp only [zN]; omega)) only [zS, Nat.reduceAdd, Nat.reduceEqDiff, ↓reduceIte]
    refine hQ _ _ _ _ _ (RG.nil ?_)
    try simp only [zX]
    refine aw_reg 6688 (RG.go fun Q hQ => ?_)
    simp (disch := first | (intros; contradiction) | omega | (simp only [zN]; omega)) only [zS, Nat.reduceAdd, Nat.reduceEqDiff, Nat.reduceLeDiff, ↓reduceIte]
    refine hQ _ _ _ _ _ ?_
    refine RG.call [] (cPv) (by (repeat' (first | exact tr_nil | refine tr_cons ?_ ?_ | exact tr_agg (by repeat' (first | exact trivial | rfl | refine ⟨?_, ?_⟩))))) trivial (by exact .inr ⟨doR_pure _, trivial⟩) ?_
    refine RG.go fun Q hQ => ?_
    simp (disch := first | (intros; contradiction) | omega | (simp only [zN]; omega)) only [zS, Nat.reduceAdd, Nat.reduceEqDiff, ↓reduceIte, vC_eq, fail, repC]
    refine hQ _ _ _ _ _ (RG.nil ?_)
    try simp only [zX]
    refine aw_reg 6896 (RG.go fun Q hQ => ?_)
    simp (disch := first | (intros; contradiction) | omega | (simp only [zN]; omega)) only [zS, Nat.reduceAdd, Nat.reduceEqDiff, ↓reduceIte, Int.reduceBNe]
    refine hQ _ _ _ _ _ (RG.nil ?_)
    try simp only [zX]
    refine aw_cond _ rfl trivial (fun ht => by cases ht) (fun hf => ?_)
    try simp only [zX]
    refine aw_reg 6976 (RG.go fun Q hQ => ?_)
    simp (disch := first | (intros; contradiction) | omega | (simp only [zN]; omega)) only [zS, zW, Nat.reduceAdd, Nat.reduceEqDiff, ↓reduceIte]
    refine hQ _ _ _ _ _ (RG.nil ?_)
    try simp only [zX]
    refine ⟨⟨(i + 1, v), by simp only; omega, hv⟩, ?_, by first | omega | (simp only; omega)⟩
    refine Le.lit [] [] _ _ ?_ ?_ ?_ ?_
    · simp only [zL, Nat.reduceEqDiff, ↓reduceIte, reduceCtorEq]
      all_goals (try ((repeat' (rfl))))
    · simp only [zL, ↓reduceIte]
      all_goals (trivial; skip)
    · simp [rlook]
    · first | (simp; done) | (intro k hk; simp [rlook]; omega)
  try simp at hf
  try simp only [zX, ↓reduceIte]
  refine aw_reg 7056 (RG.go fun Q hQ => ?_)
  simp (disch := first | (intros; contradiction) | omega | (simp only [zN]; omega)) only [zS, Nat.reduceAdd, Nat.reduceEqDiff, ↓reduceIte]
  refine hQ _ _ _ _ _ (RG.nil ?_)
  try simp only [zX]
  refine Fin.b (.inr rfl) rfl trivial ?_
  exact hv.hid

theorem VolumeImports_law (x : List Nat) (hx : x.length = 3 ∧ ∀ a ∈ x, a < 256) (t : Nat) (ht : t < 256) (l : List Nat) (hl : (∀ c ∈ l, c < 256) ∧ l.length ≤ 9223372036854775807) :
    Con Try.prog 8 [.agg (x.map fun n : Nat => .v (.int .u8 n)), .c (.v (.int .u8 t)), .c (.sl (l.map brow))] [] (B true) [] := by
  match x, hx with
  | [a, b, c], hx => exact VolumeImports_con a b c t l (hx.2 a (by simp)) (hx.2 b (by simp)) (hx.2 c (by simp)) ht hl.1

end Go.Abs

