/- What the functions that the law comes to do, part 3. No condition. -/
import Derived.Test.YtnpiigcmedmifaaConb
set_option linter.unusedVariables false
set_option linter.unusedSimpArgs false
set_option linter.unnecessarySimpa false
namespace Go.Abs
open Go Go.Proofs
set_option maxRecDepth 100000
set_option linter.unusedSimpArgs false
set_option maxHeartbeats 4000000

theorem timeE_of {f t m : Int} : timeE f t m = 0 ↔ f ≤ t ∧ t ≤ m := by unfold timeE; split; omega; split <;> omega

theorem Do_hid3 (v : VOL) (c : CMD) (ok : Vok v) (hk : c.kind = 3) (h : v.hid = true) : Con Try.prog 18 [.agg (volC v), .agg (cmdC c)] [] (doR (fail v 28)) [] := by
  have k2 : (c.kind == 2) = false := by rw [hk]; rfl
  have k3 : (c.kind == 3) = true := by rw [hk]; rfl
  have k4 : (c.kind == 4) = false := by rw [hk]; rfl
  have k5 : (c.kind == 5) = false := by rw [hk]; rfl
  have k6 : (c.kind == 6) = false := by rw [hk]; rfl
  have k7 : (c.kind == 7) = false := by rw [hk]; rfl
  have k8 : (c.kind == 8) = false := by rw [hk]; rfl
  refine C_volume_Do (Nat.le_of_ble_eq_true rfl) (Nat.le_of_ble_eq_true rfl) ?_
  simp only [A_volume_Do, argL, objL, List.length_nil, Nat.zero_add, zX]
  refine aw_reg 16 (RG.go fun Q hQ => ?_)
  simp (disch := intros; contradiction) only [zS, vC_eq, cmdC, cC, simprocAttr]
  refine hQ (RG.nil ?_)
  simp only [zX]
  refine aw_reg 112 (RG.go fun Q hQ => ?_)
  simp (disch := intros; contradiction) only [zS, simprocAttr]
  refine hQ ?_
  refine RG.callo [] [] (volume_copied_con v ok) (.mk (by (repeat' (first | exact tr_nil | refine tr_cons ?_ ?_ | exact tr_agg (by repeat' (first | exact trivial | rfl | refine ⟨?_, ?_⟩))))) (by first | trivial | (simp only [zT, simprocAttr]; done) | (simp only [zT, simprocAttr]; trivial) | (simp only [zT, simprocAttr]; repeat' (fail))) (by simp) (by simp) (trivial) (by first | (simp [lkE_cons, lkE_nil]; done) | (intro j hj; simp at hj; simp only [lkE_cons, lkE_nil]; repeat rw [if_neg (by omega)])) (by first | (simp [Ent.pure]; done) | (simp [Ent.pure]; repeat' (first | (first | exact drows_nrow _ | exact drows_wrow _) | refine ⟨?_, ?_⟩))) (by simp) (by simp)) ?_
  refine RG.go fun Q hQ => ?_
  simp (disch := intros; contradiction) only [zS, simprocAttr]
  refine hQ (RG.nil ?_)
  simp only [zX]
  refine aw_reg 224 (RG.go fun Q hQ => ?_)
  simp (disch := intros; contradiction) only [zS, simprocAttr]
  refine hQ ?_
  refine RG.callo [] [] (volume_copied_con v ok) (.mk (by (repeat' (first | exact tr_nil | refine tr_cons ?_ ?_ | exact tr_agg (by repeat' (first | exact trivial | rfl | refine ⟨?_, ?_⟩))))) (by first | trivial | (simp only [zT, simprocAttr]; done) | (simp only [zT, simprocAttr]; trivial) | (simp only [zT, simprocAttr]; repeat' (fail))) (by simp) (by simp) (trivial) (by first | (simp [lkE_cons, lkE_nil]; done) | (intro j hj; simp at hj; simp only [lkE_cons, lkE_nil]; repeat rw [if_neg (by omega)])) (by first | (simp [Ent.pure]; done) | (simp [Ent.pure]; repeat' (first | (first | exact drows_nrow _ | exact drows_wrow _) | refine ⟨?_, ?_⟩))) (by simp) (by simp)) ?_
  refine RG.go fun Q hQ => ?_
  simp (disch := intros; contradiction) only [zS, simprocAttr]
  refine hQ (RG.nil ?_)
  simp only [zX]
  refine aw_reg 304 (RG.go fun Q hQ => ?_)
  simp (disch := intros; contradiction) only [zS, simprocAttr]
  refine hQ (RG.nil ?_)
  simp only [zX]
  refine aw_reg 368 (RG.go fun Q hQ => ?_)
  simp (disch := intros; contradiction) only [zS, k2, simprocAttr]
  refine hQ (RG.nil ?_)
  simp only [zX]
  refine aw_cond _ rfl trivial (fun ht => by cases ht) (fun hf => ?_)
  simp only [zX]
  refine aw_reg 432 (RG.go fun Q hQ => ?_)
  simp (disch := intros; contradiction) only [zS, k3, simprocAttr]
  refine hQ (RG.nil ?_)
  simp only [zX]
  refine aw_cond _ rfl trivial (fun ht => ?_) (fun hf => by cases hf)
  simp only [zX]
  refine aw_cond _ rfl trivial (fun ht => ?_) (fun hf => by cases hf)
  refine aw_reg 496 (RG.go fun Q hQ => ?_)
  simp (disch := intros; contradiction) only [zS, simprocAttr]
  refine hQ ?_
  refine RG.callo [240, 241] [] (pins_hid v c h) (.mk (by (repeat' (first | exact tr_nil | refine tr_cons ?_ ?_ | exact tr_agg (by repeat' (first | exact trivial | rfl | refine ⟨?_, ?_⟩))))) (by first | trivial | (simp only [zT, simprocAttr]; done) | (simp only [zT, simprocAttr]; trivial) | (simp only [zT, simprocAttr]; repeat' (first | (first | exact drows_nrow _ | exact drows_wrow _) | refine ⟨?_, ?_⟩))) (by simp) (by simp) (trivial) (by first | (simp [lkE_cons, lkE_nil]; done) | (intro j hj; simp at hj; simp only [setEs, setE_cons, setE_nil, lkE_cons, lkE_nil]; repeat rw [if_neg (by omega)])) (by first | (simp [Ent.pure]; done) | (simp [Ent.pure]; repeat' (first | (first | exact drows_nrow _ | exact drows_wrow _) | refine ⟨?_, ?_⟩))) (by simp) (by simp)) ?_
  refine RG.go fun Q hQ => ?_
  simp (disch := intros; contradiction) only [zS, vO_eq, simprocAttr]
  refine hQ (RG.nil ?_)
  simp only [zX]
  refine aw_reg 656 (RG.go fun Q hQ => ?_)
  simp (disch := intros; contradiction) only [zS, simprocAttr]
  refine hQ (RG.nil ?_)
  simp only [zX]
  refine aw_cond _ rfl trivial (fun ht => ?_) (fun hf => by cases hf)
  simp only [zX]
  refine aw_reg 720 (RG.go fun Q hQ => ?_)
  simp (disch := intros; contradiction) only [zS, simprocAttr]
  refine hQ (RG.nil ?_)
  simp only [zX]
  refine Fin.data [128, 129] (.inr rfl) rfl (by (exact ⟨trivial, trivial, trivial⟩)) ?_
  simp only [zL, simprocAttr]
  all_goals ((repeat' (first | exact trivial | rfl | (refine ⟨⟨_, _, rfl⟩, ?_⟩; (first | exact drows_nrow _ | exact drows_wrow _)) | refine ⟨?_, ?_⟩)))

theorem Do_hid4 (v : VOL) (c : CMD) (ok : Vok v) (hk : c.kind = 4) (h : v.hid = true) : Con Try.prog 18 [.agg (volC v), .agg (cmdC c)] [] (doR (fail v 28)) [] := by
  have k2 : (c.kind == 2) = false := by rw [hk]; rfl
  have k3 : (c.kind == 3) = false := by rw [hk]; rfl
  have k4 : (c.kind == 4) = true := by rw [hk]; rfl
  have k5 : (c.kind == 5) = false := by rw [hk]; rfl
  have k6 : (c.kind == 6) = false := by rw [hk]; rfl
  have k7 : (c.kind == 7) = false := by rw [hk]; rfl
  have k8 : (c.kind == 8) = false := by rw [hk]; rfl
  refine C_volume_Do (Nat.le_of_ble_eq_true rfl) (Nat.le_of_ble_eq_true rfl) ?_
  simp only [A_volume_Do, argL, objL, List.length_nil, Nat.zero_add, zX]
  refine aw_reg 16 (RG.go fun Q hQ => ?_)
  simp (disch := intros; contradiction) only [zS, vC_eq, cmdC, cC, simprocAttr]
  refine hQ (RG.nil ?_)
  simp only [zX]
  refine aw_reg 112 (RG.go fun Q hQ => ?_)
  simp (disch := intros; contradiction) only [zS, simprocAttr]
  refine hQ ?_
  refine RG.callo [] [] (volume_copied_con v ok) (.mk (by (repeat' (first | exact tr_nil | refine tr_cons ?_ ?_ | exact tr_agg (by repeat' (first | exact trivial | rfl | refine ⟨?_, ?_⟩))))) (by first | trivial | (simp only [zT, simprocAttr]; done) | (simp only [zT, simprocAttr]; trivial) | (simp only [zT, simprocAttr]; repeat' (fail))) (by simp) (by simp) (trivial) (by first | (simp [lkE_cons, lkE_nil]; done) | (intro j hj; simp at hj; simp only [lkE_cons, lkE_nil]; repeat rw [if_neg (by omega)])) (by first | (simp [Ent.pure]; done) | (simp [Ent.pure]; repeat' (first | (first | exact drows_nrow _ | exact drows_wrow _) | refine ⟨?_, ?_⟩))) (by simp) (by simp)) ?_
  refine RG.go fun Q hQ => ?_
  simp (disch := intros; contradiction) only [zS, simprocAttr]
  refine hQ (RG.nil ?_)
  simp only [zX]
  refine aw_reg 224 (RG.go fun Q hQ => ?_)
  simp (disch := intros; contradiction) only [zS, simprocAttr]
  refine hQ ?_
  refine RG.callo [] [] (volume_copied_con v ok) (.mk (by (repeat' (first | exact tr_nil | refine tr_cons ?_ ?_ | exact tr_agg (by repeat' (first | exact trivial | rfl | refine ⟨?_, ?_⟩))))) (by first | trivial | (simp only [zT, simprocAttr]; done) | (simp only [zT, simprocAttr]; trivial) | (simp only [zT, simprocAttr]; repeat' (fail))) (by simp) (by simp) (trivial) (by first | (simp [lkE_cons, lkE_nil]; done) | (intro j hj; simp at hj; simp only [lkE_cons, lkE_nil]; repeat rw [if_neg (by omega)])) (by first | (simp [Ent.pure]; done) | (simp [Ent.pure]; repeat' (first | (first | exact drows_nrow _ | exact drows_wrow _) | refine ⟨?_, ?_⟩))) (by simp) (by simp)) ?_
  refine RG.go fun Q hQ => ?_
  simp (disch := intros; contradiction) only [zS, simprocAttr]
  refine hQ (RG.nil ?_)
  simp only [zX]
  refine aw_reg 304 (RG.go fun Q hQ => ?_)
  simp (disch := intros; contradiction) only [zS, simprocAttr]
  refine hQ (RG.nil ?_)
  simp only [zX]
  refine aw_reg 368 (RG.go fun Q hQ => ?_)
  simp (disch := intros; contradiction) only [zS, k2, simprocAttr]
  refine hQ (RG.nil ?_)
  simp only [zX]
  refine aw_cond _ rfl trivial (fun ht => by cases ht) (fun hf => ?_)
  simp only [zX]
  refine aw_reg 432 (RG.go fun Q hQ => ?_)
  simp (disch := intros; contradiction) only [zS, k3, simprocAttr]
  refine hQ (RG.nil ?_)
  simp only [zX]
  refine aw_cond _ rfl trivial (fun ht => by cases ht) (fun hf => ?_)
  simp only [zX]
  refine aw_reg 496 (RG.go fun Q hQ => ?_)
  simp (disch := intros; contradiction) only [zS, k4, simprocAttr]
  refine hQ (RG.nil ?_)
  simp only [zX]
  refine aw_cond _ rfl trivial (fun ht => ?_) (fun hf => by cases hf)
  simp only [zX]
  refine aw_cond _ rfl trivial (fun ht => ?_) (fun hf => by cases hf)
  refine aw_reg 560 (RG.go fun Q hQ => ?_)
  simp (disch := intros; contradiction) only [zS, simprocAttr]
  refine hQ ?_
  refine RG.callo [240, 241] [] (pins_hid v c h) (.mk (by (repeat' (first | exact tr_nil | refine tr_cons ?_ ?_ | exact tr_agg (by repeat' (first | exact trivial | rfl | refine ⟨?_, ?_⟩))))) (by first | trivial | (simp only [zT, simprocAttr]; done) | (simp only [zT, simprocAttr]; trivial) | (simp only [zT, simprocAttr]; repeat' (first | (first | exact drows_nrow _ | exact drows_wrow _) | refine ⟨?_, ?_⟩))) (by simp) (by simp) (trivial) (by first | (simp [lkE_cons, lkE_nil]; done) | (intro j hj; simp at hj; simp only [setEs, setE_cons, setE_nil, lkE_cons, lkE_nil]; repeat rw [if_neg (by omega)])) (by first | (simp [Ent.pure]; done) | (simp [Ent.pure]; repeat' (first | (first | exact drows_nrow _ | exact drows_wrow _) | refine ⟨?_, ?_⟩))) (by simp) (by simp)) ?_
  refine RG.go fun Q hQ => ?_
  simp (disch := intros; contradiction) only [zS, vO_eq, simprocAttr]
  refine hQ (RG.nil ?_)
  simp only [zX]
  refine aw_reg 720 (RG.go fun Q hQ => ?_)
  simp (disch := intros; contradiction) only [zS, simprocAttr]
  refine hQ (RG.nil ?_)
  simp only [zX]
  refine aw_cond _ rfl trivial (fun ht => ?_) (fun hf => by cases hf)
  simp only [zX]
  refine aw_reg 784 (RG.go fun Q hQ => ?_)
  simp (disch := intros; contradiction) only [zS, simprocAttr]
  refine hQ (RG.nil ?_)
  simp only [zX]
  refine Fin.data [128, 129] (.inr rfl) rfl (by (exact ⟨trivial, trivial, trivial⟩)) ?_
  simp only [zL, simprocAttr]
  all_goals ((repeat' (first | exact trivial | rfl | (refine ⟨⟨_, _, rfl⟩, ?_⟩; (first | exact drows_nrow _ | exact drows_wrow _)) | refine ⟨?_, ?_⟩)))

theorem Do_hid5 (v : VOL) (c : CMD) (ok : Vok v) (hk : c.kind = 5) (h : v.hid = true) : Con Try.prog 18 [.agg (volC v), .agg (cmdC c)] [] (doR (fail v 28)) [] := by
  have k2 : (c.kind == 2) = false := by rw [hk]; rfl
  have k3 : (c.kind == 3) = false := by rw [hk]; rfl
  have k4 : (c.kind == 4) = false := by rw [hk]; rfl
  have k5 : (c.kind == 5) = true := by rw [hk]; rfl
  have k6 : (c.kind == 6) = false := by rw [hk]; rfl
  have k7 : (c.kind == 7) = false := by rw [hk]; rfl
  have k8 : (c.kind == 8) = false := by rw [hk]; rfl
  refine C_volume_Do (Nat.le_of_ble_eq_true rfl) (Nat.le_of_ble_eq_true rfl) ?_
  simp only [A_volume_Do, argL, objL, List.length_nil, Nat.zero_add, zX]
  refine aw_reg 16 (RG.go fun Q hQ => ?_)
  simp (disch := intros; contradiction) only [zS, vC_eq, cmdC, cC, simprocAttr]
  refine hQ (RG.nil ?_)
  simp only [zX]
  refine aw_reg 112 (RG.go fun Q hQ => ?_)
  simp (disch := intros; contradiction) only [zS, simprocAttr]
  refine hQ ?_
  refine RG.callo [] [] (volume_copied_con v ok) (.mk (by (repeat' (first | exact tr_nil | refine tr_cons ?_ ?_ | exact tr_agg (by repeat' (first | exact trivial | rfl | refine ⟨?_, ?_⟩))))) (by first | trivial | (simp only [zT, simprocAttr]; done) | (simp only [zT, simprocAttr]; trivial) | (simp only [zT, simprocAttr]; repeat' (fail))) (by simp) (by simp) (trivial) (by first | (simp [lkE_cons, lkE_nil]; done) | (intro j hj; simp at hj; simp only [lkE_cons, lkE_nil]; repeat rw [if_neg (by omega)])) (by first | (simp [Ent.pure]; done) | (simp [Ent.pure]; repeat' (first | (first | exact drows_nrow _ | exact drows_wrow _) | refine ⟨?_, ?_⟩))) (by simp) (by simp)) ?_
  refine RG.go fun Q hQ => ?_
  simp (disch := intros; contradiction) only [zS, simprocAttr]
  refine hQ (RG.nil ?_)
  simp only [zX]
  refine aw_reg 224 (RG.go fun Q hQ => ?_)
  simp (disch := intros; contradiction) only [zS, simprocAttr]
  refine hQ ?_
  refine RG.callo [] [] (volume_copied_con v ok) (.mk (by (repeat' (first | exact tr_nil | refine tr_cons ?_ ?_ | exact tr_agg (by repeat' (first | exact trivial | rfl | refine ⟨?_, ?_⟩))))) (by first | trivial | (simp only [zT, simprocAttr]; done) | (simp only [zT, simprocAttr]; trivial) | (simp only [zT, simprocAttr]; repeat' (fail))) (by simp) (by simp) (trivial) (by first | (simp [lkE_cons, lkE_nil]; done) | (intro j hj; simp at hj; simp only [lkE_cons, lkE_nil]; repeat rw [if_neg (by omega)])) (by first | (simp [Ent.pure]; done) | (simp [Ent.pure]; repeat' (first | (first | exact drows_nrow _ | exact drows_wrow _) | refine ⟨?_, ?_⟩))) (by simp) (by simp)) ?_
  refine RG.go fun Q hQ => ?_
  simp (disch := intros; contradiction) only [zS, simprocAttr]
  refine hQ (RG.nil ?_)
  simp only [zX]
  refine aw_reg 304 (RG.go fun Q hQ => ?_)
  simp (disch := intros; contradiction) only [zS, simprocAttr]
  refine hQ (RG.nil ?_)
  simp only [zX]
  refine aw_reg 368 (RG.go fun Q hQ => ?_)
  simp (disch := intros; contradiction) only [zS, k2, simprocAttr]
  refine hQ (RG.nil ?_)
  simp only [zX]
  refine aw_cond _ rfl trivial (fun ht => by cases ht) (fun hf => ?_)
  simp only [zX]
  refine aw_reg 432 (RG.go fun Q hQ => ?_)
  simp (disch := intros; contradiction) only [zS, k3, simprocAttr]
  refine hQ (RG.nil ?_)
  simp only [zX]
  refine aw_cond _ rfl trivial (fun ht => by cases ht) (fun hf => ?_)
  simp only [zX]
  refine aw_reg 496 (RG.go fun Q hQ => ?_)
  simp (disch := intros; contradiction) only [zS, k4, simprocAttr]
  refine hQ (RG.nil ?_)
  simp only [zX]
  refine aw_cond _ rfl trivial (fun ht => by cases ht) (fun hf => ?_)
  refine aw_reg 560 (RG.go fun Q hQ => ?_)
  simp (disch := intros; contradiction) only [zS, k5, simprocAttr]
  refine hQ (RG.nil ?_)
  simp only [zX]
  refine aw_cond _ rfl trivial (fun ht => ?_) (fun hf => by cases hf)
  refine aw_reg 624 (RG.go fun Q hQ => ?_)
  simp (disch := intros; contradiction) only [zS, simprocAttr]
  refine hQ ?_
  refine RG.callo [240, 241] [] (pins_hid v c h) (.mk (by (repeat' (first | exact tr_nil | refine tr_cons ?_ ?_ | exact tr_agg (by repeat' (first | exact trivial | rfl | refine ⟨?_, ?_⟩))))) (by first | trivial | (simp only [zT, simprocAttr]; done) | (simp only [zT, simprocAttr]; trivial) | (simp only [zT, simprocAttr]; repeat' (first | (first | exact drows_nrow _ | exact drows_wrow _) | refine ⟨?_, ?_⟩))) (by simp) (by simp) (trivial) (by first | (simp [lkE_cons, lkE_nil]; done) | (intro j hj; simp at hj; simp only [setEs, setE_cons, setE_nil, lkE_cons, lkE_nil]; repeat rw [if_neg (by omega)])) (by first | (simp [Ent.pure]; done) | (simp [Ent.pure]; repeat' (first | (first | exact drows_nrow _ | exact drows_wrow _) | refine ⟨?_, ?_⟩))) (by simp) (by simp)) ?_
  refine RG.go fun Q hQ => ?_
  simp (disch := intros; contradiction) only [zS, vO_eq, simprocAttr]
  refine hQ (RG.nil ?_)
  simp only [zX]
  refine aw_reg 784 (RG.go fun Q hQ => ?_)
  simp (disch := intros; contradiction) only [zS, simprocAttr]
  refine hQ (RG.nil ?_)
  simp only [zX]
  refine aw_cond _ rfl trivial (fun ht => ?_) (fun hf => by cases hf)
  simp only [zX]
  refine aw_reg 848 (RG.go fun Q hQ => ?_)
  simp (disch := intros; contradiction) only [zS, simprocAttr]
  refine hQ (RG.nil ?_)
  simp only [zX]
  refine Fin.data [128, 129] (.inr rfl) rfl (by (exact ⟨trivial, trivial, trivial⟩)) ?_
  simp only [zL, simprocAttr]
  all_goals ((repeat' (first | exact trivial | rfl | (refine ⟨⟨_, _, rfl⟩, ?_⟩; (first | exact drows_nrow _ | exact drows_wrow _)) | refine ⟨?_, ?_⟩)))

theorem Do_prune_no (v : VOL) (c : CMD) (ok : Vok v) (hk : c.kind = 3) (h : v.hid = false) (e : Int) (he : timeE v.floor c.at' (lowV v) = e) (he0 : e ≠ 0) : Con Try.prog 18 [.agg (volC v), .agg (cmdC c)] [] (doR (fail v e)) [] := by
  have k2 : (c.kind == 2) = false := by rw [hk]; rfl
  have k3 : (c.kind == 3) = true := by rw [hk]; rfl
  have k4 : (c.kind == 4) = false := by rw [hk]; rfl
  have k5 : (c.kind == 5) = false := by rw [hk]; rfl
  have k6 : (c.kind == 6) = false := by rw [hk]; rfl
  have k7 : (c.kind == 7) = false := by rw [hk]; rfl
  have k8 : (c.kind == 8) = false := by rw [hk]; rfl
  refine C_volume_Do (Nat.le_of_ble_eq_true rfl) (Nat.le_of_ble_eq_true rfl) ?_
  simp only [A_volume_Do, argL, objL, List.length_nil, Nat.zero_add, zX]
  refine aw_reg 16 (RG.go fun Q hQ => ?_)
  simp (disch := intros; contradiction) only [zS, vC_eq, cmdC, cC, simprocAttr]
  refine hQ (RG.nil ?_)
  simp only [zX]
  refine aw_reg 112 (RG.go fun Q hQ => ?_)
  simp (disch := intros; contradiction) only [zS, simprocAttr]
  refine hQ ?_
  refine RG.callo [] [] (volume_copied_con v ok) (.mk (by (repeat' (first | exact tr_nil | refine tr_cons ?_ ?_ | exact tr_agg (by repeat' (first | exact trivial | rfl | refine ⟨?_, ?_⟩))))) (by first | trivial | (simp only [zT, simprocAttr]; done) | (simp only [zT, simprocAttr]; trivial) | (simp only [zT, simprocAttr]; repeat' (fail))) (by simp) (by simp) (trivial) (by first | (simp [lkE_cons, lkE_nil]; done) | (intro j hj; simp at hj; simp only [lkE_cons, lkE_nil]; repeat rw [if_neg (by omega)])) (by first | (simp [Ent.pure]; done) | (simp [Ent.pure]; repeat' (first | (first | exact drows_nrow _ | exact drows_wrow _) | refine ⟨?_, ?_⟩))) (by simp) (by simp)) ?_
  refine RG.go fun Q hQ => ?_
  simp (disch := intros; contradiction) only [zS, simprocAttr]
  refine hQ (RG.nil ?_)
  simp only [zX]
  refine aw_reg 224 (RG.go fun Q hQ => ?_)
  simp (disch := intros; contradiction) only [zS, simprocAttr]
  refine hQ ?_
  refine RG.callo [] [] (volume_copied_con v ok) (.mk (by (repeat' (first | exact tr_nil | refine tr_cons ?_ ?_ | exact tr_agg (by repeat' (first | exact trivial | rfl | refine ⟨?_, ?_⟩))))) (by first | trivial | (simp only [zT, simprocAttr]; done) | (simp only [zT, simprocAttr]; trivial) | (simp only [zT, simprocAttr]; repeat' (fail))) (by simp) (by simp) (trivial) (by first | (simp [lkE_cons, lkE_nil]; done) | (intro j hj; simp at hj; simp only [lkE_cons, lkE_nil]; repeat rw [if_neg (by omega)])) (by first | (simp [Ent.pure]; done) | (simp [Ent.pure]; repeat' (first | (first | exact drows_nrow _ | exact drows_wrow _) | refine ⟨?_, ?_⟩))) (by simp) (by simp)) ?_
  refine RG.go fun Q hQ => ?_
  simp (disch := intros; contradiction) only [zS, simprocAttr]
  refine hQ (RG.nil ?_)
  simp only [zX]
  refine aw_reg 304 (RG.go fun Q hQ => ?_)
  simp (disch := intros; contradiction) only [zS, simprocAttr]
  refine hQ (RG.nil ?_)
  simp only [zX]
  refine aw_reg 368 (RG.go fun Q hQ => ?_)
  simp (disch := intros; contradiction) only [zS, k2, simprocAttr]
  refine hQ (RG.nil ?_)
  simp only [zX]
  refine aw_cond _ rfl trivial (fun ht => by cases ht) (fun hf => ?_)
  simp only [zX]
  refine aw_reg 432 (RG.go fun Q hQ => ?_)
  simp (disch := intros; contradiction) only [zS, k3, simprocAttr]
  refine hQ (RG.nil ?_)
  simp only [zX]
  refine aw_cond _ rfl trivial (fun ht => ?_) (fun hf => by cases hf)
  simp only [zX]
  refine aw_cond _ rfl trivial (fun ht => ?_) (fun hf => by cases hf)
  refine aw_reg 496 (RG.go fun Q hQ => ?_)
  simp (disch := intros; contradiction) only [zS, simprocAttr]
  refine hQ ?_
  refine RG.callo [240, 241] [] (prune_no v c ok e h hk he he0) (.mk (by (repeat' (first | exact tr_nil | refine tr_cons ?_ ?_ | exact tr_agg (by repeat' (first | exact trivial | rfl | refine ⟨?_, ?_⟩))))) (by first | trivial | (simp only [zT, simprocAttr]; done) | (simp only [zT, simprocAttr]; trivial) | (simp only [zT, simprocAttr]; repeat' (first | (first | exact drows_nrow _ | exact drows_wrow _) | refine ⟨?_, ?_⟩))) (by simp) (by simp) (trivial) (by first | (simp [lkE_cons, lkE_nil]; done) | (intro j hj; simp at hj; simp only [setEs, setE_cons, setE_nil, lkE_cons, lkE_nil]; repeat rw [if_neg (by omega)])) (by first | (simp [Ent.pure]; done) | (simp [Ent.pure]; repeat' (first | (first | exact drows_nrow _ | exact drows_wrow _) | refine ⟨?_, ?_⟩))) (by simp) (by simp)) ?_
  refine RG.go fun Q hQ => ?_
  simp (disch := intros; contradiction) only [zS, vO_eq, simprocAttr]
  refine hQ (RG.nil ?_)
  simp only [zX]
  refine aw_reg 656 (RG.go fun Q hQ => ?_)
  simp (disch := intros; contradiction) only [zS, simprocAttr]
  refine hQ (RG.nil ?_)
  simp only [zX]
  refine aw_cond _ rfl trivial (fun ht => ?_) (fun hf => by simp at hf; exact absurd hf he0)
  simp only [zX]
  refine aw_reg 720 (RG.go fun Q hQ => ?_)
  simp (disch := intros; contradiction) only [zS, simprocAttr]
  refine hQ (RG.nil ?_)
  simp only [zX]
  refine Fin.data [128, 129] (.inr rfl) rfl (by (exact ⟨trivial, trivial, trivial⟩)) ?_
  simp only [zL, simprocAttr]
  all_goals ((repeat' (first | exact trivial | rfl | (refine ⟨⟨_, _, rfl⟩, ?_⟩; (first | exact drows_nrow _ | exact drows_wrow _)) | refine ⟨?_, ?_⟩)))

theorem Do_prune_yes (v : VOL) (c : CMD) (ok : Vok v) (hk : c.kind = 3) (h : v.hid = false) (he : timeE v.floor c.at' (lowV v) = 0) : Con Try.prog 18 [.agg (volC v), .agg (cmdC c)] [] (doR (done { v with floor := c.at' })) [] := by
  have k2 : (c.kind == 2) = false := by rw [hk]; rfl
  have k3 : (c.kind == 3) = true := by rw [hk]; rfl
  have k4 : (c.kind == 4) = false := by rw [hk]; rfl
  have k5 : (c.kind == 5) = false := by rw [hk]; rfl
  have k6 : (c.kind == 6) = false := by rw [hk]; rfl
  have k7 : (c.kind == 7) = false := by rw [hk]; rfl
  have k8 : (c.kind == 8) = false := by rw [hk]; rfl
  refine C_volume_Do (Nat.le_of_ble_eq_true rfl) (Nat.le_of_ble_eq_true rfl) ?_
  simp only [A_volume_Do, argL, objL, List.length_nil, Nat.zero_add, zX]
  refine aw_reg 16 (RG.go fun Q hQ => ?_)
  simp (disch := intros; contradiction) only [zS, vC_eq, cmdC, cC, simprocAttr]
  refine hQ (RG.nil ?_)
  simp only [zX]
  refine aw_reg 112 (RG.go fun Q hQ => ?_)
  simp (disch := intros; contradiction) only [zS, simprocAttr]
  refine hQ ?_
  refine RG.callo [] [] (volume_copied_con v ok) (.mk (by (repeat' (first | exact tr_nil | refine tr_cons ?_ ?_ | exact tr_agg (by repeat' (first | exact trivial | rfl | refine ⟨?_, ?_⟩))))) (by first | trivial | (simp only [zT, simprocAttr]; done) | (simp only [zT, simprocAttr]; trivial) | (simp only [zT, simprocAttr]; repeat' (fail))) (by simp) (by simp) (trivial) (by first | (simp [lkE_cons, lkE_nil]; done) | (intro j hj; simp at hj; simp only [lkE_cons, lkE_nil]; repeat rw [if_neg (by omega)])) (by first | (simp [Ent.pure]; done) | (simp [Ent.pure]; repeat' (first | (first | exact drows_nrow _ | exact drows_wrow _) | refine ⟨?_, ?_⟩))) (by simp) (by simp)) ?_
  refine RG.go fun Q hQ => ?_
  simp (disch := intros; contradiction) only [zS, simprocAttr]
  refine hQ (RG.nil ?_)
  simp only [zX]
  refine aw_reg 224 (RG.go fun Q hQ => ?_)
  simp (disch := intros; contradiction) only [zS, simprocAttr]
  refine hQ ?_
  refine RG.callo [] [] (volume_copied_con v ok) (.mk (by (repeat' (first | exact tr_nil | refine tr_cons ?_ ?_ | exact tr_agg (by repeat' (first | exact trivial | rfl | refine ⟨?_, ?_⟩))))) (by first | trivial | (simp only [zT, simprocAttr]; done) | (simp only [zT, simprocAttr]; trivial) | (simp only [zT, simprocAttr]; repeat' (fail))) (by simp) (by simp) (trivial) (by first | (simp [lkE_cons, lkE_nil]; done) | (intro j hj; simp at hj; simp only [lkE_cons, lkE_nil]; repeat rw [if_neg (by omega)])) (by first | (simp [Ent.pure]; done) | (simp [Ent.pure]; repeat' (first | (first | exact drows_nrow _ | exact drows_wrow _) | refine ⟨?_, ?_⟩))) (by simp) (by simp)) ?_
  refine RG.go fun Q hQ => ?_
  simp (disch := intros; contradiction) only [zS, simprocAttr]
  refine hQ (RG.nil ?_)
  simp only [zX]
  refine aw_reg 304 (RG.go fun Q hQ => ?_)
  simp (disch := intros; contradiction) only [zS, simprocAttr]
  refine hQ (RG.nil ?_)
  simp only [zX]
  refine aw_reg 368 (RG.go fun Q hQ => ?_)
  simp (disch := intros; contradiction) only [zS, k2, simprocAttr]
  refine hQ (RG.nil ?_)
  simp only [zX]
  refine aw_cond _ rfl trivial (fun ht => by cases ht) (fun hf => ?_)
  simp only [zX]
  refine aw_reg 432 (RG.go fun Q hQ => ?_)
  simp (disch := intros; contradiction) only [zS, k3, simprocAttr]
  refine hQ (RG.nil ?_)
  simp only [zX]
  refine aw_cond _ rfl trivial (fun ht => ?_) (fun hf => by cases hf)
  simp only [zX]
  refine aw_cond _ rfl trivial (fun ht => ?_) (fun hf => by cases hf)
  refine aw_reg 496 (RG.go fun Q hQ => ?_)
  simp (disch := intros; contradiction) only [zS, simprocAttr]
  refine hQ ?_
  refine RG.callo [240, 241] [] (prune_yes v c ok h hk he) (.mk (by (repeat' (first | exact tr_nil | refine tr_cons ?_ ?_ | exact tr_agg (by repeat' (first | exact trivial | rfl | refine ⟨?_, ?_⟩))))) (by first | trivial | (simp only [zT, simprocAttr]; done) | (simp only [zT, simprocAttr]; trivial) | (simp only [zT, simprocAttr]; repeat' (first | (first | exact drows_nrow _ | exact drows_wrow _) | refine ⟨?_, ?_⟩))) (by simp) (by simp) (trivial) (by first | (simp [lkE_cons, lkE_nil]; done) | (intro j hj; simp at hj; simp only [setEs, setE_cons, setE_nil, lkE_cons, lkE_nil]; repeat rw [if_neg (by omega)])) (by first | (simp [Ent.pure]; done) | (simp [Ent.pure]; repeat' (first | (first | exact drows_nrow _ | exact drows_wrow _) | refine ⟨?_, ?_⟩))) (by simp) (by simp)) ?_
  refine RG.go fun Q hQ => ?_
  simp (disch := intros; contradiction) only [zS, vO_eq, simprocAttr]
  refine hQ (RG.nil ?_)
  simp only [zX]
  refine aw_reg 656 (RG.go fun Q hQ => ?_)
  simp (disch := intros; contradiction) only [zS, simprocAttr]
  refine hQ (RG.nil ?_)
  simp only [zX]
  refine aw_cond _ rfl trivial (fun ht => by cases ht) (fun hf => ?_)
  simp only [zX]
  refine aw_draw 720 (RG.go fun Q hQ => ?_)
  simp (disch := intros; contradiction) only [zS, simprocAttr]
  refine hQ ?_
  refine RG.call [240, 241] (volume_Len_con { v with floor := c.at' }) (by (repeat' (first | exact tr_nil | refine tr_cons ?_ ?_ | exact tr_agg (by (repeat' (first | exact trivial | rfl | (refine ⟨by simp, _, _, _, rfl, ?_⟩; (first | exact drows_nrow _ | exact drows_wrow _)) | refine ⟨?_, ?_⟩)))))) (by repeat' (first | exact trivial | refine views1 rfl ?_)) (by (exact .inl trivial)) ?_
  refine RG.go fun Q hQ => ?_
  simp (disch := intros; contradiction) only [zS, simprocAttr]
  refine hQ (RG.nil ⟨by decide +kernel, ?_⟩)
  simp only [zX]
  refine Fin.data [240, 241] (.inr rfl) rfl (by (exact ⟨trivial, trivial, trivial⟩)) ?_
  simp only [zL, simprocAttr]
  all_goals ((repeat' (first | exact trivial | rfl | (refine ⟨⟨_, _, rfl⟩, ?_⟩; (first | exact drows_nrow _ | exact drows_wrow _)) | refine ⟨?_, ?_⟩)))

theorem Do_pin_no (v : VOL) (c : CMD) (ok : Vok v) (hk : c.kind = 4) (h : v.hid = false) (e : Int) (he : timeE v.floor c.at' (lenV v) = e) (he0 : e ≠ 0) : Con Try.prog 18 [.agg (volC v), .agg (cmdC c)] [] (doR (fail v e)) [] := by
  have k2 : (c.kind == 2) = false := by rw [hk]; rfl
  have k3 : (c.kind == 3) = false := by rw [hk]; rfl
  have k4 : (c.kind == 4) = true := by rw [hk]; rfl
  have k5 : (c.kind == 5) = false := by rw [hk]; rfl
  have k6 : (c.kind == 6) = false := by rw [hk]; rfl
  have k7 : (c.kind == 7) = false := by rw [hk]; rfl
  have k8 : (c.kind == 8) = false := by rw [hk]; rfl
  refine C_volume_Do (Nat.le_of_ble_eq_true rfl) (Nat.le_of_ble_eq_true rfl) ?_
  simp only [A_volume_Do, argL, objL, List.length_nil, Nat.zero_add, zX]
  refine aw_reg 16 (RG.go fun Q hQ => ?_)
  simp (disch := intros; contradiction) only [zS, vC_eq, cmdC, cC, simprocAttr]
  refine hQ (RG.nil ?_)
  simp only [zX]
  refine aw_reg 112 (RG.go fun Q hQ => ?_)
  simp (disch := intros; contradiction) only [zS, simprocAttr]
  refine hQ ?_
  refine RG.callo [] [] (volume_copied_con v ok) (.mk (by (repeat' (first | exact tr_nil | refine tr_cons ?_ ?_ | exact tr_agg (by repeat' (first | exact trivial | rfl | refine ⟨?_, ?_⟩))))) (by first | trivial | (simp only [zT, simprocAttr]; done) | (simp only [zT, simprocAttr]; trivial) | (simp only [zT, simprocAttr]; repeat' (fail))) (by simp) (by simp) (trivial) (by first | (simp [lkE_cons, lkE_nil]; done) | (intro j hj; simp at hj; simp only [lkE_cons, lkE_nil]; repeat rw [if_neg (by omega)])) (by first | (simp [Ent.pure]; done) | (simp [Ent.pure]; repeat' (first | (first | exact drows_nrow _ | exact drows_wrow _) | refine ⟨?_, ?_⟩))) (by simp) (by simp)) ?_
  refine RG.go fun Q hQ => ?_
  simp (disch := intros; contradiction) only [zS, simprocAttr]
  refine hQ (RG.nil ?_)
  simp only [zX]
  refine aw_reg 224 (RG.go fun Q hQ => ?_)
  simp (disch := intros; contradiction) only [zS, simprocAttr]
  refine hQ ?_
  refine RG.callo [] [] (volume_copied_con v ok) (.mk (by (repeat' (first | exact tr_nil | refine tr_cons ?_ ?_ | exact tr_agg (by repeat' (first | exact trivial | rfl | refine ⟨?_, ?_⟩))))) (by first | trivial | (simp only [zT, simprocAttr]; done) | (simp only [zT, simprocAttr]; trivial) | (simp only [zT, simprocAttr]; repeat' (fail))) (by simp) (by simp) (trivial) (by first | (simp [lkE_cons, lkE_nil]; done) | (intro j hj; simp at hj; simp only [lkE_cons, lkE_nil]; repeat rw [if_neg (by omega)])) (by first | (simp [Ent.pure]; done) | (simp [Ent.pure]; repeat' (first | (first | exact drows_nrow _ | exact drows_wrow _) | refine ⟨?_, ?_⟩))) (by simp) (by simp)) ?_
  refine RG.go fun Q hQ => ?_
  simp (disch := intros; contradiction) only [zS, simprocAttr]
  refine hQ (RG.nil ?_)
  simp only [zX]
  refine aw_reg 304 (RG.go fun Q hQ => ?_)
  simp (disch := intros; contradiction) only [zS, simprocAttr]
  refine hQ (RG.nil ?_)
  simp only [zX]
  refine aw_reg 368 (RG.go fun Q hQ => ?_)
  simp (disch := intros; contradiction) only [zS, k2, simprocAttr]
  refine hQ (RG.nil ?_)
  simp only [zX]
  refine aw_cond _ rfl trivial (fun ht => by cases ht) (fun hf => ?_)
  simp only [zX]
  refine aw_reg 432 (RG.go fun Q hQ => ?_)
  simp (disch := intros; contradiction) only [zS, k3, simprocAttr]
  refine hQ (RG.nil ?_)
  simp only [zX]
  refine aw_cond _ rfl trivial (fun ht => by cases ht) (fun hf => ?_)
  simp only [zX]
  refine aw_reg 496 (RG.go fun Q hQ => ?_)
  simp (disch := intros; contradiction) only [zS, k4, simprocAttr]
  refine hQ (RG.nil ?_)
  simp only [zX]
  refine aw_cond _ rfl trivial (fun ht => ?_) (fun hf => by cases hf)
  simp only [zX]
  refine aw_cond _ rfl trivial (fun ht => ?_) (fun hf => by cases hf)
  refine aw_reg 560 (RG.go fun Q hQ => ?_)
  simp (disch := intros; contradiction) only [zS, simprocAttr]
  refine hQ ?_
  refine RG.callo [240, 241] [] (pin_no v c e h hk he he0) (.mk (by (repeat' (first | exact tr_nil | refine tr_cons ?_ ?_ | exact tr_agg (by repeat' (first | exact trivial | rfl | refine ⟨?_, ?_⟩))))) (by first | trivial | (simp only [zT, simprocAttr]; done) | (simp only [zT, simprocAttr]; trivial) | (simp only [zT, simprocAttr]; repeat' (first | (first | exact drows_nrow _ | exact drows_wrow _) | refine ⟨?_, ?_⟩))) (by simp) (by simp) (trivial) (by first | (simp [lkE_cons, lkE_nil]; done) | (intro j hj; simp at hj; simp only [setEs, setE_cons, setE_nil, lkE_cons, lkE_nil]; repeat rw [if_neg (by omega)])) (by first | (simp [Ent.pure]; done) | (simp [Ent.pure]; repeat' (first | (first | exact drows_nrow _ | exact drows_wrow _) | refine ⟨?_, ?_⟩))) (by simp) (by simp)) ?_
  refine RG.go fun Q hQ => ?_
  simp (disch := intros; contradiction) only [zS, vO_eq, simprocAttr]
  refine hQ (RG.nil ?_)
  simp only [zX]
  refine aw_reg 720 (RG.go fun Q hQ => ?_)
  simp (disch := intros; contradiction) only [zS, simprocAttr]
  refine hQ (RG.nil ?_)
  simp only [zX]
  refine aw_cond _ rfl trivial (fun ht => ?_) (fun hf => by simp at hf; exact absurd hf he0)
  simp only [zX]
  refine aw_reg 784 (RG.go fun Q hQ => ?_)
  simp (disch := intros; contradiction) only [zS, simprocAttr]
  refine hQ (RG.nil ?_)
  simp only [zX]
  refine Fin.data [128, 129] (.inr rfl) rfl (by (exact ⟨trivial, trivial, trivial⟩)) ?_
  simp only [zL, simprocAttr]
  all_goals ((repeat' (first | exact trivial | rfl | (refine ⟨⟨_, _, rfl⟩, ?_⟩; (first | exact drows_nrow _ | exact drows_wrow _)) | refine ⟨?_, ?_⟩)))

theorem Do_pin_yes (v : VOL) (c : CMD) (ok : Vok v) (hk : c.kind = 4) (hp : v.pins.length < 60000) (h : v.hid = false) (he : timeE v.floor c.at' (lenV v) = 0) : Con Try.prog 18 [.agg (volC v), .agg (cmdC c)] [] (doR (done { v with pins := isort (v.pins ++ [c.at']) })) [] := by
  have k2 : (c.kind == 2) = false := by rw [hk]; rfl
  have k3 : (c.kind == 3) = false := by rw [hk]; rfl
  have k4 : (c.kind == 4) = true := by rw [hk]; rfl
  have k5 : (c.kind == 5) = false := by rw [hk]; rfl
  have k6 : (c.kind == 6) = false := by rw [hk]; rfl
  have k7 : (c.kind == 7) = false := by rw [hk]; rfl
  have k8 : (c.kind == 8) = false := by rw [hk]; rfl
  refine C_volume_Do (Nat.le_of_ble_eq_true rfl) (Nat.le_of_ble_eq_true rfl) ?_
  simp only [A_volume_Do, argL, objL, List.length_nil, Nat.zero_add, zX]
  refine aw_reg 16 (RG.go fun Q hQ => ?_)
  simp (disch := intros; contradiction) only [zS, vC_eq, cmdC, cC, simprocAttr]
  refine hQ (RG.nil ?_)
  simp only [zX]
  refine aw_reg 112 (RG.go fun Q hQ => ?_)
  simp (disch := intros; contradiction) only [zS, simprocAttr]
  refine hQ ?_
  refine RG.callo [] [] (volume_copied_con v ok) (.mk (by (repeat' (first | exact tr_nil | refine tr_cons ?_ ?_ | exact tr_agg (by repeat' (first | exact trivial | rfl | refine ⟨?_, ?_⟩))))) (by first | trivial | (simp only [zT, simprocAttr]; done) | (simp only [zT, simprocAttr]; trivial) | (simp only [zT, simprocAttr]; repeat' (fail))) (by simp) (by simp) (trivial) (by first | (simp [lkE_cons, lkE_nil]; done) | (intro j hj; simp at hj; simp only [lkE_cons, lkE_nil]; repeat rw [if_neg (by omega)])) (by first | (simp [Ent.pure]; done) | (simp [Ent.pure]; repeat' (first | (first | exact drows_nrow _ | exact drows_wrow _) | refine ⟨?_, ?_⟩))) (by simp) (by simp)) ?_
  refine RG.go fun Q hQ => ?_
  simp (disch := intros; contradiction) only [zS, simprocAttr]
  refine hQ (RG.nil ?_)
  simp only [zX]
  refine aw_reg 224 (RG.go fun Q hQ => ?_)
  simp (disch := intros; contradiction) only [zS, simprocAttr]
  refine hQ ?_
  refine RG.callo [] [] (volume_copied_con v ok) (.mk (by (repeat' (first | exact tr_nil | refine tr_cons ?_ ?_ | exact tr_agg (by repeat' (first | exact trivial | rfl | refine ⟨?_, ?_⟩))))) (by first | trivial | (simp only [zT, simprocAttr]; done) | (simp only [zT, simprocAttr]; trivial) | (simp only [zT, simprocAttr]; repeat' (fail))) (by simp) (by simp) (trivial) (by first | (simp [lkE_cons, lkE_nil]; done) | (intro j hj; simp at hj; simp only [lkE_cons, lkE_nil]; repeat rw [if_neg (by omega)])) (by first | (simp [Ent.pure]; done) | (simp [Ent.pure]; repeat' (first | (first | exact drows_nrow _ | exact drows_wrow _) | refine ⟨?_, ?_⟩))) (by simp) (by simp)) ?_
  refine RG.go fun Q hQ => ?_
  simp (disch := intros; contradiction) only [zS, simprocAttr]
  refine hQ (RG.nil ?_)
  simp only [zX]
  refine aw_reg 304 (RG.go fun Q hQ => ?_)
  simp (disch := intros; contradiction) only [zS, simprocAttr]
  refine hQ (RG.nil ?_)
  simp only [zX]
  refine aw_reg 368 (RG.go fun Q hQ => ?_)
  simp (disch := intros; contradiction) only [zS, k2, simprocAttr]
  refine hQ (RG.nil ?_)
  simp only [zX]
  refine aw_cond _ rfl trivial (fun ht => by cases ht) (fun hf => ?_)
  simp only [zX]
  refine aw_reg 432 (RG.go fun Q hQ => ?_)
  simp (disch := intros; contradiction) only [zS, k3, simprocAttr]
  refine hQ (RG.nil ?_)
  simp only [zX]
  refine aw_cond _ rfl trivial (fun ht => by cases ht) (fun hf => ?_)
  simp only [zX]
  refine aw_reg 496 (RG.go fun Q hQ => ?_)
  simp (disch := intros; contradiction) only [zS, k4, simprocAttr]
  refine hQ (RG.nil ?_)
  simp only [zX]
  refine aw_cond _ rfl trivial (fun ht => ?_) (fun hf => by cases hf)
  simp only [zX]
  refine aw_cond _ rfl trivial (fun ht => ?_) (fun hf => by cases hf)
  refine aw_reg 560 (RG.go fun Q hQ => ?_)
  simp (disch := intros; contradiction) only [zS, simprocAttr]
  refine hQ ?_
  refine RG.callo [240, 241] [] (pin_yes v c hp h hk he) (.mk (by (repeat' (first | exact tr_nil | refine tr_cons ?_ ?_ | exact tr_agg (by repeat' (first | exact trivial | rfl | refine ⟨?_, ?_⟩))))) (by first | trivial | (simp only [zT, simprocAttr]; done) | (simp only [zT, simprocAttr]; trivial) | (simp only [zT, simprocAttr]; repeat' (first | (first | exact drows_nrow _ | exact drows_wrow _) | refine ⟨?_, ?_⟩))) (by simp) (by simp) (trivial) (by first | (simp [lkE_cons, lkE_nil]; done) | (intro j hj; simp at hj; simp only [setEs, setE_cons, setE_nil, lkE_cons, lkE_nil]; repeat rw [if_neg (by omega)])) (by first | (simp [Ent.pure]; done) | (simp [Ent.pure]; repeat' (first | (first | exact drows_nrow _ | exact drows_wrow _) | refine ⟨?_, ?_⟩))) (by simp) (by simp)) ?_
  refine RG.go fun Q hQ => ?_
  simp (disch := intros; contradiction) only [zS, vO_eq, simprocAttr]
  refine hQ (RG.nil ?_)
  simp only [zX]
  refine aw_reg 720 (RG.go fun Q hQ => ?_)
  simp (disch := intros; contradiction) only [zS, simprocAttr]
  refine hQ (RG.nil ?_)
  simp only [zX]
  refine aw_cond _ rfl trivial (fun ht => by cases ht) (fun hf => ?_)
  simp only [zX]
  refine aw_draw 784 (RG.go fun Q hQ => ?_)
  simp (disch := intros; contradiction) only [zS, simprocAttr]
  refine hQ ?_
  refine RG.call [592, 241] (volume_Len_con { v with pins := isort (v.pins ++ [c.at']) }) (by (repeat' (first | exact tr_nil | refine tr_cons ?_ ?_ | exact tr_agg (by (repeat' (first | exact trivial | rfl | (refine ⟨by simp, _, _, _, rfl, ?_⟩; (first | exact drows_nrow _ | exact drows_wrow _)) | refine ⟨?_, ?_⟩)))))) (by repeat' (first | exact trivial | refine views1 rfl ?_)) (by (exact .inl trivial)) ?_
  refine RG.go fun Q hQ => ?_
  simp (disch := intros; contradiction) only [zS, simprocAttr]
  refine hQ (RG.nil ⟨by decide +kernel, ?_⟩)
  simp only [zX]
  refine Fin.data [592, 241] (.inr rfl) rfl (by (exact ⟨trivial, trivial, trivial⟩)) ?_
  simp only [zL, simprocAttr]
  all_goals ((repeat' (first | exact trivial | rfl | (refine ⟨⟨_, _, rfl⟩, ?_⟩; (first | exact drows_nrow _ | exact drows_wrow _)) | refine ⟨?_, ?_⟩)))

theorem Do_unpin_no (v : VOL) (c : CMD) (ok : Vok v) (hk : c.kind = 5) (h : v.hid = false) (hn : ∀ i (hi : i < v.pins.length), v.pins[i] ≠ c.at') : Con Try.prog 18 [.agg (volC v), .agg (cmdC c)] [] (doR (fail v 28)) [] := by
  have k2 : (c.kind == 2) = false := by rw [hk]; rfl
  have k3 : (c.kind == 3) = false := by rw [hk]; rfl
  have k4 : (c.kind == 4) = false := by rw [hk]; rfl
  have k5 : (c.kind == 5) = true := by rw [hk]; rfl
  have k6 : (c.kind == 6) = false := by rw [hk]; rfl
  have k7 : (c.kind == 7) = false := by rw [hk]; rfl
  have k8 : (c.kind == 8) = false := by rw [hk]; rfl
  refine C_volume_Do (Nat.le_of_ble_eq_true rfl) (Nat.le_of_ble_eq_true rfl) ?_
  simp only [A_volume_Do, argL, objL, List.length_nil, Nat.zero_add, zX]
  refine aw_reg 16 (RG.go fun Q hQ => ?_)
  simp (disch := intros; contradiction) only [zS, vC_eq, cmdC, cC, simprocAttr]
  refine hQ (RG.nil ?_)
  simp only [zX]
  refine aw_reg 112 (RG.go fun Q hQ => ?_)
  simp (disch := intros; contradiction) only [zS, simprocAttr]
  refine hQ ?_
  refine RG.callo [] [] (volume_copied_con v ok) (.mk (by (repeat' (first | exact tr_nil | refine tr_cons ?_ ?_ | exact tr_agg (by repeat' (first | exact trivial | rfl | refine ⟨?_, ?_⟩))))) (by first | trivial | (simp only [zT, simprocAttr]; done) | (simp only [zT, simprocAttr]; trivial) | (simp only [zT, simprocAttr]; repeat' (fail))) (by simp) (by simp) (trivial) (by first | (simp [lkE_cons, lkE_nil]; done) | (intro j hj; simp at hj; simp only [lkE_cons, lkE_nil]; repeat rw [if_neg (by omega)])) (by first | (simp [Ent.pure]; done) | (simp [Ent.pure]; repeat' (first | (first | exact drows_nrow _ | exact drows_wrow _) | refine ⟨?_, ?_⟩))) (by simp) (by simp)) ?_
  refine RG.go fun Q hQ => ?_
  simp (disch := intros; contradiction) only [zS, simprocAttr]
  refine hQ (RG.nil ?_)
  simp only [zX]
  refine aw_reg 224 (RG.go fun Q hQ => ?_)
  simp (disch := intros; contradiction) only [zS, simprocAttr]
  refine hQ ?_
  refine RG.callo [] [] (volume_copied_con v ok) (.mk (by (repeat' (first | exact tr_nil | refine tr_cons ?_ ?_ | exact tr_agg (by repeat' (first | exact trivial | rfl | refine ⟨?_, ?_⟩))))) (by first | trivial | (simp only [zT, simprocAttr]; done) | (simp only [zT, simprocAttr]; trivial) | (simp only [zT, simprocAttr]; repeat' (fail))) (by simp) (by simp) (trivial) (by first | (simp [lkE_cons, lkE_nil]; done) | (intro j hj; simp at hj; simp only [lkE_cons, lkE_nil]; repeat rw [if_neg (by omega)])) (by first | (simp [Ent.pure]; done) | (simp [Ent.pure]; repeat' (first | (first | exact drows_nrow _ | exact drows_wrow _) | refine ⟨?_, ?_⟩))) (by simp) (by simp)) ?_
  refine RG.go fun Q hQ => ?_
  simp (disch := intros; contradiction) only [zS, simprocAttr]
  refine hQ (RG.nil ?_)
  simp only [zX]
  refine aw_reg 304 (RG.go fun Q hQ => ?_)
  simp (disch := intros; contradiction) only [zS, simprocAttr]
  refine hQ (RG.nil ?_)
  simp only [zX]
  refine aw_reg 368 (RG.go fun Q hQ => ?_)
  simp (disch := intros; contradiction) only [zS, k2, simprocAttr]
  refine hQ (RG.nil ?_)
  simp only [zX]
  refine aw_cond _ rfl trivial (fun ht => by cases ht) (fun hf => ?_)
  simp only [zX]
  refine aw_reg 432 (RG.go fun Q hQ => ?_)
  simp (disch := intros; contradiction) only [zS, k3, simprocAttr]
  refine hQ (RG.nil ?_)
  simp only [zX]
  refine aw_cond _ rfl trivial (fun ht => by cases ht) (fun hf => ?_)
  simp only [zX]
  refine aw_reg 496 (RG.go fun Q hQ => ?_)
  simp (disch := intros; contradiction) only [zS, k4, simprocAttr]
  refine hQ (RG.nil ?_)
  simp only [zX]
  refine aw_cond _ rfl trivial (fun ht => by cases ht) (fun hf => ?_)
  refine aw_reg 560 (RG.go fun Q hQ => ?_)
  simp (disch := intros; contradiction) only [zS, k5, simprocAttr]
  refine hQ (RG.nil ?_)
  simp only [zX]
  refine aw_cond _ rfl trivial (fun ht => ?_) (fun hf => by cases hf)
  refine aw_reg 624 (RG.go fun Q hQ => ?_)
  simp (disch := intros; contradiction) only [zS, simprocAttr]
  refine hQ ?_
  refine RG.callo [240, 241] [] (unpin_no v c ok h hk hn) (.mk (by (repeat' (first | exact tr_nil | refine tr_cons ?_ ?_ | exact tr_agg (by repeat' (first | exact trivial | rfl | refine ⟨?_, ?_⟩))))) (by first | trivial | (simp only [zT, simprocAttr]; done) | (simp only [zT, simprocAttr]; trivial) | (simp only [zT, simprocAttr]; repeat' (first | (first | exact drows_nrow _ | exact drows_wrow _) | refine ⟨?_, ?_⟩))) (by simp) (by simp) (trivial) (by first | (simp [lkE_cons, lkE_nil]; done) | (intro j hj; simp at hj; simp only [setEs, setE_cons, setE_nil, lkE_cons, lkE_nil]; repeat rw [if_neg (by omega)])) (by first | (simp [Ent.pure]; done) | (simp [Ent.pure]; repeat' (first | (first | exact drows_nrow _ | exact drows_wrow _) | refine ⟨?_, ?_⟩))) (by simp) (by simp)) ?_
  refine RG.go fun Q hQ => ?_
  simp (disch := intros; contradiction) only [zS, vO_eq, simprocAttr]
  refine hQ (RG.nil ?_)
  simp only [zX]
  refine aw_reg 784 (RG.go fun Q hQ => ?_)
  simp (disch := intros; contradiction) only [zS, simprocAttr]
  refine hQ (RG.nil ?_)
  simp only [zX]
  refine aw_cond _ rfl trivial (fun ht => ?_) (fun hf => by cases hf)
  simp only [zX]
  refine aw_reg 848 (RG.go fun Q hQ => ?_)
  simp (disch := intros; contradiction) only [zS, simprocAttr]
  refine hQ (RG.nil ?_)
  simp only [zX]
  refine Fin.data [128, 129] (.inr rfl) rfl (by (exact ⟨trivial, trivial, trivial⟩)) ?_
  simp only [zL, simprocAttr]
  all_goals ((repeat' (first | exact trivial | rfl | (refine ⟨⟨_, _, rfl⟩, ?_⟩; (first | exact drows_nrow _ | exact drows_wrow _)) | refine ⟨?_, ?_⟩)))

theorem Do_unpin_yes (v : VOL) (c : CMD) (ok : Vok v) (hk : c.kind = 5) (h : v.hid = false) (k : Nat) (hkl : k < v.pins.length) (hkt : v.pins[k] = c.at') (hn : ∀ i (hi : i < v.pins.length), i < k → v.pins[i] ≠ c.at') (P : List Int) (hP : v.pins.take k ++ v.pins.drop (k + 1) = P) : Con Try.prog 18 [.agg (volC v), .agg (cmdC c)] [] (doR (done { v with pins := P })) [] := by
  have k2 : (c.kind == 2) = false := by rw [hk]; rfl
  have k3 : (c.kind == 3) = false := by rw [hk]; rfl
  have k4 : (c.kind == 4) = false := by rw [hk]; rfl
  have k5 : (c.kind == 5) = true := by rw [hk]; rfl
  have k6 : (c.kind == 6) = false := by rw [hk]; rfl
  have k7 : (c.kind == 7) = false := by rw [hk]; rfl
  have k8 : (c.kind == 8) = false := by rw [hk]; rfl
  refine C_volume_Do (Nat.le_of_ble_eq_true rfl) (Nat.le_of_ble_eq_true rfl) ?_
  simp only [A_volume_Do, argL, objL, List.length_nil, Nat.zero_add, zX]
  refine aw_reg 16 (RG.go fun Q hQ => ?_)
  simp (disch := intros; contradiction) only [zS, vC_eq, cmdC, cC, simprocAttr]
  refine hQ (RG.nil ?_)
  simp only [zX]
  refine aw_reg 112 (RG.go fun Q hQ => ?_)
  simp (disch := intros; contradiction) only [zS, simprocAttr]
  refine hQ ?_
  refine RG.callo [] [] (volume_copied_con v ok) (.mk (by (repeat' (first | exact tr_nil | refine tr_cons ?_ ?_ | exact tr_agg (by repeat' (first | exact trivial | rfl | refine ⟨?_, ?_⟩))))) (by first | trivial | (simp only [zT, simprocAttr]; done) | (simp only [zT, simprocAttr]; trivial) | (simp only [zT, simprocAttr]; repeat' (fail))) (by simp) (by simp) (trivial) (by first | (simp [lkE_cons, lkE_nil]; done) | (intro j hj; simp at hj; simp only [lkE_cons, lkE_nil]; repeat rw [if_neg (by omega)])) (by first | (simp [Ent.pure]; done) | (simp [Ent.pure]; repeat' (first | (first | exact drows_nrow _ | exact drows_wrow _) | refine ⟨?_, ?_⟩))) (by simp) (by simp)) ?_
  refine RG.go fun Q hQ => ?_
  simp (disch := intros; contradiction) only [zS, simprocAttr]
  refine hQ (RG.nil ?_)
  simp only [zX]
  refine aw_reg 224 (RG.go fun Q hQ => ?_)
  simp (disch := intros; contradiction) only [zS, simprocAttr]
  refine hQ ?_
  refine RG.callo [] [] (volume_copied_con v ok) (.mk (by (repeat' (first | exact tr_nil | refine tr_cons ?_ ?_ | exact tr_agg (by repeat' (first | exact trivial | rfl | refine ⟨?_, ?_⟩))))) (by first | trivial | (simp only [zT, simprocAttr]; done) | (simp only [zT, simprocAttr]; trivial) | (simp only [zT, simprocAttr]; repeat' (fail))) (by simp) (by simp) (trivial) (by first | (simp [lkE_cons, lkE_nil]; done) | (intro j hj; simp at hj; simp only [lkE_cons, lkE_nil]; repeat rw [if_neg (by omega)])) (by first | (simp [Ent.pure]; done) | (simp [Ent.pure]; repeat' (first | (first | exact drows_nrow _ | exact drows_wrow _) | refine ⟨?_, ?_⟩))) (by simp) (by simp)) ?_
  refine RG.go fun Q hQ => ?_
  simp (disch := intros; contradiction) only [zS, simprocAttr]
  refine hQ (RG.nil ?_)
  simp only [zX]
  refine aw_reg 304 (RG.go fun Q hQ => ?_)
  simp (disch := intros; contradiction) only [zS, simprocAttr]
  refine hQ (RG.nil ?_)
  simp only [zX]
  refine aw_reg 368 (RG.go fun Q hQ => ?_)
  simp (disch := intros; contradiction) only [zS, k2, simprocAttr]
  refine hQ (RG.nil ?_)
  simp only [zX]
  refine aw_cond _ rfl trivial (fun ht => by cases ht) (fun hf => ?_)
  simp only [zX]
  refine aw_reg 432 (RG.go fun Q hQ => ?_)
  simp (disch := intros; contradiction) only [zS, k3, simprocAttr]
  refine hQ (RG.nil ?_)
  simp only [zX]
  refine aw_cond _ rfl trivial (fun ht => by cases ht) (fun hf => ?_)
  simp only [zX]
  refine aw_reg 496 (RG.go fun Q hQ => ?_)
  simp (disch := intros; contradiction) only [zS, k4, simprocAttr]
  refine hQ (RG.nil ?_)
  simp only [zX]
  refine aw_cond _ rfl trivial (fun ht => by cases ht) (fun hf => ?_)
  refine aw_reg 560 (RG.go fun Q hQ => ?_)
  simp (disch := intros; contradiction) only [zS, k5, simprocAttr]
  refine hQ (RG.nil ?_)
  simp only [zX]
  refine aw_cond _ rfl trivial (fun ht => ?_) (fun hf => by cases hf)
  refine aw_reg 624 (RG.go fun Q hQ => ?_)
  simp (disch := intros; contradiction) only [zS, simprocAttr]
  refine hQ ?_
  refine RG.callo [240, 241] [] (unpin_yes v c ok h hk k hkl hkt hn P hP) (.mk (by (repeat' (first | exact tr_nil | refine tr_cons ?_ ?_ | exact tr_agg (by repeat' (first | exact trivial | rfl | refine ⟨?_, ?_⟩))))) (by first | trivial | (simp only [zT, simprocAttr]; done) | (simp only [zT, simprocAttr]; trivial) | (simp only [zT, simprocAttr]; repeat' (first | (first | exact drows_nrow _ | exact drows_wrow _) | refine ⟨?_, ?_⟩))) (by simp) (by simp) (trivial) (by first | (simp [lkE_cons, lkE_nil]; done) | (intro j hj; simp at hj; simp only [setEs, setE_cons, setE_nil, lkE_cons, lkE_nil]; repeat rw [if_neg (by omega)])) (by first | (simp [Ent.pure]; done) | (simp [Ent.pure]; repeat' (first | (first | exact drows_nrow _ | exact drows_wrow _) | refine ⟨?_, ?_⟩))) (by simp) (by simp)) ?_
  refine RG.go fun Q hQ => ?_
  simp (disch := intros; contradiction) only [zS, vO_eq, simprocAttr]
  refine hQ (RG.nil ?_)
  simp only [zX]
  refine aw_reg 784 (RG.go fun Q hQ => ?_)
  simp (disch := intros; contradiction) only [zS, simprocAttr]
  refine hQ (RG.nil ?_)
  simp only [zX]
  refine aw_cond _ rfl trivial (fun ht => by cases ht) (fun hf => ?_)
  simp only [zX]
  refine aw_draw 848 (RG.go fun Q hQ => ?_)
  simp (disch := intros; contradiction) only [zS, simprocAttr]
  refine hQ ?_
  refine RG.call [656, 241] (volume_Len_con { v with pins := P }) (by (repeat' (first | exact tr_nil | refine tr_cons ?_ ?_ | exact tr_agg (by (repeat' (first | exact trivial | rfl | (refine ⟨by simp, _, _, _, rfl, ?_⟩; (first | exact drows_nrow _ | exact drows_wrow _)) | refine ⟨?_, ?_⟩)))))) (by repeat' (first | exact trivial | refine views1 rfl ?_)) (by (exact .inl trivial)) ?_
  refine RG.go fun Q hQ => ?_
  simp (disch := intros; contradiction) only [zS, simprocAttr]
  refine hQ (RG.nil ⟨by decide +kernel, ?_⟩)
  simp only [zX]
  refine Fin.data [656, 241] (.inr rfl) rfl (by (exact ⟨trivial, trivial, trivial⟩)) ?_
  simp only [zL, simprocAttr]
  all_goals ((repeat' (first | exact trivial | rfl | (refine ⟨⟨_, _, rfl⟩, ?_⟩; (first | exact drows_nrow _ | exact drows_wrow _)) | refine ⟨?_, ?_⟩)))

theorem Do_imp6_no (v : VOL) (c : CMD) (ok : Vok v) (hk : c.kind = 6) (hl : c.items.length ≤ 1000000) (hd : ∀ x ∈ c.items, x.d.length ≤ 1000000) (w : VOL) (e : Int) (h : impS v c = some (w, e)) (he0 : e ≠ 0) : Con Try.prog 18 [.agg (volC v), .agg (cmdC c)] [] (doR (fail v e)) [] := by
  have k2 : (c.kind == 2) = false := by rw [hk]; rfl
  have k3 : (c.kind == 3) = false := by rw [hk]; rfl
  have k4 : (c.kind == 4) = false := by rw [hk]; rfl
  have k5 : (c.kind == 5) = false := by rw [hk]; rfl
  have k6 : (c.kind == 6) = true := by rw [hk]; rfl
  have k7 : (c.kind == 7) = false := by rw [hk]; rfl
  have k8 : (c.kind == 8) = false := by rw [hk]; rfl
  refine C_volume_Do (Nat.le_of_ble_eq_true rfl) (Nat.le_of_ble_eq_true rfl) ?_
  simp only [A_volume_Do, argL, objL, List.length_nil, Nat.zero_add, zX]
  refine aw_reg 16 (RG.go fun Q hQ => ?_)
  simp (disch := intros; contradiction) only [zS, vC_eq, cmdC, cC, simprocAttr]
  refine hQ (RG.nil ?_)
  simp only [zX]
  refine aw_reg 112 (RG.go fun Q hQ => ?_)
  simp (disch := intros; contradiction) only [zS, simprocAttr]
  refine hQ ?_
  refine RG.callo [] [] (volume_copied_con v ok) (.mk (by (repeat' (first | exact tr_nil | refine tr_cons ?_ ?_ | exact tr_agg (by repeat' (first | exact trivial | rfl | refine ⟨?_, ?_⟩))))) (by first | trivial | (simp only [zT, simprocAttr]; done) | (simp only [zT, simprocAttr]; trivial) | (simp only [zT, simprocAttr]; repeat' (fail))) (by simp) (by simp) (trivial) (by first | (simp [lkE_cons, lkE_nil]; done) | (intro j hj; simp at hj; simp only [lkE_cons, lkE_nil]; repeat rw [if_neg (by omega)])) (by first | (simp [Ent.pure]; done) | (simp [Ent.pure]; repeat' (first | (first | exact drows_nrow _ | exact drows_wrow _) | refine ⟨?_, ?_⟩))) (by simp) (by simp)) ?_
  refine RG.go fun Q hQ => ?_
  simp (disch := intros; contradiction) only [zS, simprocAttr]
  refine hQ (RG.nil ?_)
  simp only [zX]
  refine aw_reg 224 (RG.go fun Q hQ => ?_)
  simp (disch := intros; contradiction) only [zS, simprocAttr]
  refine hQ ?_
  refine RG.callo [] [] (volume_copied_con v ok) (.mk (by (repeat' (first | exact tr_nil | refine tr_cons ?_ ?_ | exact tr_agg (by repeat' (first | exact trivial | rfl | refine ⟨?_, ?_⟩))))) (by first | trivial | (simp only [zT, simprocAttr]; done) | (simp only [zT, simprocAttr]; trivial) | (simp only [zT, simprocAttr]; repeat' (fail))) (by simp) (by simp) (trivial) (by first | (simp [lkE_cons, lkE_nil]; done) | (intro j hj; simp at hj; simp only [lkE_cons, lkE_nil]; repeat rw [if_neg (by omega)])) (by first | (simp [Ent.pure]; done) | (simp [Ent.pure]; repeat' (first | (first | exact drows_nrow _ | exact drows_wrow _) | refine ⟨?_, ?_⟩))) (by simp) (by simp)) ?_
  refine RG.go fun Q hQ => ?_
  simp (disch := intros; contradiction) only [zS, simprocAttr]
  refine hQ (RG.nil ?_)
  simp only [zX]
  refine aw_reg 304 (RG.go fun Q hQ => ?_)
  simp (disch := intros; contradiction) only [zS, simprocAttr]
  refine hQ (RG.nil ?_)
  simp only [zX]
  refine aw_reg 368 (RG.go fun Q hQ => ?_)
  simp (disch := intros; contradiction) only [zS, k2, simprocAttr]
  refine hQ (RG.nil ?_)
  simp only [zX]
  refine aw_cond _ rfl trivial (fun ht => by cases ht) (fun hf => ?_)
  simp only [zX]
  refine aw_reg 432 (RG.go fun Q hQ => ?_)
  simp (disch := intros; contradiction) only [zS, k3, simprocAttr]
  refine hQ (RG.nil ?_)
  simp only [zX]
  refine aw_cond _ rfl trivial (fun ht => by cases ht) (fun hf => ?_)
  simp only [zX]
  refine aw_reg 496 (RG.go fun Q hQ => ?_)
  simp (disch := intros; contradiction) only [zS, k4, simprocAttr]
  refine hQ (RG.nil ?_)
  simp only [zX]
  refine aw_cond _ rfl trivial (fun ht => by cases ht) (fun hf => ?_)
  refine aw_reg 560 (RG.go fun Q hQ => ?_)
  simp (disch := intros; contradiction) only [zS, k5, simprocAttr]
  refine hQ (RG.nil ?_)
  simp only [zX]
  refine aw_cond _ rfl trivial (fun ht => by cases ht) (fun hf => ?_)
  simp only [zX]
  refine aw_reg 624 (RG.go fun Q hQ => ?_)
  simp (disch := intros; contradiction) only [zS, k6, simprocAttr]
  refine hQ (RG.nil ?_)
  simp only [zX]
  refine aw_cond _ rfl trivial (fun ht => ?_) (fun hf => by cases hf)
  simp only [zX]
  refine aw_cond _ rfl trivial (fun ht => ?_) (fun hf => by cases hf)
  refine aw_reg 688 (RG.go fun Q hQ => ?_)
  simp (disch := intros; contradiction) only [zS, simprocAttr]
  refine hQ ?_
  refine RG.callo [240, 241] [] (volume_imports_same v c ok hl hd w e h) (.mk (by (repeat' (first | exact tr_nil | refine tr_cons ?_ ?_ | exact tr_agg (by repeat' (first | exact trivial | rfl | refine ⟨?_, ?_⟩))))) (by first | trivial | (simp only [zT, simprocAttr]; done) | (simp only [zT, simprocAttr]; trivial) | (simp only [zT, simprocAttr]; repeat' (first | (first | exact drows_nrow _ | exact drows_wrow _) | refine ⟨?_, ?_⟩))) (by simp) (by simp) (trivial) (by first | (simp [lkE_cons, lkE_nil]; done) | (intro j hj; simp at hj; simp only [setEs, setE_cons, setE_nil, lkE_cons, lkE_nil]; repeat rw [if_neg (by omega)])) (by first | (simp [Ent.pure]; done) | (simp [Ent.pure]; repeat' (first | (first | exact drows_nrow _ | exact drows_wrow _) | refine ⟨?_, ?_⟩))) (by simp) (by simp)) ?_
  refine RG.go fun Q hQ => ?_
  simp (disch := intros; contradiction) only [zS, vO_eq, simprocAttr]
  refine hQ (RG.nil ?_)
  simp only [zX]
  refine aw_reg 848 (RG.go fun Q hQ => ?_)
  simp (disch := intros; contradiction) only [zS, simprocAttr]
  refine hQ (RG.nil ?_)
  simp only [zX]
  refine aw_cond _ rfl trivial (fun ht => ?_) (fun hf => by simp at hf; exact absurd hf he0)
  simp only [zX]
  refine aw_reg 912 (RG.go fun Q hQ => ?_)
  simp (disch := intros; contradiction) only [zS, simprocAttr]
  refine hQ (RG.nil ?_)
  simp only [zX]
  refine Fin.data [128, 129] (.inr rfl) rfl (by (exact ⟨trivial, trivial, trivial⟩)) ?_
  simp only [zL, simprocAttr]
  all_goals ((repeat' (first | exact trivial | rfl | (refine ⟨⟨_, _, rfl⟩, ?_⟩; (first | exact drows_nrow _ | exact drows_wrow _)) | refine ⟨?_, ?_⟩)))

theorem Do_imp6_same (v : VOL) (c : CMD) (ok : Vok v) (hk : c.kind = 6) (hl : c.items.length ≤ 1000000) (hd : ∀ x ∈ c.items, x.d.length ≤ 1000000) (h : impS v c = some (v, 0)) : Con Try.prog 18 [.agg (volC v), .agg (cmdC c)] [] (doR (done (v))) [] := by
  have k2 : (c.kind == 2) = false := by rw [hk]; rfl
  have k3 : (c.kind == 3) = false := by rw [hk]; rfl
  have k4 : (c.kind == 4) = false := by rw [hk]; rfl
  have k5 : (c.kind == 5) = false := by rw [hk]; rfl
  have k6 : (c.kind == 6) = true := by rw [hk]; rfl
  have k7 : (c.kind == 7) = false := by rw [hk]; rfl
  have k8 : (c.kind == 8) = false := by rw [hk]; rfl
  refine C_volume_Do (Nat.le_of_ble_eq_true rfl) (Nat.le_of_ble_eq_true rfl) ?_
  simp only [A_volume_Do, argL, objL, List.length_nil, Nat.zero_add, zX]
  refine aw_reg 16 (RG.go fun Q hQ => ?_)
  simp (disch := intros; contradiction) only [zS, vC_eq, cmdC, cC, simprocAttr]
  refine hQ (RG.nil ?_)
  simp only [zX]
  refine aw_reg 112 (RG.go fun Q hQ => ?_)
  simp (disch := intros; contradiction) only [zS, simprocAttr]
  refine hQ ?_
  refine RG.callo [] [] (volume_copied_con v ok) (.mk (by (repeat' (first | exact tr_nil | refine tr_cons ?_ ?_ | exact tr_agg (by repeat' (first | exact trivial | rfl | refine ⟨?_, ?_⟩))))) (by first | trivial | (simp only [zT, simprocAttr]; done) | (simp only [zT, simprocAttr]; trivial) | (simp only [zT, simprocAttr]; repeat' (fail))) (by simp) (by simp) (trivial) (by first | (simp [lkE_cons, lkE_nil]; done) | (intro j hj; simp at hj; simp only [lkE_cons, lkE_nil]; repeat rw [if_neg (by omega)])) (by first | (simp [Ent.pure]; done) | (simp [Ent.pure]; repeat' (first | (first | exact drows_nrow _ | exact drows_wrow _) | refine ⟨?_, ?_⟩))) (by simp) (by simp)) ?_
  refine RG.go fun Q hQ => ?_
  simp (disch := intros; contradiction) only [zS, simprocAttr]
  refine hQ (RG.nil ?_)
  simp only [zX]
  refine aw_reg 224 (RG.go fun Q hQ => ?_)
  simp (disch := intros; contradiction) only [zS, simprocAttr]
  refine hQ ?_
  refine RG.callo [] [] (volume_copied_con v ok) (.mk (by (repeat' (first | exact tr_nil | refine tr_cons ?_ ?_ | exact tr_agg (by repeat' (first | exact trivial | rfl | refine ⟨?_, ?_⟩))))) (by first | trivial | (simp only [zT, simprocAttr]; done) | (simp only [zT, simprocAttr]; trivial) | (simp only [zT, simprocAttr]; repeat' (fail))) (by simp) (by simp) (trivial) (by first | (simp [lkE_cons, lkE_nil]; done) | (intro j hj; simp at hj; simp only [lkE_cons, lkE_nil]; repeat rw [if_neg (by omega)])) (by first | (simp [Ent.pure]; done) | (simp [Ent.pure]; repeat' (first | (first | exact drows_nrow _ | exact drows_wrow _) | refine ⟨?_, ?_⟩))) (by simp) (by simp)) ?_
  refine RG.go fun Q hQ => ?_
  simp (disch := intros; contradiction) only [zS, simprocAttr]
  refine hQ (RG.nil ?_)
  simp only [zX]
  refine aw_reg 304 (RG.go fun Q hQ => ?_)
  simp (disch := intros; contradiction) only [zS, simprocAttr]
  refine hQ (RG.nil ?_)
  simp only [zX]
  refine aw_reg 368 (RG.go fun Q hQ => ?_)
  simp (disch := intros; contradiction) only [zS, k2, simprocAttr]
  refine hQ (RG.nil ?_)
  simp only [zX]
  refine aw_cond _ rfl trivial (fun ht => by cases ht) (fun hf => ?_)
  simp only [zX]
  refine aw_reg 432 (RG.go fun Q hQ => ?_)
  simp (disch := intros; contradiction) only [zS, k3, simprocAttr]
  refine hQ (RG.nil ?_)
  simp only [zX]
  refine aw_cond _ rfl trivial (fun ht => by cases ht) (fun hf => ?_)
  simp only [zX]
  refine aw_reg 496 (RG.go fun Q hQ => ?_)
  simp (disch := intros; contradiction) only [zS, k4, simprocAttr]
  refine hQ (RG.nil ?_)
  simp only [zX]
  refine aw_cond _ rfl trivial (fun ht => by cases ht) (fun hf => ?_)
  refine aw_reg 560 (RG.go fun Q hQ => ?_)
  simp (disch := intros; contradiction) only [zS, k5, simprocAttr]
  refine hQ (RG.nil ?_)
  simp only [zX]
  refine aw_cond _ rfl trivial (fun ht => by cases ht) (fun hf => ?_)
  simp only [zX]
  refine aw_reg 624 (RG.go fun Q hQ => ?_)
  simp (disch := intros; contradiction) only [zS, k6, simprocAttr]
  refine hQ (RG.nil ?_)
  simp only [zX]
  refine aw_cond _ rfl trivial (fun ht => ?_) (fun hf => by cases hf)
  simp only [zX]
  refine aw_cond _ rfl trivial (fun ht => ?_) (fun hf => by cases hf)
  refine aw_reg 688 (RG.go fun Q hQ => ?_)
  simp (disch := intros; contradiction) only [zS, simprocAttr]
  refine hQ ?_
  refine RG.callo [240, 241] [] (volume_imports_same v c ok hl hd _ 0 h) (.mk (by (repeat' (first | exact tr_nil | refine tr_cons ?_ ?_ | exact tr_agg (by repeat' (first | exact trivial | rfl | refine ⟨?_, ?_⟩))))) (by first | trivial | (simp only [zT, simprocAttr]; done) | (simp only [zT, simprocAttr]; trivial) | (simp only [zT, simprocAttr]; repeat' (first | (first | exact drows_nrow _ | exact drows_wrow _) | refine ⟨?_, ?_⟩))) (by simp) (by simp) (trivial) (by first | (simp [lkE_cons, lkE_nil]; done) | (intro j hj; simp at hj; simp only [setEs, setE_cons, setE_nil, lkE_cons, lkE_nil]; repeat rw [if_neg (by omega)])) (by first | (simp [Ent.pure]; done) | (simp [Ent.pure]; repeat' (first | (first | exact drows_nrow _ | exact drows_wrow _) | refine ⟨?_, ?_⟩))) (by simp) (by simp)) ?_
  refine RG.go fun Q hQ => ?_
  simp (disch := intros; contradiction) only [zS, vO_eq, simprocAttr]
  refine hQ (RG.nil ?_)
  simp only [zX]
  refine aw_reg 848 (RG.go fun Q hQ => ?_)
  simp (disch := intros; contradiction) only [zS, simprocAttr]
  refine hQ (RG.nil ?_)
  simp only [zX]
  refine aw_cond _ rfl trivial (fun ht => by cases ht) (fun hf => ?_)
  simp only [zX]
  refine aw_draw 912 (RG.go fun Q hQ => ?_)
  simp (disch := intros; contradiction) only [zS, simprocAttr]
  refine hQ ?_
  refine RG.call [240, 241] (volume_Len_con (v)) (by (repeat' (first | exact tr_nil | refine tr_cons ?_ ?_ | exact tr_agg (by (repeat' (first | exact trivial | rfl | (refine ⟨by simp, _, _, _, rfl, ?_⟩; (first | exact drows_nrow _ | exact drows_wrow _)) | refine ⟨?_, ?_⟩)))))) (by repeat' (first | exact trivial | refine views1 rfl ?_)) (by (exact .inl trivial)) ?_
  refine RG.go fun Q hQ => ?_
  simp (disch := intros; contradiction) only [zS, simprocAttr]
  refine hQ (RG.nil ⟨by decide +kernel, ?_⟩)
  simp only [zX]
  refine Fin.data [240, 241] (.inr rfl) rfl (by (exact ⟨trivial, trivial, trivial⟩)) ?_
  simp only [zL, simprocAttr]
  all_goals ((repeat' (first | exact trivial | rfl | (refine ⟨⟨_, _, rfl⟩, ?_⟩; (first | exact drows_nrow _ | exact drows_wrow _)) | refine ⟨?_, ?_⟩)))

theorem Do_imp6_write (v : VOL) (c : CMD) (ok : Vok v) (hk : c.kind = 6) (hl : c.items.length ≤ 1000000) (hd : ∀ x ∈ c.items, x.d.length ≤ 1000000) (hn : v.next ≤ 1099511627776 ∧ 0 ≤ v.next) (h : impS v c = none) : Con Try.prog 18 [.agg (volC v), .agg (cmdC c)] [] (doR (done (addN v c.items))) [] := by
  have k2 : (c.kind == 2) = false := by rw [hk]; rfl
  have k3 : (c.kind == 3) = false := by rw [hk]; rfl
  have k4 : (c.kind == 4) = false := by rw [hk]; rfl
  have k5 : (c.kind == 5) = false := by rw [hk]; rfl
  have k6 : (c.kind == 6) = true := by rw [hk]; rfl
  have k7 : (c.kind == 7) = false := by rw [hk]; rfl
  have k8 : (c.kind == 8) = false := by rw [hk]; rfl
  refine C_volume_Do (Nat.le_of_ble_eq_true rfl) (Nat.le_of_ble_eq_true rfl) ?_
  simp only [A_volume_Do, argL, objL, List.length_nil, Nat.zero_add, zX]
  refine aw_reg 16 (RG.go fun Q hQ => ?_)
  simp (disch := intros; contradiction) only [zS, vC_eq, cmdC, cC, simprocAttr]
  refine hQ (RG.nil ?_)
  simp only [zX]
  refine aw_reg 112 (RG.go fun Q hQ => ?_)
  simp (disch := intros; contradiction) only [zS, simprocAttr]
  refine hQ ?_
  refine RG.callo [] [] (volume_copied_con v ok) (.mk (by (repeat' (first | exact tr_nil | refine tr_cons ?_ ?_ | exact tr_agg (by repeat' (first | exact trivial | rfl | refine ⟨?_, ?_⟩))))) (by first | trivial | (simp only [zT, simprocAttr]; done) | (simp only [zT, simprocAttr]; trivial) | (simp only [zT, simprocAttr]; repeat' (fail))) (by simp) (by simp) (trivial) (by first | (simp [lkE_cons, lkE_nil]; done) | (intro j hj; simp at hj; simp only [lkE_cons, lkE_nil]; repeat rw [if_neg (by omega)])) (by first | (simp [Ent.pure]; done) | (simp [Ent.pure]; repeat' (first | (first | exact drows_nrow _ | exact drows_wrow _) | refine ⟨?_, ?_⟩))) (by simp) (by simp)) ?_
  refine RG.go fun Q hQ => ?_
  simp (disch := intros; contradiction) only [zS, simprocAttr]
  refine hQ (RG.nil ?_)
  simp only [zX]
  refine aw_reg 224 (RG.go fun Q hQ => ?_)
  simp (disch := intros; contradiction) only [zS, simprocAttr]
  refine hQ ?_
  refine RG.callo [] [] (volume_copied_con v ok) (.mk (by (repeat' (first | exact tr_nil | refine tr_cons ?_ ?_ | exact tr_agg (by repeat' (first | exact trivial | rfl | refine ⟨?_, ?_⟩))))) (by first | trivial | (simp only [zT, simprocAttr]; done) | (simp only [zT, simprocAttr]; trivial) | (simp only [zT, simprocAttr]; repeat' (fail))) (by simp) (by simp) (trivial) (by first | (simp [lkE_cons, lkE_nil]; done) | (intro j hj; simp at hj; simp only [lkE_cons, lkE_nil]; repeat rw [if_neg (by omega)])) (by first | (simp [Ent.pure]; done) | (simp [Ent.pure]; repeat' (first | (first | exact drows_nrow _ | exact drows_wrow _) | refine ⟨?_, ?_⟩))) (by simp) (by simp)) ?_
  refine RG.go fun Q hQ => ?_
  simp (disch := intros; contradiction) only [zS, simprocAttr]
  refine hQ (RG.nil ?_)
  simp only [zX]
  refine aw_reg 304 (RG.go fun Q hQ => ?_)
  simp (disch := intros; contradiction) only [zS, simprocAttr]
  refine hQ (RG.nil ?_)
  simp only [zX]
  refine aw_reg 368 (RG.go fun Q hQ => ?_)
  simp (disch := intros; contradiction) only [zS, k2, simprocAttr]
  refine hQ (RG.nil ?_)
  simp only [zX]
  refine aw_cond _ rfl trivial (fun ht => by cases ht) (fun hf => ?_)
  simp only [zX]
  refine aw_reg 432 (RG.go fun Q hQ => ?_)
  simp (disch := intros; contradiction) only [zS, k3, simprocAttr]
  refine hQ (RG.nil ?_)
  simp only [zX]
  refine aw_cond _ rfl trivial (fun ht => by cases ht) (fun hf => ?_)
  simp only [zX]
  refine aw_reg 496 (RG.go fun Q hQ => ?_)
  simp (disch := intros; contradiction) only [zS, k4, simprocAttr]
  refine hQ (RG.nil ?_)
  simp only [zX]
  refine aw_cond _ rfl trivial (fun ht => by cases ht) (fun hf => ?_)
  refine aw_reg 560 (RG.go fun Q hQ => ?_)
  simp (disch := intros; contradiction) only [zS, k5, simprocAttr]
  refine hQ (RG.nil ?_)
  simp only [zX]
  refine aw_cond _ rfl trivial (fun ht => by cases ht) (fun hf => ?_)
  simp only [zX]
  refine aw_reg 624 (RG.go fun Q hQ => ?_)
  simp (disch := intros; contradiction) only [zS, k6, simprocAttr]
  refine hQ (RG.nil ?_)
  simp only [zX]
  refine aw_cond _ rfl trivial (fun ht => ?_) (fun hf => by cases hf)
  simp only [zX]
  refine aw_cond _ rfl trivial (fun ht => ?_) (fun hf => by cases hf)
  refine aw_reg 688 (RG.go fun Q hQ => ?_)
  simp (disch := intros; contradiction) only [zS, simprocAttr]
  refine hQ ?_
  refine RG.callo [240, 241] [] (volume_imports_write v c ok hl hd hn h) (.mk (by (repeat' (first | exact tr_nil | refine tr_cons ?_ ?_ | exact tr_agg (by repeat' (first | exact trivial | rfl | refine ⟨?_, ?_⟩))))) (by first | trivial | (simp only [zT, simprocAttr]; done) | (simp only [zT, simprocAttr]; trivial) | (simp only [zT, simprocAttr]; repeat' (first | (first | exact drows_nrow _ | exact drows_wrow _) | refine ⟨?_, ?_⟩))) (by simp) (by simp) (trivial) (by first | (simp [lkE_cons, lkE_nil]; done) | (intro j hj; simp at hj; simp only [setEs, setE_cons, setE_nil, lkE_cons, lkE_nil]; repeat rw [if_neg (by omega)])) (by first | (simp [Ent.pure]; done) | (simp [Ent.pure]; repeat' (first | (first | exact drows_nrow _ | exact drows_wrow _) | refine ⟨?_, ?_⟩))) (by simp) (by simp)) ?_
  refine RG.go fun Q hQ => ?_
  simp (disch := intros; contradiction) only [zS, vO_eq, simprocAttr]
  refine hQ (RG.nil ?_)
  simp only [zX]
  refine aw_reg 848 (RG.go fun Q hQ => ?_)
  simp (disch := intros; contradiction) only [zS, simprocAttr]
  refine hQ (RG.nil ?_)
  simp only [zX]
  refine aw_cond _ rfl trivial (fun ht => by cases ht) (fun hf => ?_)
  simp only [zX]
  refine aw_draw 912 (RG.go fun Q hQ => ?_)
  simp (disch := intros; contradiction) only [zS, simprocAttr]
  refine hQ ?_
  refine RG.call [240, 720] (volume_Len_con (addN v c.items)) (by (repeat' (first | exact tr_nil | refine tr_cons ?_ ?_ | exact tr_agg (by (repeat' (first | exact trivial | rfl | (refine ⟨by simp, _, _, _, rfl, ?_⟩; (first | exact drows_nrow _ | exact drows_wrow _)) | refine ⟨?_, ?_⟩)))))) (by repeat' (first | exact trivial | refine views1 rfl ?_)) (by (exact .inl trivial)) ?_
  refine RG.go fun Q hQ => ?_
  simp (disch := intros; contradiction) only [zS, simprocAttr]
  refine hQ (RG.nil ⟨by decide +kernel, ?_⟩)
  simp only [zX]
  refine Fin.data [240, 720] (.inr rfl) rfl (by (exact ⟨trivial, trivial, trivial⟩)) ?_
  simp only [zL, simprocAttr]
  all_goals ((repeat' (first | exact trivial | rfl | (refine ⟨⟨_, _, rfl⟩, ?_⟩; (first | exact drows_nrow _ | exact drows_wrow _)) | refine ⟨?_, ?_⟩)))

theorem Do_imp7_no (v : VOL) (c : CMD) (ok : Vok v) (hk : c.kind = 7) (hl : c.items.length ≤ 1000000) (hd : ∀ x ∈ c.items, x.d.length ≤ 1000000) (w : VOL) (e : Int) (h : impS v c = some (w, e)) (he0 : e ≠ 0) : Con Try.prog 18 [.agg (volC v), .agg (cmdC c)] [] (doR (fail v e)) [] := by
  have k2 : (c.kind == 2) = false := by rw [hk]; rfl
  have k3 : (c.kind == 3) = false := by rw [hk]; rfl
  have k4 : (c.kind == 4) = false := by rw [hk]; rfl
  have k5 : (c.kind == 5) = false := by rw [hk]; rfl
  have k6 : (c.kind == 6) = false := by rw [hk]; rfl
  have k7 : (c.kind == 7) = true := by rw [hk]; rfl
  have k8 : (c.kind == 8) = false := by rw [hk]; rfl
  refine C_volume_Do (Nat.le_of_ble_eq_true rfl) (Nat.le_of_ble_eq_true rfl) ?_
  simp only [A_volume_Do, argL, objL, List.length_nil, Nat.zero_add, zX]
  refine aw_reg 16 (RG.go fun Q hQ => ?_)
  simp (disch := intros; contradiction) only [zS, vC_eq, cmdC, cC, simprocAttr]
  refine hQ (RG.nil ?_)
  simp only [zX]
  refine aw_reg 112 (RG.go fun Q hQ => ?_)
  simp (disch := intros; contradiction) only [zS, simprocAttr]
  refine hQ ?_
  refine RG.callo [] [] (volume_copied_con v ok) (.mk (by (repeat' (first | exact tr_nil | refine tr_cons ?_ ?_ | exact tr_agg (by repeat' (first | exact trivial | rfl | refine ⟨?_, ?_⟩))))) (by first | trivial | (simp only [zT, simprocAttr]; done) | (simp only [zT, simprocAttr]; trivial) | (simp only [zT, simprocAttr]; repeat' (fail))) (by simp) (by simp) (trivial) (by first | (simp [lkE_cons, lkE_nil]; done) | (intro j hj; simp at hj; simp only [lkE_cons, lkE_nil]; repeat rw [if_neg (by omega)])) (by first | (simp [Ent.pure]; done) | (simp [Ent.pure]; repeat' (first | (first | exact drows_nrow _ | exact drows_wrow _) | refine ⟨?_, ?_⟩))) (by simp) (by simp)) ?_
  refine RG.go fun Q hQ => ?_
  simp (disch := intros; contradiction) only [zS, simprocAttr]
  refine hQ (RG.nil ?_)
  simp only [zX]
  refine aw_reg 224 (RG.go fun Q hQ => ?_)
  simp (disch := intros; contradiction) only [zS, simprocAttr]
  refine hQ ?_
  refine RG.callo [] [] (volume_copied_con v ok) (.mk (by (repeat' (first | exact tr_nil | refine tr_cons ?_ ?_ | exact tr_agg (by repeat' (first | exact trivial | rfl | refine ⟨?_, ?_⟩))))) (by first | trivial | (simp only [zT, simprocAttr]; done) | (simp only [zT, simprocAttr]; trivial) | (simp only [zT, simprocAttr]; repeat' (fail))) (by simp) (by simp) (trivial) (by first | (simp [lkE_cons, lkE_nil]; done) | (intro j hj; simp at hj; simp only [lkE_cons, lkE_nil]; repeat rw [if_neg (by omega)])) (by first | (simp [Ent.pure]; done) | (simp [Ent.pure]; repeat' (first | (first | exact drows_nrow _ | exact drows_wrow _) | refine ⟨?_, ?_⟩))) (by simp) (by simp)) ?_
  refine RG.go fun Q hQ => ?_
  simp (disch := intros; contradiction) only [zS, simprocAttr]
  refine hQ (RG.nil ?_)
  simp only [zX]
  refine aw_reg 304 (RG.go fun Q hQ => ?_)
  simp (disch := intros; contradiction) only [zS, simprocAttr]
  refine hQ (RG.nil ?_)
  simp only [zX]
  refine aw_reg 368 (RG.go fun Q hQ => ?_)
  simp (disch := intros; contradiction) only [zS, k2, simprocAttr]
  refine hQ (RG.nil ?_)
  simp only [zX]
  refine aw_cond _ rfl trivial (fun ht => by cases ht) (fun hf => ?_)
  simp only [zX]
  refine aw_reg 432 (RG.go fun Q hQ => ?_)
  simp (disch := intros; contradiction) only [zS, k3, simprocAttr]
  refine hQ (RG.nil ?_)
  simp only [zX]
  refine aw_cond _ rfl trivial (fun ht => by cases ht) (fun hf => ?_)
  simp only [zX]
  refine aw_reg 496 (RG.go fun Q hQ => ?_)
  simp (disch := intros; contradiction) only [zS, k4, simprocAttr]
  refine hQ (RG.nil ?_)
  simp only [zX]
  refine aw_cond _ rfl trivial (fun ht => by cases ht) (fun hf => ?_)
  refine aw_reg 560 (RG.go fun Q hQ => ?_)
  simp (disch := intros; contradiction) only [zS, k5, simprocAttr]
  refine hQ (RG.nil ?_)
  simp only [zX]
  refine aw_cond _ rfl trivial (fun ht => by cases ht) (fun hf => ?_)
  simp only [zX]
  refine aw_reg 624 (RG.go fun Q hQ => ?_)
  simp (disch := intros; contradiction) only [zS, k6, simprocAttr]
  refine hQ (RG.nil ?_)
  simp only [zX]
  refine aw_cond _ rfl trivial (fun ht => by cases ht) (fun hf => ?_)
  refine aw_reg 688 (RG.go fun Q hQ => ?_)
  simp (disch := intros; contradiction) only [zS, k7, simprocAttr]
  refine hQ (RG.nil ?_)
  simp only [zX]
  refine aw_cond _ rfl trivial (fun ht => ?_) (fun hf => by cases hf)
  refine aw_reg 752 (RG.go fun Q hQ => ?_)
  simp (disch := intros; contradiction) only [zS, simprocAttr]
  refine hQ ?_
  refine RG.callo [240, 241] [] (volume_imports_same v c ok hl hd w e h) (.mk (by (repeat' (first | exact tr_nil | refine tr_cons ?_ ?_ | exact tr_agg (by repeat' (first | exact trivial | rfl | refine ⟨?_, ?_⟩))))) (by first | trivial | (simp only [zT, simprocAttr]; done) | (simp only [zT, simprocAttr]; trivial) | (simp only [zT, simprocAttr]; repeat' (first | (first | exact drows_nrow _ | exact drows_wrow _) | refine ⟨?_, ?_⟩))) (by simp) (by simp) (trivial) (by first | (simp [lkE_cons, lkE_nil]; done) | (intro j hj; simp at hj; simp only [setEs, setE_cons, setE_nil, lkE_cons, lkE_nil]; repeat rw [if_neg (by omega)])) (by first | (simp [Ent.pure]; done) | (simp [Ent.pure]; repeat' (first | (first | exact drows_nrow _ | exact drows_wrow _) | refine ⟨?_, ?_⟩))) (by simp) (by simp)) ?_
  refine RG.go fun Q hQ => ?_
  simp (disch := intros; contradiction) only [zS, vO_eq, simprocAttr]
  refine hQ (RG.nil ?_)
  simp only [zX]
  refine aw_reg 912 (RG.go fun Q hQ => ?_)
  simp (disch := intros; contradiction) only [zS, simprocAttr]
  refine hQ (RG.nil ?_)
  simp only [zX]
  refine aw_cond _ rfl trivial (fun ht => ?_) (fun hf => by simp at hf; exact absurd hf he0)
  simp only [zX]
  refine aw_reg 976 (RG.go fun Q hQ => ?_)
  simp (disch := intros; contradiction) only [zS, simprocAttr]
  refine hQ (RG.nil ?_)
  simp only [zX]
  refine Fin.data [128, 129] (.inr rfl) rfl (by (exact ⟨trivial, trivial, trivial⟩)) ?_
  simp only [zL, simprocAttr]
  all_goals ((repeat' (first | exact trivial | rfl | (refine ⟨⟨_, _, rfl⟩, ?_⟩; (first | exact drows_nrow _ | exact drows_wrow _)) | refine ⟨?_, ?_⟩)))

theorem Do_imp7_same (v : VOL) (c : CMD) (ok : Vok v) (hk : c.kind = 7) (hl : c.items.length ≤ 1000000) (hd : ∀ x ∈ c.items, x.d.length ≤ 1000000) (h : impS v c = some (pubV v, 0)) : Con Try.prog 18 [.agg (volC v), .agg (cmdC c)] [] (doR (done (pubV v))) [] := by
  have k2 : (c.kind == 2) = false := by rw [hk]; rfl
  have k3 : (c.kind == 3) = false := by rw [hk]; rfl
  have k4 : (c.kind == 4) = false := by rw [hk]; rfl
  have k5 : (c.kind == 5) = false := by rw [hk]; rfl
  have k6 : (c.kind == 6) = false := by rw [hk]; rfl
  have k7 : (c.kind == 7) = true := by rw [hk]; rfl
  have k8 : (c.kind == 8) = false := by rw [hk]; rfl
  refine C_volume_Do (Nat.le_of_ble_eq_true rfl) (Nat.le_of_ble_eq_true rfl) ?_
  simp only [A_volume_Do, argL, objL, List.length_nil, Nat.zero_add, zX]
  refine aw_reg 16 (RG.go fun Q hQ => ?_)
  simp (disch := intros; contradiction) only [zS, vC_eq, cmdC, cC, simprocAttr]
  refine hQ (RG.nil ?_)
  simp only [zX]
  refine aw_reg 112 (RG.go fun Q hQ => ?_)
  simp (disch := intros; contradiction) only [zS, simprocAttr]
  refine hQ ?_
  refine RG.callo [] [] (volume_copied_con v ok) (.mk (by (repeat' (first | exact tr_nil | refine tr_cons ?_ ?_ | exact tr_agg (by repeat' (first | exact trivial | rfl | refine ⟨?_, ?_⟩))))) (by first | trivial | (simp only [zT, simprocAttr]; done) | (simp only [zT, simprocAttr]; trivial) | (simp only [zT, simprocAttr]; repeat' (fail))) (by simp) (by simp) (trivial) (by first | (simp [lkE_cons, lkE_nil]; done) | (intro j hj; simp at hj; simp only [lkE_cons, lkE_nil]; repeat rw [if_neg (by omega)])) (by first | (simp [Ent.pure]; done) | (simp [Ent.pure]; repeat' (first | (first | exact drows_nrow _ | exact drows_wrow _) | refine ⟨?_, ?_⟩))) (by simp) (by simp)) ?_
  refine RG.go fun Q hQ => ?_
  simp (disch := intros; contradiction) only [zS, simprocAttr]
  refine hQ (RG.nil ?_)
  simp only [zX]
  refine aw_reg 224 (RG.go fun Q hQ => ?_)
  simp (disch := intros; contradiction) only [zS, simprocAttr]
  refine hQ ?_
  refine RG.callo [] [] (volume_copied_con v ok) (.mk (by (repeat' (first | exact tr_nil | refine tr_cons ?_ ?_ | exact tr_agg (by repeat' (first | exact trivial | rfl | refine ⟨?_, ?_⟩))))) (by first | trivial | (simp only [zT, simprocAttr]; done) | (simp only [zT, simprocAttr]; trivial) | (simp only [zT, simprocAttr]; repeat' (fail))) (by simp) (by simp) (trivial) (by first | (simp [lkE_cons, lkE_nil]; done) | (intro j hj; simp at hj; simp only [lkE_cons, lkE_nil]; repeat rw [if_neg (by omega)])) (by first | (simp [Ent.pure]; done) | (simp [Ent.pure]; repeat' (first | (first | exact drows_nrow _ | exact drows_wrow _) | refine ⟨?_, ?_⟩))) (by simp) (by simp)) ?_
  refine RG.go fun Q hQ => ?_
  simp (disch := intros; contradiction) only [zS, simprocAttr]
  refine hQ (RG.nil ?_)
  simp only [zX]
  refine aw_reg 304 (RG.go fun Q hQ => ?_)
  simp (disch := intros; contradiction) only [zS, simprocAttr]
  refine hQ (RG.nil ?_)
  simp only [zX]
  refine aw_reg 368 (RG.go fun Q hQ => ?_)
  simp (disch := intros; contradiction) only [zS, k2, simprocAttr]
  refine hQ (RG.nil ?_)
  simp only [zX]
  refine aw_cond _ rfl trivial (fun ht => by cases ht) (fun hf => ?_)
  simp only [zX]
  refine aw_reg 432 (RG.go fun Q hQ => ?_)
  simp (disch := intros; contradiction) only [zS, k3, simprocAttr]
  refine hQ (RG.nil ?_)
  simp only [zX]
  refine aw_cond _ rfl trivial (fun ht => by cases ht) (fun hf => ?_)
  simp only [zX]
  refine aw_reg 496 (RG.go fun Q hQ => ?_)
  simp (disch := intros; contradiction) only [zS, k4, simprocAttr]
  refine hQ (RG.nil ?_)
  simp only [zX]
  refine aw_cond _ rfl trivial (fun ht => by cases ht) (fun hf => ?_)
  refine aw_reg 560 (RG.go fun Q hQ => ?_)
  simp (disch := intros; contradiction) only [zS, k5, simprocAttr]
  refine hQ (RG.nil ?_)
  simp only [zX]
  refine aw_cond _ rfl trivial (fun ht => by cases ht) (fun hf => ?_)
  simp only [zX]
  refine aw_reg 624 (RG.go fun Q hQ => ?_)
  simp (disch := intros; contradiction) only [zS, k6, simprocAttr]
  refine hQ (RG.nil ?_)
  simp only [zX]
  refine aw_cond _ rfl trivial (fun ht => by cases ht) (fun hf => ?_)
  refine aw_reg 688 (RG.go fun Q hQ => ?_)
  simp (disch := intros; contradiction) only [zS, k7, simprocAttr]
  refine hQ (RG.nil ?_)
  simp only [zX]
  refine aw_cond _ rfl trivial (fun ht => ?_) (fun hf => by cases hf)
  refine aw_reg 752 (RG.go fun Q hQ => ?_)
  simp (disch := intros; contradiction) only [zS, simprocAttr]
  refine hQ ?_
  refine RG.callo [240, 241] [] (volume_imports_same v c ok hl hd _ 0 h) (.mk (by (repeat' (first | exact tr_nil | refine tr_cons ?_ ?_ | exact tr_agg (by repeat' (first | exact trivial | rfl | refine ⟨?_, ?_⟩))))) (by first | trivial | (simp only [zT, simprocAttr]; done) | (simp only [zT, simprocAttr]; trivial) | (simp only [zT, simprocAttr]; repeat' (first | (first | exact drows_nrow _ | exact drows_wrow _) | refine ⟨?_, ?_⟩))) (by simp) (by simp) (trivial) (by first | (simp [lkE_cons, lkE_nil]; done) | (intro j hj; simp at hj; simp only [setEs, setE_cons, setE_nil, lkE_cons, lkE_nil]; repeat rw [if_neg (by omega)])) (by first | (simp [Ent.pure]; done) | (simp [Ent.pure]; repeat' (first | (first | exact drows_nrow _ | exact drows_wrow _) | refine ⟨?_, ?_⟩))) (by simp) (by simp)) ?_
  refine RG.go fun Q hQ => ?_
  simp (disch := intros; contradiction) only [zS, vO_eq, pubV, simprocAttr]
  refine hQ (RG.nil ?_)
  simp only [zX]
  refine aw_reg 912 (RG.go fun Q hQ => ?_)
  simp (disch := intros; contradiction) only [zS, simprocAttr]
  refine hQ (RG.nil ?_)
  simp only [zX]
  refine aw_cond _ rfl trivial (fun ht => by cases ht) (fun hf => ?_)
  simp only [zX]
  refine aw_draw 976 (RG.go fun Q hQ => ?_)
  simp (disch := intros; contradiction) only [zS, simprocAttr]
  refine hQ ?_
  refine RG.call [240, 241] (volume_Len_con (pubV v)) (by (repeat' (first | exact tr_nil | refine tr_cons ?_ ?_ | exact tr_agg (by (repeat' (first | exact trivial | rfl | (refine ⟨by simp, _, _, _, rfl, ?_⟩; (first | exact drows_nrow _ | exact drows_wrow _)) | refine ⟨?_, ?_⟩)))))) (by repeat' (first | exact trivial | refine views1 rfl ?_)) (by (exact .inl trivial)) ?_
  refine RG.go fun Q hQ => ?_
  simp (disch := intros; contradiction) only [zS, pubV, simprocAttr]
  refine hQ (RG.nil ⟨by decide +kernel, ?_⟩)
  simp only [zX]
  refine Fin.data [240, 241] (.inr rfl) rfl (by (exact ⟨trivial, trivial, trivial⟩)) ?_
  simp only [zL, simprocAttr]
  all_goals ((repeat' (first | exact trivial | rfl | (refine ⟨⟨_, _, rfl⟩, ?_⟩; (first | exact drows_nrow _ | exact drows_wrow _)) | refine ⟨?_, ?_⟩)))

theorem Do_imp7_write (v : VOL) (c : CMD) (ok : Vok v) (hk : c.kind = 7) (hl : c.items.length ≤ 1000000) (hd : ∀ x ∈ c.items, x.d.length ≤ 1000000) (hn : v.next ≤ 1099511627776 ∧ 0 ≤ v.next) (h : impS v c = none) : Con Try.prog 18 [.agg (volC v), .agg (cmdC c)] [] (doR (done (addN v c.items))) [] := by
  have k2 : (c.kind == 2) = false := by rw [hk]; rfl
  have k3 : (c.kind == 3) = false := by rw [hk]; rfl
  have k4 : (c.kind == 4) = false := by rw [hk]; rfl
  have k5 : (c.kind == 5) = false := by rw [hk]; rfl
  have k6 : (c.kind == 6) = false := by rw [hk]; rfl
  have k7 : (c.kind == 7) = true := by rw [hk]; rfl
  have k8 : (c.kind == 8) = false := by rw [hk]; rfl
  refine C_volume_Do (Nat.le_of_ble_eq_true rfl) (Nat.le_of_ble_eq_true rfl) ?_
  simp only [A_volume_Do, argL, objL, List.length_nil, Nat.zero_add, zX]
  refine aw_reg 16 (RG.go fun Q hQ => ?_)
  simp (disch := intros; contradiction) only [zS, vC_eq, cmdC, cC, simprocAttr]
  refine hQ (RG.nil ?_)
  simp only [zX]
  refine aw_reg 112 (RG.go fun Q hQ => ?_)
  simp (disch := intros; contradiction) only [zS, simprocAttr]
  refine hQ ?_
  refine RG.callo [] [] (volume_copied_con v ok) (.mk (by (repeat' (first | exact tr_nil | refine tr_cons ?_ ?_ | exact tr_agg (by repeat' (first | exact trivial | rfl | refine ⟨?_, ?_⟩))))) (by first | trivial | (simp only [zT, simprocAttr]; done) | (simp only [zT, simprocAttr]; trivial) | (simp only [zT, simprocAttr]; repeat' (fail))) (by simp) (by simp) (trivial) (by first | (simp [lkE_cons, lkE_nil]; done) | (intro j hj; simp at hj; simp only [lkE_cons, lkE_nil]; repeat rw [if_neg (by omega)])) (by first | (simp [Ent.pure]; done) | (simp [Ent.pure]; repeat' (first | (first | exact drows_nrow _ | exact drows_wrow _) | refine ⟨?_, ?_⟩))) (by simp) (by simp)) ?_
  refine RG.go fun Q hQ => ?_
  simp (disch := intros; contradiction) only [zS, simprocAttr]
  refine hQ (RG.nil ?_)
  simp only [zX]
  refine aw_reg 224 (RG.go fun Q hQ => ?_)
  simp (disch := intros; contradiction) only [zS, simprocAttr]
  refine hQ ?_
  refine RG.callo [] [] (volume_copied_con v ok) (.mk (by (repeat' (first | exact tr_nil | refine tr_cons ?_ ?_ | exact tr_agg (by repeat' (first | exact trivial | rfl | refine ⟨?_, ?_⟩))))) (by first | trivial | (simp only [zT, simprocAttr]; done) | (simp only [zT, simprocAttr]; trivial) | (simp only [zT, simprocAttr]; repeat' (fail))) (by simp) (by simp) (trivial) (by first | (simp [lkE_cons, lkE_nil]; done) | (intro j hj; simp at hj; simp only [lkE_cons, lkE_nil]; repeat rw [if_neg (by omega)])) (by first | (simp [Ent.pure]; done) | (simp [Ent.pure]; repeat' (first | (first | exact drows_nrow _ | exact drows_wrow _) | refine ⟨?_, ?_⟩))) (by simp) (by simp)) ?_
  refine RG.go fun Q hQ => ?_
  simp (disch := intros; contradiction) only [zS, simprocAttr]
  refine hQ (RG.nil ?_)
  simp only [zX]
  refine aw_reg 304 (RG.go fun Q hQ => ?_)
  simp (disch := intros; contradiction) only [zS, simprocAttr]
  refine hQ (RG.nil ?_)
  simp only [zX]
  refine aw_reg 368 (RG.go fun Q hQ => ?_)
  simp (disch := intros; contradiction) only [zS, k2, simprocAttr]
  refine hQ (RG.nil ?_)
  simp only [zX]
  refine aw_cond _ rfl trivial (fun ht => by cases ht) (fun hf => ?_)
  simp only [zX]
  refine aw_reg 432 (RG.go fun Q hQ => ?_)
  simp (disch := intros; contradiction) only [zS, k3, simprocAttr]
  refine hQ (RG.nil ?_)
  simp only [zX]
  refine aw_cond _ rfl trivial (fun ht => by cases ht) (fun hf => ?_)
  simp only [zX]
  refine aw_reg 496 (RG.go fun Q hQ => ?_)
  simp (disch := intros; contradiction) only [zS, k4, simprocAttr]
  refine hQ (RG.nil ?_)
  simp only [zX]
  refine aw_cond _ rfl trivial (fun ht => by cases ht) (fun hf => ?_)
  refine aw_reg 560 (RG.go fun Q hQ => ?_)
  simp (disch := intros; contradiction) only [zS, k5, simprocAttr]
  refine hQ (RG.nil ?_)
  simp only [zX]
  refine aw_cond _ rfl trivial (fun ht => by cases ht) (fun hf => ?_)
  simp only [zX]
  refine aw_reg 624 (RG.go fun Q hQ => ?_)
  simp (disch := intros; contradiction) only [zS, k6, simprocAttr]
  refine hQ (RG.nil ?_)
  simp only [zX]
  refine aw_cond _ rfl trivial (fun ht => by cases ht) (fun hf => ?_)
  refine aw_reg 688 (RG.go fun Q hQ => ?_)
  simp (disch := intros; contradiction) only [zS, k7, simprocAttr]
  refine hQ (RG.nil ?_)
  simp only [zX]
  refine aw_cond _ rfl trivial (fun ht => ?_) (fun hf => by cases hf)
  refine aw_reg 752 (RG.go fun Q hQ => ?_)
  simp (disch := intros; contradiction) only [zS, simprocAttr]
  refine hQ ?_
  refine RG.callo [240, 241] [] (volume_imports_write v c ok hl hd hn h) (.mk (by (repeat' (first | exact tr_nil | refine tr_cons ?_ ?_ | exact tr_agg (by repeat' (first | exact trivial | rfl | refine ⟨?_, ?_⟩))))) (by first | trivial | (simp only [zT, simprocAttr]; done) | (simp only [zT, simprocAttr]; trivial) | (simp only [zT, simprocAttr]; repeat' (first | (first | exact drows_nrow _ | exact drows_wrow _) | refine ⟨?_, ?_⟩))) (by simp) (by simp) (trivial) (by first | (simp [lkE_cons, lkE_nil]; done) | (intro j hj; simp at hj; simp only [setEs, setE_cons, setE_nil, lkE_cons, lkE_nil]; repeat rw [if_neg (by omega)])) (by first | (simp [Ent.pure]; done) | (simp [Ent.pure]; repeat' (first | (first | exact drows_nrow _ | exact drows_wrow _) | refine ⟨?_, ?_⟩))) (by simp) (by simp)) ?_
  refine RG.go fun Q hQ => ?_
  simp (disch := intros; contradiction) only [zS, vO_eq, simprocAttr]
  refine hQ (RG.nil ?_)
  simp only [zX]
  refine aw_reg 912 (RG.go fun Q hQ => ?_)
  simp (disch := intros; contradiction) only [zS, simprocAttr]
  refine hQ (RG.nil ?_)
  simp only [zX]
  refine aw_cond _ rfl trivial (fun ht => by cases ht) (fun hf => ?_)
  simp only [zX]
  refine aw_draw 976 (RG.go fun Q hQ => ?_)
  simp (disch := intros; contradiction) only [zS, simprocAttr]
  refine hQ ?_
  refine RG.call [240, 784] (volume_Len_con (addN v c.items)) (by (repeat' (first | exact tr_nil | refine tr_cons ?_ ?_ | exact tr_agg (by (repeat' (first | exact trivial | rfl | (refine ⟨by simp, _, _, _, rfl, ?_⟩; (first | exact drows_nrow _ | exact drows_wrow _)) | refine ⟨?_, ?_⟩)))))) (by repeat' (first | exact trivial | refine views1 rfl ?_)) (by (exact .inl trivial)) ?_
  refine RG.go fun Q hQ => ?_
  simp (disch := intros; contradiction) only [zS, simprocAttr]
  refine hQ (RG.nil ⟨by decide +kernel, ?_⟩)
  simp only [zX]
  refine Fin.data [240, 784] (.inr rfl) rfl (by (exact ⟨trivial, trivial, trivial⟩)) ?_
  simp only [zL, simprocAttr]
  all_goals ((repeat' (first | exact trivial | rfl | (refine ⟨⟨_, _, rfl⟩, ?_⟩; (first | exact drows_nrow _ | exact drows_wrow _)) | refine ⟨?_, ?_⟩)))

theorem Do_stat (v : VOL) (c : CMD) (ok : Vok v) (hk : c.kind = 8) : Con Try.prog 18 [.agg (volC v), .agg (cmdC c)] [] (doR (done v)) [] := by
  have k2 : (c.kind == 2) = false := by rw [hk]; rfl
  have k3 : (c.kind == 3) = false := by rw [hk]; rfl
  have k4 : (c.kind == 4) = false := by rw [hk]; rfl
  have k5 : (c.kind == 5) = false := by rw [hk]; rfl
  have k6 : (c.kind == 6) = false := by rw [hk]; rfl
  have k7 : (c.kind == 7) = false := by rw [hk]; rfl
  have k8 : (c.kind == 8) = true := by rw [hk]; rfl
  refine C_volume_Do (Nat.le_of_ble_eq_true rfl) (Nat.le_of_ble_eq_true rfl) ?_
  simp only [A_volume_Do, argL, objL, List.length_nil, Nat.zero_add, zX]
  refine aw_reg 16 (RG.go fun Q hQ => ?_)
  simp (disch := intros; contradiction) only [zS, vC_eq, cmdC, cC, simprocAttr]
  refine hQ (RG.nil ?_)
  simp only [zX]
  refine aw_reg 112 (RG.go fun Q hQ => ?_)
  simp (disch := intros; contradiction) only [zS, simprocAttr]
  refine hQ ?_
  refine RG.callo [] [] (volume_copied_con v ok) (.mk (by (repeat' (first | exact tr_nil | refine tr_cons ?_ ?_ | exact tr_agg (by repeat' (first | exact trivial | rfl | refine ⟨?_, ?_⟩))))) (by first | trivial | (simp only [zT, simprocAttr]; done) | (simp only [zT, simprocAttr]; trivial) | (simp only [zT, simprocAttr]; repeat' (fail))) (by simp) (by simp) (trivial) (by first | (simp [lkE_cons, lkE_nil]; done) | (intro j hj; simp at hj; simp only [lkE_cons, lkE_nil]; repeat rw [if_neg (by omega)])) (by first | (simp [Ent.pure]; done) | (simp [Ent.pure]; repeat' (first | (first | exact drows_nrow _ | exact drows_wrow _) | refine ⟨?_, ?_⟩))) (by simp) (by simp)) ?_
  refine RG.go fun Q hQ => ?_
  simp (disch := intros; contradiction) only [zS, simprocAttr]
  refine hQ (RG.nil ?_)
  simp only [zX]
  refine aw_reg 224 (RG.go fun Q hQ => ?_)
  simp (disch := intros; contradiction) only [zS, simprocAttr]
  refine hQ ?_
  refine RG.callo [] [] (volume_copied_con v ok) (.mk (by (repeat' (first | exact tr_nil | refine tr_cons ?_ ?_ | exact tr_agg (by repeat' (first | exact trivial | rfl | refine ⟨?_, ?_⟩))))) (by first | trivial | (simp only [zT, simprocAttr]; done) | (simp only [zT, simprocAttr]; trivial) | (simp only [zT, simprocAttr]; repeat' (fail))) (by simp) (by simp) (trivial) (by first | (simp [lkE_cons, lkE_nil]; done) | (intro j hj; simp at hj; simp only [lkE_cons, lkE_nil]; repeat rw [if_neg (by omega)])) (by first | (simp [Ent.pure]; done) | (simp [Ent.pure]; repeat' (first | (first | exact drows_nrow _ | exact drows_wrow _) | refine ⟨?_, ?_⟩))) (by simp) (by simp)) ?_
  refine RG.go fun Q hQ => ?_
  simp (disch := intros; contradiction) only [zS, simprocAttr]
  refine hQ (RG.nil ?_)
  simp only [zX]
  refine aw_reg 304 (RG.go fun Q hQ => ?_)
  simp (disch := intros; contradiction) only [zS, simprocAttr]
  refine hQ (RG.nil ?_)
  simp only [zX]
  refine aw_reg 368 (RG.go fun Q hQ => ?_)
  simp (disch := intros; contradiction) only [zS, k2, simprocAttr]
  refine hQ (RG.nil ?_)
  simp only [zX]
  refine aw_cond _ rfl trivial (fun ht => by cases ht) (fun hf => ?_)
  simp only [zX]
  refine aw_reg 432 (RG.go fun Q hQ => ?_)
  simp (disch := intros; contradiction) only [zS, k3, simprocAttr]
  refine hQ (RG.nil ?_)
  simp only [zX]
  refine aw_cond _ rfl trivial (fun ht => by cases ht) (fun hf => ?_)
  simp only [zX]
  refine aw_reg 496 (RG.go fun Q hQ => ?_)
  simp (disch := intros; contradiction) only [zS, k4, simprocAttr]
  refine hQ (RG.nil ?_)
  simp only [zX]
  refine aw_cond _ rfl trivial (fun ht => by cases ht) (fun hf => ?_)
  refine aw_reg 560 (RG.go fun Q hQ => ?_)
  simp (disch := intros; contradiction) only [zS, k5, simprocAttr]
  refine hQ (RG.nil ?_)
  simp only [zX]
  refine aw_cond _ rfl trivial (fun ht => by cases ht) (fun hf => ?_)
  simp only [zX]
  refine aw_reg 624 (RG.go fun Q hQ => ?_)
  simp (disch := intros; contradiction) only [zS, k6, simprocAttr]
  refine hQ (RG.nil ?_)
  simp only [zX]
  refine aw_cond _ rfl trivial (fun ht => by cases ht) (fun hf => ?_)
  refine aw_reg 688 (RG.go fun Q hQ => ?_)
  simp (disch := intros; contradiction) only [zS, k7, simprocAttr]
  refine hQ (RG.nil ?_)
  simp only [zX]
  refine aw_cond _ rfl trivial (fun ht => by cases ht) (fun hf => ?_)
  simp only [zX]
  refine aw_reg 752 (RG.go fun Q hQ => ?_)
  simp (disch := intros; contradiction) only [zS, k8, simprocAttr]
  refine hQ (RG.nil ?_)
  simp only [zX]
  refine aw_cond _ rfl trivial (fun ht => ?_) (fun hf => by cases hf)
  simp only [zX]
  refine aw_reg 816 (RG.go fun Q hQ => ?_)
  simp (disch := intros; contradiction) only [zS, simprocAttr]
  refine hQ (RG.nil ?_)
  simp only [zX]
  refine aw_cond _ rfl trivial (fun ht => by cases ht) (fun hf => ?_)
  simp only [zX]
  refine aw_draw 880 (RG.go fun Q hQ => ?_)
  simp (disch := intros; contradiction) only [zS, simprocAttr]
  refine hQ ?_
  refine RG.call [240, 241] (volume_Len_con v) (by (repeat' (first | exact tr_nil | refine tr_cons ?_ ?_ | exact tr_agg (by (repeat' (first | exact trivial | rfl | (refine ⟨by simp, _, _, _, rfl, ?_⟩; (first | exact drows_nrow _ | exact drows_wrow _)) | refine ⟨?_, ?_⟩)))))) (by repeat' (first | exact trivial | refine views1 rfl ?_)) (by (exact .inl trivial)) ?_
  refine RG.go fun Q hQ => ?_
  simp (disch := intros; contradiction) only [zS, simprocAttr]
  refine hQ (RG.nil ⟨by decide +kernel, ?_⟩)
  simp only [zX]
  refine Fin.data [240, 241] (.inr rfl) rfl (by (exact ⟨trivial, trivial, trivial⟩)) ?_
  simp only [zL, simprocAttr]
  all_goals ((repeat' (first | exact trivial | rfl | (refine ⟨⟨_, _, rfl⟩, ?_⟩; (first | exact drows_nrow _ | exact drows_wrow _)) | refine ⟨?_, ?_⟩)))

theorem Do_other (v : VOL) (c : CMD) (ok : Vok v) (hk : c.kind < 2 ∨ 8 < c.kind) : Con Try.prog 18 [.agg (volC v), .agg (cmdC c)] [] (doR (fail v 23)) [] := by
  have k2 : (c.kind == 2) = false := by rw [beq_eq_false_iff_ne]; omega
  have k3 : (c.kind == 3) = false := by rw [beq_eq_false_iff_ne]; omega
  have k4 : (c.kind == 4) = false := by rw [beq_eq_false_iff_ne]; omega
  have k5 : (c.kind == 5) = false := by rw [beq_eq_false_iff_ne]; omega
  have k6 : (c.kind == 6) = false := by rw [beq_eq_false_iff_ne]; omega
  have k7 : (c.kind == 7) = false := by rw [beq_eq_false_iff_ne]; omega
  have k8 : (c.kind == 8) = false := by rw [beq_eq_false_iff_ne]; omega
  refine C_volume_Do (Nat.le_of_ble_eq_true rfl) (Nat.le_of_ble_eq_true rfl) ?_
  simp only [A_volume_Do, argL, objL, List.length_nil, Nat.zero_add, zX]
  refine aw_reg 16 (RG.go fun Q hQ => ?_)
  simp (disch := intros; contradiction) only [zS, vC_eq, cmdC, cC, simprocAttr]
  refine hQ (RG.nil ?_)
  simp only [zX]
  refine aw_reg 112 (RG.go fun Q hQ => ?_)
  simp (disch := intros; contradiction) only [zS, simprocAttr]
  refine hQ ?_
  refine RG.callo [] [] (volume_copied_con v ok) (.mk (by (repeat' (first | exact tr_nil | refine tr_cons ?_ ?_ | exact tr_agg (by repeat' (first | exact trivial | rfl | refine ⟨?_, ?_⟩))))) (by first | trivial | (simp only [zT, simprocAttr]; done) | (simp only [zT, simprocAttr]; trivial) | (simp only [zT, simprocAttr]; repeat' (fail))) (by simp) (by simp) (trivial) (by first | (simp [lkE_cons, lkE_nil]; done) | (intro j hj; simp at hj; simp only [lkE_cons, lkE_nil]; repeat rw [if_neg (by omega)])) (by first | (simp [Ent.pure]; done) | (simp [Ent.pure]; repeat' (first | (first | exact drows_nrow _ | exact drows_wrow _) | refine ⟨?_, ?_⟩))) (by simp) (by simp)) ?_
  refine RG.go fun Q hQ => ?_
  simp (disch := intros; contradiction) only [zS, simprocAttr]
  refine hQ (RG.nil ?_)
  simp only [zX]
  refine aw_reg 224 (RG.go fun Q hQ => ?_)
  simp (disch := intros; contradiction) only [zS, simprocAttr]
  refine hQ ?_
  refine RG.callo [] [] (volume_copied_con v ok) (.mk (by (repeat' (first | exact tr_nil | refine tr_cons ?_ ?_ | exact tr_agg (by repeat' (first | exact trivial | rfl | refine ⟨?_, ?_⟩))))) (by first | trivial | (simp only [zT, simprocAttr]; done) | (simp only [zT, simprocAttr]; trivial) | (simp only [zT, simprocAttr]; repeat' (fail))) (by simp) (by simp) (trivial) (by first | (simp [lkE_cons, lkE_nil]; done) | (intro j hj; simp at hj; simp only [lkE_cons, lkE_nil]; repeat rw [if_neg (by omega)])) (by first | (simp [Ent.pure]; done) | (simp [Ent.pure]; repeat' (first | (first | exact drows_nrow _ | exact drows_wrow _) | refine ⟨?_, ?_⟩))) (by simp) (by simp)) ?_
  refine RG.go fun Q hQ => ?_
  simp (disch := intros; contradiction) only [zS, simprocAttr]
  refine hQ (RG.nil ?_)
  simp only [zX]
  refine aw_reg 304 (RG.go fun Q hQ => ?_)
  simp (disch := intros; contradiction) only [zS, simprocAttr]
  refine hQ (RG.nil ?_)
  simp only [zX]
  refine aw_reg 368 (RG.go fun Q hQ => ?_)
  simp (disch := intros; contradiction) only [zS, k2, simprocAttr]
  refine hQ (RG.nil ?_)
  simp only [zX]
  refine aw_cond _ rfl trivial (fun ht => by cases ht) (fun hf => ?_)
  simp only [zX]
  refine aw_reg 432 (RG.go fun Q hQ => ?_)
  simp (disch := intros; contradiction) only [zS, k3, simprocAttr]
  refine hQ (RG.nil ?_)
  simp only [zX]
  refine aw_cond _ rfl trivial (fun ht => by cases ht) (fun hf => ?_)
  simp only [zX]
  refine aw_reg 496 (RG.go fun Q hQ => ?_)
  simp (disch := intros; contradiction) only [zS, k4, simprocAttr]
  refine hQ (RG.nil ?_)
  simp only [zX]
  refine aw_cond _ rfl trivial (fun ht => by cases ht) (fun hf => ?_)
  refine aw_reg 560 (RG.go fun Q hQ => ?_)
  simp (disch := intros; contradiction) only [zS, k5, simprocAttr]
  refine hQ (RG.nil ?_)
  simp only [zX]
  refine aw_cond _ rfl trivial (fun ht => by cases ht) (fun hf => ?_)
  simp only [zX]
  refine aw_reg 624 (RG.go fun Q hQ => ?_)
  simp (disch := intros; contradiction) only [zS, k6, simprocAttr]
  refine hQ (RG.nil ?_)
  simp only [zX]
  refine aw_cond _ rfl trivial (fun ht => by cases ht) (fun hf => ?_)
  refine aw_reg 688 (RG.go fun Q hQ => ?_)
  simp (disch := intros; contradiction) only [zS, k7, simprocAttr]
  refine hQ (RG.nil ?_)
  simp only [zX]
  refine aw_cond _ rfl trivial (fun ht => by cases ht) (fun hf => ?_)
  simp only [zX]
  refine aw_reg 752 (RG.go fun Q hQ => ?_)
  simp (disch := intros; contradiction) only [zS, k8, simprocAttr]
  refine hQ (RG.nil ?_)
  simp only [zX]
  refine aw_cond _ rfl trivial (fun ht => by cases ht) (fun hf => ?_)
  refine aw_reg 816 (RG.go fun Q hQ => ?_)
  simp (disch := intros; contradiction) only [zS, simprocAttr]
  refine hQ (RG.nil ?_)
  simp only [zX]
  refine aw_reg 864 (RG.go fun Q hQ => ?_)
  simp (disch := intros; contradiction) only [zS, simprocAttr]
  refine hQ (RG.nil ?_)
  simp only [zX]
  refine aw_cond _ rfl trivial (fun ht => ?_) (fun hf => by cases hf)
  simp only [zX]
  refine aw_reg 928 (RG.go fun Q hQ => ?_)
  simp (disch := intros; contradiction) only [zS, simprocAttr]
  refine hQ (RG.nil ?_)
  simp only [zX]
  refine Fin.data [128, 129] (.inr rfl) rfl (by (exact ⟨trivial, trivial, trivial⟩)) ?_
  simp only [zL, simprocAttr]
  all_goals ((repeat' (first | exact trivial | rfl | (refine ⟨⟨_, _, rfl⟩, ?_⟩; (first | exact drows_nrow _ | exact drows_wrow _)) | refine ⟨?_, ?_⟩)))

end Go.Abs

namespace Go.Abs
open Go Go.Proofs
set_option maxRecDepth 100000
set_option linter.unusedSimpArgs false
set_option maxHeartbeats 4000000

theorem while_parts {p : Int → Bool} : ∀ l : List Int, l.takeWhile p ++ l.dropWhile p = l := fun l => List.takeWhile_append_dropWhile
theorem insP_eq {t : Int} {l : List Int} (hs : l.Pairwise (· ≤ ·)) : isort (l ++ [t]) = insP t l := by
  symm
  have hp := while_parts (p := fun x => decide (x ≤ t)) l
  refine isort_unique ?_ ?_
  · unfold insP
    conv => rhs; rw [← hp]
    rw [List.append_assoc]
    exact List.Perm.append_left _ (List.perm_append_comm (l₁ := [t]))
  · have hs' := hs
    rw [← hp, List.pairwise_append] at hs'
    unfold insP
    rw [List.pairwise_append, List.pairwise_cons]
    refine ⟨hs'.1, ⟨fun y hy => ?_, hs'.2.1⟩, fun x hx y hy => ?_⟩
    · cases hd : l.dropWhile (fun x => decide (x ≤ t)) with
      | nil => rw [hd] at hy; cases hy
      | cons z r =>
        have hz : ¬ z ≤ t := by
          have := List.head_dropWhile_not (fun x => decide (x ≤ t)) (l := l) (by rw [hd]; simp)
          simpa [hd] using this
        rw [hd] at hy hs'
        rcases List.mem_cons.1 hy with rfl | hy
        · omega
        · have := (List.pairwise_cons.1 hs'.2.1).1 y hy; omega
    · have hxt : x ≤ t := by
        have := List.all_takeWhile (p := fun x => decide (x ≤ t)) (l := l)
        simpa using List.all_eq_true.1 this x hx
      rcases List.mem_cons.1 hy with rfl | hy
      · exact hxt
      · exact hs'.2.2 x hx y hy

theorem first_idx {t : Int} : ∀ {l : List Int}, t ∈ l → ∃ (k : Nat) (hk : k < l.length), l[k] = t ∧ ∀ i (hi : i < l.length), i < k → l[i] ≠ t
  | x :: l, h => by
    by_cases hx : x = t
    · exact ⟨0, by simp, by simp [hx], fun i _ h => by omega⟩
    · obtain ⟨k, hk, h1, h2⟩ := first_idx (l := l) (by rcases List.mem_cons.1 h with h | h; exact absurd h.symm hx; exact h)
      refine ⟨k + 1, by simpa using hk, by simpa using h1, fun i hi h => ?_⟩
      match i with
      | 0 => simpa using hx
      | i + 1 => simpa using h2 i (by simpa using hi) (by omega)

structure DoOk (v : VOL) (c : CMD) : Prop where
  ok : Vok v
  pins : v.pins.length < 60000
  sorted : v.pins.Pairwise (· ≤ ·)
  next : 0 ≤ v.next ∧ v.next ≤ 1099511627776
  items : c.items.length ≤ 1000000
  data : ∀ x ∈ c.items, x.d.length ≤ 1000000

theorem volume_Do_con (v : VOL) (c : CMD) (h : DoOk v c) : Con Try.prog 18 [.agg (volC v), .agg (cmdC c)] [] (doR (doV v c)) [] := by
  obtain ⟨ok, hp, hs, hn, hl, hd⟩ := h
  unfold doV
  split
  · rename_i hk; exact volume_Do_put v c ok hk hl hd
  split
  · rename_i hk
    unfold doPrune
    split
    · rename_i hh; exact Do_hid3 v c ok hk hh
    · rename_i hh
      have hh : v.hid = false := by simpa using hh
      split
      · rename_i h1; exact Do_prune_no v c ok hk hh 30 (by unfold timeE; rw [if_pos h1]) (by decide)
      split
      · rename_i h1 h2; exact Do_prune_no v c ok hk hh 31 (by unfold timeE; rw [if_neg h1, if_pos h2]) (by decide)
      · rename_i h1 h2; exact Do_prune_yes v c ok hk hh (timeE_of.2 (by omega))
  split
  · rename_i hk
    unfold doPin
    split
    · rename_i hh; exact Do_hid4 v c ok hk hh
    · rename_i hh
      have hh : v.hid = false := by simpa using hh
      split
      · rename_i h1; exact Do_pin_no v c ok hk hh 30 (by unfold timeE; rw [if_pos h1]) (by decide)
      split
      · rename_i h1 h2; exact Do_pin_no v c ok hk hh 31 (by unfold timeE; rw [if_neg h1, if_pos h2]) (by decide)
      · rename_i h1 h2
        rw [← insP_eq hs]
        exact Do_pin_yes v c ok hk hp hh (timeE_of.2 (by omega))
  split
  · rename_i hk
    unfold doUnpin
    split
    · rename_i hh; exact Do_hid5 v c ok hk hh
    · rename_i hh
      have hh : v.hid = false := by simpa using hh
      split
      · rename_i hm
        obtain ⟨k, hkl, h1, h2⟩ := first_idx hm
        rw [delP_at hkl h1 (fun x hx => by
          obtain ⟨i, hi, rfl⟩ := List.mem_iff_getElem.1 hx
          rw [List.getElem_take]
          simp at hi
          exact h2 i (by omega) (by omega))]
        exact Do_unpin_yes v c ok hk hh k hkl h1 h2 _ rfl
      · rename_i hm
        exact Do_unpin_no v c ok hk hh fun i hi he => hm (by rw [← he]; exact List.getElem_mem hi)
  split
  · rename_i h2 h3 h4 h5 hk
    unfold doImp
    split
    · rename_i hi
      rcases hk with hk | hk
      · exact Do_imp6_write v c ok hk hl hd ⟨hn.2, hn.1⟩ hi
      · exact Do_imp7_write v c ok hk hl hd ⟨hn.2, hn.1⟩ hi
    · rename_i w e hi
      split
      · rename_i he
        subst he
        rcases hk with hk | hk
        · have hw : w = v := by
            unfold impS at hi
            rw [if_neg (show ¬ c.kind = 7 by omega)] at hi
            split at hi
            · cases hi
            split at hi
            · cases hi; rfl
            split at hi
            · cases hi
            split at hi <;> cases hi
          subst hw
          exact Do_imp6_same w c ok hk hl hd hi
        · have hw : w = pubV v := by
            unfold impS at hi
            rw [if_pos hk] at hi
            split at hi
            · cases hi
            split at hi
            · cases hi; rfl
            · cases hi
          subst hw
          exact Do_imp7_same v c ok hk hl hd hi
      · rename_i he
        rcases hk with hk | hk
        · exact Do_imp6_no v c ok hk hl hd w e hi he
        · exact Do_imp7_no v c ok hk hl hd w e hi he
  split
  · rename_i hk; exact Do_stat v c ok hk
  · exact Do_other v c ok (by omega)

end Go.Abs

namespace Go.Abs
open Go Go.Proofs
set_option maxRecDepth 100000
set_option linter.unusedSimpArgs false
set_option maxHeartbeats 4000000

theorem mementohelp_Reply_con (a1 a2 a3 a4 b1 b2 b3 b4 : Int) (d e : List Nat) (hd : ∀ c ∈ d, c < 256) (he : ∀ c ∈ e, c < 256) :
    Con Try.prog 20 [.agg (repC a1 a2 a3 a4 d), .agg (repC b1 b2 b3 b4 e)] [] (B (decide (a1 = b1) && decide (a2 = b2) && decide (a3 = b3) && decide (a4 = b4) && decide (d = e))) [] := by
  have hs := str_eq d e hd he
  refine C_mementohelp_Reply (Nat.le_of_ble_eq_true rfl) (Nat.le_of_ble_eq_true rfl) ?_
  simp only [A_mementohelp_Reply, argL, objL, List.length_nil, Nat.zero_add, zX]
  refine aw_reg 16 (RG.go fun Q hQ => ?_)
  simp (disch := intros; contradiction) only [zS, repC, simprocAttr]
  refine hQ (RG.nil ?_)
  simp only [zX]
  refine aw_reg 96 (RG.go fun Q hQ => ?_)
  simp (disch := intros; contradiction) only [zS, hs, simprocAttr]
  repeat refine ⟨by (exact fun h => ⟨isByteRow_brow _, h⟩), ?_⟩
  refine hQ (RG.nil ?_)
  simp only [zX]
  refine Fin.b (.inr rfl) rfl trivial ?_
  rw [Bool.eq_iff_iff]; simp

def smallI (l : List IT) : Bool := decide (l.length ≤ 12) && l.all fun x => decide (x.d.length ≤ 40)
theorem SmallItems_con (l : List IT) : Con Try.prog 27 [.c (.sl (l.map irow))] [] (B (smallI l)) [] := by
  refine C_mementoseat_SmallItems (Nat.le_of_ble_eq_true rfl) (Nat.le_of_ble_eq_true rfl) ?_
  simp only [A_mementoseat_SmallItems, argL, objL, List.length_nil, zX]
  refine aw_reg 16 (RG.go fun Q hQ => ?_)
  simp (disch := intros; contradiction) only [zS, simprocAttr]
  refine hQ (RG.nil ?_)
  simp only [zX]
  refine aw_reg 64 (RG.go fun Q hQ => ?_)
  simp (disch := intros; contradiction) only [zS, zW, simprocAttr]
  refine hQ (RG.nil ?_)
  simp only [zX]
  refine aw_cond _ rfl trivial (fun ht => ?_) (fun hf => ?_)
  · skip
    try simp at ht
    simp only [zX]
    refine aw_reg 144 (RG.go fun Q hQ => ?_)
    simp (disch := intros; contradiction) only [zS, simprocAttr]
    refine hQ (RG.nil ?_)
    simp only [zX]
    refine Fin.b (.inr rfl) rfl trivial ?_
    rw [eq_comm, Bool.eq_false_iff]; intro h; simp [smallI] at h; omega
  try simp at hf
  simp only [zX]
  have h12 : l.length ≤ 12 := by omega
  refine aw_reg 192 (RG.go fun Q hQ => ?_)
  simp (disch := intros; contradiction) only [zS, simprocAttr]
  refine hQ (RG.nil ?_)
  simp only [zX]
  refine aw_loopK (X := { i : Nat // i ≤ l.length ∧ (l.take i).all (fun x => decide (x.d.length ≤ 40)) = true }) [0] (fun i => [(3, I i.1)]) [] (fun i => []) (fun i => l.length - i.1) (⟨0, by omega, rfl⟩) ?_ ?_
  · skip
    simp only [keepS, keepE, lk_cons, List.cons_append, List.nil_append, ↓reduceIte]
    refine Le.lit [] [] _ _ ?_ ?_ ?_ ?_
    · simp only [zL, simprocAttr]
    · simp only [zL, simprocAttr]
    · simp [rlook]
    · first | (simp; done) | (intro k hk; simp [rlook]; omega)
  rintro ⟨i, hi, ha⟩
  simp only [keepS, keepE, lk_cons, List.cons_append, List.nil_append, ↓reduceIte]
  simp only [zX]
  refine aw_reg 240 (RG.go fun Q hQ => ?_)
  simp (disch := intros; contradiction) only [zS, zW, simprocAttr]
  refine hQ (RG.nil ?_)
  simp only [zX]
  refine aw_cond _ rfl trivial (fun ht => ?_) (fun hf => ?_)
  · skip
    try simp at ht
    simp only [zX]
    have h1 : i < l.length := by omega
    refine aw_reg 336 (RG.go fun Q hQ => ?_)
    simp (disch := first | (intros; contradiction) | omega | (simp only [zN]; omega)) only [zS, zW, irow, itC, simprocAttr]
    repeat refine ⟨by (omega), ?_⟩
    refine hQ (RG.nil ?_)
    simp only [zX]
    refine aw_cond _ rfl trivial (fun ht => ?_) (fun hf => ?_)
    · skip
      try simp at ht
      simp only [zX]
      refine aw_reg 480 (RG.go fun Q hQ => ?_)
      simp (disch := intros; contradiction) only [zS, simprocAttr]
      refine hQ (RG.nil ?_)
      simp only [zX]
      refine Fin.b (.inr rfl) rfl trivial ?_
      rw [eq_comm, Bool.eq_false_iff]; intro h
      simp only [smallI, Bool.and_eq_true] at h
      have := List.all_eq_true.1 h.2 _ (List.getElem_mem h1)
      simp at this; omega
    try simp at hf
    simp only [zX]
    refine aw_reg 528 (RG.go fun Q hQ => ?_)
    simp (disch := first | (intros; contradiction) | omega | (simp only [zN]; omega)) only [zS, zW, simprocAttr]
    refine hQ (RG.nil ?_)
    simp only [zX]
    refine ⟨⟨i + 1, h1, by rw [all_succ h1, ha]; simp; omega⟩, ?_, by first | omega | (simp only; omega)⟩
    refine Le.lit [] [] _ _ ?_ ?_ ?_ ?_
    · simp only [zL, simprocAttr]
      all_goals (try ((repeat' (rfl))))
    · simp only [zL, simprocAttr]
    · simp [rlook]
    · first | (simp; done) | (intro k hk; simp [rlook]; omega)
  try simp at hf
  simp only [zX, ↓reduceIte]
  refine aw_reg 608 (RG.go fun Q hQ => ?_)
  simp (disch := intros; contradiction) only [zS, simprocAttr]
  refine hQ (RG.nil ?_)
  simp only [zX]
  refine Fin.b (.inr rfl) rfl trivial ?_
  rw [smallI, all_yes (by omega) ha]; simp [h12]

theorem SmallCmd_con (c : CMD) : Con Try.prog 12 [.agg (cmdC c)] [] (B (decide (c.place.length ≤ 40) && smallI c.items)) [] := by
  refine C_mementoseat_SmallCmd (Nat.le_of_ble_eq_true rfl) (Nat.le_of_ble_eq_true rfl) ?_
  simp only [A_mementoseat_SmallCmd, argL, objL, List.length_nil, zX]
  refine aw_reg 16 (RG.go fun Q hQ => ?_)
  simp (disch := intros; contradiction) only [zS, cmdC, cC, simprocAttr]
  refine hQ (RG.nil ?_)
  simp only [zX]
  refine aw_reg 80 (RG.go fun Q hQ => ?_)
  simp (disch := intros; contradiction) only [zS, zW, simprocAttr]
  refine hQ ?_
  refine RG.callg _ _ [] rfl (fun hg => ⟨_, (SmallItems_con c.items), by (repeat' (first | exact tr_nil | refine tr_cons ?_ ?_ | exact tr_opt (by simpa using hg) tr_sl)), trivial, by (exact .inl trivial)⟩) ?_
  refine RG.go fun Q hQ => ?_
  simp (disch := intros; contradiction) only [zS, simprocAttr]
  refine hQ (RG.nil ?_)
  simp only [zX]
  refine Fin.b (.inr rfl) rfl trivial ?_
  rw [Bool.eq_iff_iff]; simp; intro _; omega

end Go.Abs

namespace Go.Abs
open Go Go.Proofs
set_option maxRecDepth 100000
set_option linter.unusedSimpArgs false
set_option maxHeartbeats 4000000

def dataN (n k : Nat) : List Nat := (List.range n).map fun i => (k + i * 7) % 256
theorem dataN_succ (n k : Nat) : dataN (n + 1) k = dataN n k ++ [(k + n * 7) % 256] := by simp [dataN, List.range_succ]
theorem dataN_len (n k : Nat) : (dataN n k).length = n := by simp [dataN]
theorem dataN_by (n k : Nat) : ∀ c ∈ dataN n k, c < 256 := by
  intro c hc; obtain ⟨i, _, rfl⟩ := List.mem_map.1 hc; omega

theorem Data_con (n k : Nat) (hn : n ≤ 200) (hk : k < 256) : Con Try.prog 59 [I n, .c (.v (.int .u8 k))] [] (.c (.osl 0)) [.arr 5 1 ((dataN n k).map brow) false] := by
  refine C_mementoseat_Data (Nat.le_of_ble_eq_true rfl) (Nat.le_of_ble_eq_true rfl) ?_
  simp only [A_mementoseat_Data, argL, objL, List.length_nil, Nat.zero_add, zX]
  refine aw_reg 16 (RG.go fun Q hQ => ?_)
  simp (disch := intros; contradiction) only [zS, simprocAttr]
  refine hQ (RG.nil ?_)
  simp only [zX]
  refine aw_reg 64 (RG.go fun Q hQ => ?_)
  simp (disch := intros; contradiction) only [zS, simprocAttr]
  refine hQ (RG.nil ?_)
  simp only [zX]
  refine aw_reg 112 (RG.go fun Q hQ => ?_)
  simp (disch := intros; contradiction) only [zS, simprocAttr]
  refine hQ (RG.nil ?_)
  simp only [zX]
  refine aw_loopK (X := { i : Nat // i ≤ n }) [0, 1] (fun i => [(5, .c (.osl 5000)), (6, I i.1)]) [] (fun i => [(5000, .arr 5 1 ((dataN i.1 k).map brow) false)]) (fun i => n - i.1) (⟨0, by omega⟩) ?_ ?_
  · skip
    simp only [keepS, keepE, lk_cons, List.cons_append, List.nil_append, simprocAttr]
    refine (Le.own 5 5000 5 1 rfl rfl (by decide)).trans ?_
    simp only [setS_cons, setE_nil, simprocAttr]
    refine Le.lit [] [] _ _ ?_ ?_ ?_ ?_
    · simp only [zL, simprocAttr]
    · simp only [zL, simprocAttr]
      all_goals (try ((repeat' (first | (exact drows_brow _) | rfl | refine ⟨?_, ?_⟩))))
    · simp [rlook]
    · first | (simp; done) | (intro k hk; simp [rlook]; omega)
  rintro ⟨i, hi⟩
  simp only [keepS, keepE, lk_cons, List.cons_append, List.nil_append, simprocAttr]
  simp only [zX]
  have hl := dataN_len i k
  refine aw_reg 160 (RG.go fun Q hQ => ?_)
  simp (disch := intros; contradiction) only [zS, simprocAttr]
  refine hQ (RG.nil ?_)
  simp only [zX]
  refine aw_cond _ rfl trivial (fun ht => ?_) (fun hf => ?_)
  · skip
    try simp at ht
    simp only [zX]
    have e1 : IntKind.u8.wrap ((k : Int) + IntKind.u8.wrap ((i : Int) * 7)) = (((k + i * 7) % 256 : Nat) : Int) := by rw [w_u8, w_u8]; omega
    have e2 : (dataN i k).map brow ++ [[.v (.int .u8 (((k + i * 7) % 256 : Nat) : Int))]] = (dataN (i + 1) k).map brow := by rw [dataN_succ, List.map_append]; rfl
    refine aw_reg 240 (RG.go fun Q hQ => ?_)
    simp (disch := first | (intros; contradiction) | omega | (simp only [zN]; omega)) only [zS, zW, e1, e2, hl, simprocAttr]
    repeat refine ⟨by ((simp; omega)), ?_⟩
    refine hQ (RG.nil ?_)
    simp only [zX]
    refine aw_reg 416 (RG.go fun Q hQ => ?_)
    simp (disch := first | (intros; contradiction) | omega | (simp only [zN]; omega)) only [zS, zW, simprocAttr]
    refine hQ (RG.nil ?_)
    simp only [zX]
    refine ⟨⟨i + 1, by omega⟩, ?_, by first | omega | (simp only; omega)⟩
    refine Le.lit [] [(5000, 352)] _ _ ?_ ?_ ?_ ?_
    · simp only [zL, simprocAttr]
      all_goals (try ((repeat' (rfl))))
    · simp only [zL, simprocAttr]
      all_goals (try ((repeat' ((exact drows_brow _)))))
    · simp [rlook]
    · first | (simp; done) | (intro k hk; simp [rlook]; omega)
  try simp at hf
  simp only [zX, ↓reduceIte]
  obtain rfl : i = n := by omega
  refine aw_reg 496 (RG.go fun Q hQ => ?_)
  simp (disch := intros; contradiction) only [zS, simprocAttr]
  refine hQ (RG.nil ?_)
  simp only [zX]
  refine Fin.objs [] [(0, 5000)] (.inr rfl) rfl (by first | exact trivial | exact ⟨trivial, trivial⟩ | exact ⟨trivial, trivial, trivial⟩) ?_ ?_ (by simp [objL, rlook]) (by first | (simp [objL, rlook]; done) | (intro k hk; simp [objL, rlook]; omega))
  · simp only [zL, simprocAttr]
  · simp only [zL, simprocAttr]
    all_goals (try ((repeat' ((exact drows_brow _)))))

theorem DataD_con (n k : Nat) (hn : n ≤ 200) (hk : k < 256) : Con Try.prog 59 [I n, .c (.v (.int .u8 k))] [] (.c (.sl ((dataN n k).map brow))) [] :=
  (Data_con n k hn hk).rows (drows_brow _)

def hasB (b : Int) (l : List IT) : Bool := l.any fun y => decide (y.b = b)
def itsStep (blocks size : Nat) (acc : List IT) (c : Nat) : List IT := if hasB ((c % max blocks 1 : Nat)) acc then acc else acc ++ [⟨(c % max blocks 1 : Nat), dataN size c⟩]
def itsF (blocks size : Nat) : List Nat → List IT → List IT
  | [], acc => acc
  | c :: l, acc => if acc.length < 8 then itsF blocks size l (itsStep blocks size acc c) else acc
def itsN (blocks size : Nat) (l : List Nat) : List IT := itsF blocks size l []

theorem Items_con (blocks size : Nat) (l : List Nat) (hb : blocks ≤ 1000000) (hs : size ≤ 200) (hl : l.length ≤ 1000000) (h8 : ∀ c ∈ l, c < 256) :
    Con Try.prog 38 [I blocks, I size, .c (.sl (l.map brow))] [] (.c (.osl 0)) [.arr 76 2 ((itsN blocks size l).map irow) false] := by
  obtain ⟨q, hq⟩ : ∃ q, q = max blocks 1 := ⟨_, rfl⟩
  have hqi : (if (blocks : Int) < 1 then 1 else (blocks : Int)) = (q : Int) := by split <;> omega
  obtain ⟨R, hR⟩ : ∃ R, R = itsN blocks size l := ⟨_, rfl⟩
  rw [← hR]
  refine C_mementoseat_Items (Nat.le_of_ble_eq_true rfl) (Nat.le_of_ble_eq_true rfl) ?_
  simp only [A_mementoseat_Items, argL, objL, List.length_nil, Nat.zero_add, zX, simprocAttr]
  refine aw_reg 16 (RG.go fun Q hQ => ?_)
  simp (disch := intros; contradiction) only [zS, simprocAttr]
  refine hQ (RG.nil ?_)
  simp only [zX]
  refine aw_reg 64 (RG.go fun Q hQ => ?_)
  simp (disch := intros; contradiction) only [zS, simprocAttr]
  refine hQ (RG.nil ?_)
  simp only [zX]
  refine aw_reg 112 (RG.go fun Q hQ => ?_)
  simp (disch := intros; contradiction) only [zS, simprocAttr]
  refine hQ (RG.nil ?_)
  simp only [zX]
  refine aw_loopK (X := { p : Nat × List IT // p.1 ≤ l.length ∧ itsF blocks size (l.drop p.1) p.2 = R ∧ p.2.length ≤ 8 }) [0, 1, 2] (fun p => [(7, .c (.osl 5000)), (8, I p.1.1)]) [] (fun p => [(5000, .arr 76 2 (p.1.2.map irow) false)]) (fun p => l.length - p.1.1) (⟨(0, []), by simp only; omega, hR.symm, by simp⟩) ?_ ?_
  · skip
    simp only [keepS, keepE, lk_cons, List.cons_append, List.nil_append, simprocAttr]
    refine (Le.own 7 5000 76 2 rfl rfl (by decide)).trans ?_
    simp only [setS_cons, setE_nil, simprocAttr]
    refine Le.lit [] [] _ _ ?_ ?_ ?_ ?_
    · simp only [zL, simprocAttr]
    · simp only [zL, simprocAttr]
      all_goals (try ((repeat' (((simp [C.isD]; done))))))
    · simp [rlook]
    · first | (simp; done) | (intro k hk; simp [rlook]; omega)
  rintro ⟨⟨i, acc⟩, h1, h2, h3⟩
  simp only [keepS, keepE, lk_cons, List.cons_append, List.nil_append, simprocAttr]
  simp only [zX]
  simp only at h1 h2 h3
  refine aw_reg 160 (RG.go fun Q hQ => ?_)
  simp (disch := intros; contradiction) only [zS, zW, simprocAttr]
  refine hQ (RG.nil ?_)
  simp only [zX]
  refine aw_cond _ rfl trivial (fun ht => ?_) (fun hf => ?_)
  rotate_left
  · skip
    try simp at hf
    simp only [zX, ↓reduceIte]
    have hd : itsF blocks size (l.drop i) acc = acc := by
      rcases Nat.lt_or_ge i l.length with h | h
      · rw [drop_get h]; unfold itsF; rw [if_neg (by omega)]
      · rw [List.drop_of_length_le h]; rfl
    rw [hd] at h2
    subst h2
    refine aw_reg 336 (RG.go fun Q hQ => ?_)
    simp (disch := intros; contradiction) only [zS, simprocAttr]
    refine hQ (RG.nil ?_)
    simp only [zX]
    refine Fin.objs [] [(0, 5000)] (.inr rfl) rfl (by first | exact trivial | exact ⟨trivial, trivial⟩ | exact ⟨trivial, trivial, trivial⟩) ?_ ?_ (by simp [objL, rlook]) (by first | (simp [objL, rlook]; done) | (intro k hk; simp [objL, rlook]; omega))
    · simp only [zL, simprocAttr]
    · simp only [zL, simprocAttr]
      all_goals (try ((repeat' ((exact drows_irow _)))))
  try simp at ht
  simp only [zX]
  have hi : i < l.length := by omega
  have hc8 := h8 _ (List.getElem_mem hi)
  rw [drop_get hi] at h2
  unfold itsF at h2
  rw [if_pos (by omega)] at h2
  have e1 : (l[i] : Int) % (q : Int) = ((l[i] % q : Nat) : Int) := by omega
  obtain ⟨b, hb2⟩ : ∃ b, b = l[i] % q := ⟨_, rfl⟩
  rw [← hb2] at e1
  have hstep : itsStep blocks size acc l[i] = if hasB b acc then acc else acc ++ [⟨b, dataN size l[i]⟩] := by unfold itsStep; rw [← hq, ← hb2]
  rw [hstep] at h2
  refine aw_reg 400 (RG.go fun Q hQ => ?_)
  simp (disch := first | (intros; contradiction) | omega | (simp only [zN]; omega)) only [zS, zW, brow, hqi, e1, simprocAttr]
  repeat refine ⟨by (omega), ?_⟩
  refine hQ (RG.nil ?_)
  simp only [zX]
  refine aw_reg 576 (RG.go fun Q hQ => ?_)
  simp (disch := intros; contradiction) only [zS, simprocAttr]
  refine hQ (RG.nil ?_)
  simp only [zX]
  refine aw_reg 624 (RG.go fun Q hQ => ?_)
  simp (disch := intros; contradiction) only [zS, simprocAttr]
  refine hQ (RG.nil ?_)
  simp only [zX]
  refine aw_loopK (X := { k : Nat // k ≤ acc.length }) [0, 1, 2, 7, 8, 9] (fun k => [(10, B (hasB b (acc.take k.1))), (11, I k.1)]) [5000] (fun k => []) (fun k => acc.length - k.1) (⟨0, by omega⟩) ?_ ?_
  · skip
    simp only [keepS, keepE, Option.getD_some, lk_cons, lkE_cons, List.cons_append, List.nil_append, simprocAttr]
    refine Le.lit [] [] _ _ ?_ ?_ ?_ ?_
    · simp only [zL, simprocAttr]
      all_goals (try ((repeat' (rfl))))
    · simp only [zL, simprocAttr]
      all_goals (try ((repeat' ((exact drows_irow _)))))
    · simp [rlook]
    · first | (simp; done) | (intro k hk; simp [rlook]; omega)
  rintro ⟨k, hk⟩
  simp only [keepS, keepE, Option.getD_some, lk_cons, lkE_cons, List.cons_append, List.nil_append, simprocAttr]
  simp only [zX]
  refine aw_reg 672 (RG.go fun Q hQ => ?_)
  simp (disch := intros; contradiction) only [zS, zW, simprocAttr]
  refine hQ (RG.nil ?_)
  simp only [zX]
  refine aw_cond _ rfl trivial (fun ht => ?_) (fun hf => ?_)
  · skip
    try simp at ht
    simp only [zX]
    have hkl : k < acc.length := by omega
    have e3 : hasB b (acc.take (k + 1)) = (hasB b (acc.take k) || (acc[k].b == (b : Int))) := by
      unfold hasB; rw [take_one _ _ hkl, List.any_append]; simp; rw [Bool.eq_iff_iff]; simp
    refine aw_reg 768 (RG.go fun Q hQ => ?_)
    simp (disch := first | (intros; contradiction) | omega | (simp only [zN]; omega)) only [zS, zW, irow, itC, simprocAttr]
    repeat refine ⟨by (first | (simp; done) | (intro h; refine ⟨?_, h⟩; simp [] at h; omega)), ?_⟩
    refine hQ (RG.nil ?_)
    simp only [zX]
    refine aw_reg 976 (RG.go fun Q hQ => ?_)
    simp (disch := first | (intros; contradiction) | omega | (simp only [zN]; omega)) only [zS, zW, simprocAttr]
    refine hQ (RG.nil ?_)
    simp only [zX]
    refine ⟨⟨k + 1, hkl⟩, ?_, by first | omega | (simp only; omega)⟩
    refine Le.lit [] [] _ _ ?_ ?_ ?_ ?_
    · simp only [zL, simprocAttr]
      all_goals (rw [e3]; (repeat' ((simp; done))))
    · simp only [zL, simprocAttr]
      all_goals (try ((repeat' ((exact drows_irow _)))))
    · simp [rlook]
    · first | (simp; done) | (intro k hk; simp [rlook]; omega)
  try simp at hf
  simp only [zX, ↓reduceIte]
  obtain rfl : k = acc.length := by omega
  refine aw_reg 1056 (RG.go fun Q hQ => ?_)
  simp (disch := intros; contradiction) only [zS, zW, simprocAttr]
  refine hQ (RG.nil ?_)
  simp only [zX]
  refine aw_cond _ rfl trivial (fun ht => ?_) (fun hf => ?_)
  · skip
    try simp at ht
    refine aw_reg 1120 (RG.go fun Q hQ => ?_)
    simp (disch := first | (intros; contradiction) | omega | (simp only [zN]; omega)) only [zS, zW, brow, simprocAttr]
    repeat refine ⟨by (omega), ?_⟩
    refine hQ ?_
    refine RG.call [] (DataD_con size l[i] hs hc8) (by (repeat' (first | exact tr_nil | refine tr_cons ?_ ?_ | exact tr_v))) trivial (by (exact .inr ⟨rfl, trivial⟩)) ?_
    refine RG.go fun Q hQ => ?_
    simp (disch := intros; contradiction) only [zS, zW, simprocAttr]
    rw [if_neg (by simp [ht])] at h2
    have e2 : (acc ++ [(⟨(b : Int), dataN size l[i]⟩ : IT)]).map irow = acc.map irow ++ [[.v (.int .i64 b), .sl ((dataN size l[i]).map brow)]] := by rw [List.map_append]; rfl
    repeat refine ⟨by ((simp; omega)), ?_⟩
    refine hQ (RG.nil ?_)
    simp only [zX]
    refine aw_reg 1344 (RG.go fun Q hQ => ?_)
    simp (disch := first | (intros; contradiction) | omega | (simp only [zN]; omega)) only [zS, zW, simprocAttr]
    refine hQ (RG.nil ?_)
    simp only [zX]
    refine ⟨⟨(i + 1, acc ++ [⟨b, dataN size l[i]⟩]), by simp only; omega, h2, by simp; omega⟩, ?_, by first | omega | (simp only; omega)⟩
    refine Le.lit [] [(5000, 1280)] _ _ ?_ ?_ ?_ ?_
    · simp only [zL, simprocAttr]
      all_goals (try ((repeat' (rfl))))
    · simp only [zL, simprocAttr]
      all_goals (rw [e2]; exact ⟨rfl, by rw [← e2]; exact drows_irow _⟩; skip)
    · simp [rlook]
    · first | (simp; done) | (intro k hk; simp [rlook]; omega)
  try simp at hf
  simp only [zX]
  rw [if_pos hf] at h2
  refine aw_reg 1424 (RG.go fun Q hQ => ?_)
  simp (disch := first | (intros; contradiction) | omega | (simp only [zN]; omega)) only [zS, zW, simprocAttr]
  refine hQ (RG.nil ?_)
  simp only [zX]
  refine ⟨⟨(i + 1, acc), by simp only; omega, h2, h3⟩, ?_, by first | omega | (simp only; omega)⟩
  refine Le.lit [] [] _ _ ?_ ?_ ?_ ?_
  · simp only [zL, simprocAttr]
    all_goals (try ((repeat' (rfl))))
  · simp only [zL, simprocAttr]
    all_goals (try ((repeat' ((exact drows_irow _)))))
  · simp [rlook]
  · first | (simp; done) | (intro k hk; simp [rlook]; omega)

end Go.Abs

namespace Go.Abs
open Go Go.Proofs
set_option maxRecDepth 100000
set_option linter.unusedSimpArgs false
set_option maxHeartbeats 4000000

def placeN (per n : Nat) : List Int := (List.range n).map fun i => ((1 + (i + per) % 2 : Nat) : Int)
theorem placeN_succ (per n : Nat) : placeN per (n + 1) = placeN per n ++ [((1 + (n + per) % 2 : Nat) : Int)] := by simp [placeN, List.range_succ]
theorem placeN_len (per n : Nat) : (placeN per n).length = n := by simp [placeN]
def createC (vol blocks size per total : Nat) : CMD :=
  ⟨1, (vol % 3 : Nat), (blocks % 9 + 1 : Nat), (size % 3 + 1 : Nat), (per % (blocks % 9 + 1) + 1 : Nat), placeN per (chunksN (blocks % 9 + 1 : Nat) (per % (blocks % 9 + 1) + 1 : Nat)).toNat, total, 0, 0, []⟩

theorem Create_con (vol blocks size per total : Nat) (h1 : vol < 256) (h2 : blocks < 256) (h3 : size < 256) (h4 : per < 256) (h5 : total < 1000) :
    Con Try.prog 16 [.c (.v (.int .u8 vol)), .c (.v (.int .u8 blocks)), .c (.v (.int .u8 size)), .c (.v (.int .u8 per)), I total] [] (.agg (cmdC (createC vol blocks size per total))) [] := by
  obtain ⟨b, hb⟩ : ∃ b, b = blocks % 9 + 1 := ⟨_, rfl⟩
  obtain ⟨p, hp⟩ : ∃ p, p = per % b + 1 := ⟨_, rfl⟩
  have hpb : p ≤ b := by have := Nat.mod_lt per (show 0 < b by omega); omega
  obtain ⟨c1, c2⟩ := chunks_nn (b := b) (p := p) (by omega) (by omega)
  obtain ⟨m, hm⟩ : ∃ m, m = (chunksN b p).toNat := ⟨_, rfl⟩
  have hmc : chunksN b p = (m : Int) := by omega
  have e1 : (blocks : Int) % 9 + 1 = (b : Int) := by omega
  have e2 : (per : Int) % (b : Int) + 1 = (p : Int) := by omega
  have e3 : (vol : Int) % 3 = ((vol % 3 : Nat) : Int) := by omega
  have e4 : (size : Int) % 3 + 1 = ((size % 3 + 1 : Nat) : Int) := by omega
  have cC := mementoref16_Chunks_con b p (by omega) (by omega)
  rw [hmc] at cC
  have hres : cmdC (createC vol blocks size per total) = [.v (.int .i64 1), .v (.int .i64 (vol % 3 : Nat)), .v (.int .i64 b), .v (.int .i64 (size % 3 + 1 : Nat)), .v (.int .i64 p), .sl ((placeN per m).map nrow), .v (.int .i64 total), .v (.int .i64 0), .v (.int .i64 0), .sl []] := by
    unfold createC; rw [← hb, ← hp, ← hm]; rfl
  rw [hres]
  refine C_mementoseat_Create (Nat.le_of_ble_eq_true rfl) (Nat.le_of_ble_eq_true rfl) ?_
  simp only [A_mementoseat_Create, argL, objL, List.length_nil, Nat.zero_add, zX, simprocAttr]
  refine aw_reg 16 (RG.go fun Q hQ => ?_)
  simp (disch := intros; contradiction) only [zS, simprocAttr]
  refine hQ (RG.nil ?_)
  simp only [zX]
  refine aw_reg 64 (RG.go fun Q hQ => ?_)
  simp (disch := first | (intros; contradiction) | omega | (simp only [zN]; omega)) only [zS, zW, e1, e3, e4, simprocAttr]
  repeat refine ⟨by (omega), ?_⟩
  refine hQ (RG.nil ?_)
  simp only [zX]
  refine aw_reg 336 (RG.go fun Q hQ => ?_)
  simp (disch := first | (intros; contradiction) | omega | (simp only [zN]; omega)) only [zS, zW, e2, simprocAttr]
  repeat refine ⟨by (omega), ?_⟩
  refine hQ (RG.nil ?_)
  simp only [zX]
  refine aw_reg 496 (RG.go fun Q hQ => ?_)
  simp (disch := intros; contradiction) only [zS, simprocAttr]
  refine hQ (RG.nil ?_)
  simp only [zX]
  refine aw_loopK (X := { i : Nat // i ≤ m }) [3, 10, 11] (fun i => [(12, I i.1)]) [16] (fun i => [(272, .box [.v (.int .i64 1), .v (.int .i64 (vol % 3 : Nat)), .v (.int .i64 b), .v (.int .i64 (size % 3 + 1 : Nat)), .v (.int .i64 p), .osl 5000, .v (.int .i64 total), .v (.int .i64 0), .v (.int .i64 0), .v (.slice none 0 0)]), (5000, .arr 3 1 ((placeN per i.1).map nrow) false)]) (fun i => m - i.1) (⟨0, by omega⟩) ?_ ?_
  · skip
    simp only [keepS, keepE, Option.getD_some, lk_cons, lkE_cons, List.cons_append, List.nil_append, simprocAttr]
    refine (Le.ownB 272 5 5000 _ 3 1 rfl rfl rfl (by decide)).trans ?_
    simp only [List.set_cons_succ, List.set_cons_zero, setE_cons, setE_nil, simprocAttr]
    refine Le.lit [] [] _ _ ?_ ?_ ?_ ?_
    · simp only [zL, simprocAttr]
    · simp only [zL, simprocAttr]
      all_goals (try ((repeat' (first | (exact drows_nrow _) | rfl | refine ⟨?_, ?_⟩))))
    · simp [rlook]
    · first | (simp; done) | (intro k hk; simp [rlook]; omega)
  rintro ⟨i, hi⟩
  simp only [keepS, keepE, Option.getD_some, lk_cons, lkE_cons, List.cons_append, List.nil_append, simprocAttr]
  simp only [zX]
  have hl := placeN_len per i
  refine aw_reg 544 (RG.go fun Q hQ => ?_)
  simp (disch := intros; contradiction) only [zS, simprocAttr]
  refine hQ ?_
  refine RG.call [] (cC) (by (repeat' (first | exact tr_nil | refine tr_cons ?_ ?_ | exact tr_v))) trivial (by (exact .inl trivial)) ?_
  refine RG.go fun Q hQ => ?_
  simp (disch := intros; contradiction) only [zS, simprocAttr]
  refine hQ (RG.nil ?_)
  simp only [zX]
  refine aw_cond _ rfl trivial (fun ht => ?_) (fun hf => ?_)
  · skip
    try simp at ht
    simp only [zX]
    have e5 : 1 + ((i : Int) + per) % 2 = ((1 + (i + per) % 2 : Nat) : Int) := by omega
    have e6 : (placeN per i).map nrow ++ [[.v (.int .i64 ((1 + (i + per) % 2 : Nat) : Int))]] = (placeN per (i + 1)).map nrow := by rw [placeN_succ, List.map_append]; rfl
    refine aw_reg 688 (RG.go fun Q hQ => ?_)
    simp (disch := first | (intros; contradiction) | omega | (simp only [zN]; omega)) only [zS, zW, e5, e6, hl, simprocAttr]
    repeat refine ⟨by (first | omega | (simp; omega)), ?_⟩
    refine hQ (RG.nil ?_)
    simp only [zX]
    refine aw_reg 912 (RG.go fun Q hQ => ?_)
    simp (disch := first | (intros; contradiction) | omega | (simp only [zN]; omega)) only [zS, zW, simprocAttr]
    refine hQ (RG.nil ?_)
    simp only [zX]
    refine ⟨⟨i + 1, by omega⟩, ?_, by first | omega | (simp only; omega)⟩
    refine Le.lit [] [(5000, 832)] _ _ ?_ ?_ ?_ ?_
    · simp only [zL, simprocAttr]
      all_goals (try ((repeat' (rfl))))
    · simp only [zL, simprocAttr]
      all_goals (try (exact drows_nrow _))
    · simp [rlook]
    · first | (simp; done) | (intro k hk; simp [rlook]; omega)
  try simp at hf
  simp only [zX, ↓reduceIte]
  obtain rfl : i = m := by omega
  refine aw_reg 992 (RG.go fun Q hQ => ?_)
  simp (disch := intros; contradiction) only [zS, simprocAttr]
  refine hQ (RG.nil ?_)
  simp only [zX]
  refine Fin.data [5000] (.inr rfl) rfl (by (exact ⟨trivial, trivial⟩)) ?_
  simp only [zL, simprocAttr]
  all_goals ((repeat' (first | exact trivial | rfl | (refine ⟨⟨_, _, rfl⟩, ?_⟩; (exact drows_nrow _)) | refine ⟨?_, ?_⟩)))

end Go.Abs

namespace Go.Abs
open Go Go.Proofs
set_option maxRecDepth 100000
set_option linter.unusedSimpArgs false
set_option maxHeartbeats 4000000

theorem rightV_iff {v : VOL} : rightV v = true ↔ shapeV v = true ∧ (0 ≤ v.next ∧ v.next ≤ v.total) ∧ (v.hid = true ∨ v.next = v.total) ∧ (v.hid = false ∨ v.total ≠ 0) ∧ 0 ≤ v.floor ∧ v.floor ≤ lenV v ∧ pinsR (lenV v) v.floor v.pins = true ∧ wsR v.blocks v.size 0 v.ws = true := by
  unfold rightV
  simp [inR, and_assoc]

theorem pinsR_iff {n : Int} : ∀ {l : List Int} {last : Int}, pinsR n last l = true ↔ (∀ p ∈ l, last ≤ p ∧ p ≤ n) ∧ l.Pairwise (· ≤ ·)
  | [], last => by simp [pinsR]
  | p :: l, last => by
    simp only [pinsR, Bool.and_eq_true, decide_eq_true_eq, pinsR_iff (l := l), List.mem_cons, List.pairwise_cons]
    constructor
    · rintro ⟨⟨h1, h2⟩, h3, h4⟩
      refine ⟨?_, fun q hq => (h3 q hq).1, h4⟩
      rintro q (rfl | hq)
      · exact ⟨h1, h2⟩
      · exact ⟨by have := (h3 q hq).1; omega, (h3 q hq).2⟩
    · rintro ⟨h1, h2, h3⟩
      exact ⟨h1 p (.inl rfl), fun q hq => ⟨h2 q hq, (h1 q (.inr hq)).2⟩, h3⟩

theorem wsR_app {b s : Int} {w : WR} : ∀ {l : List WR} {i : Nat}, wsR b s i (l ++ [w]) = (wsR b s i l && (decide (w.s = (i : Int) + l.length + 1) && itemsR b s w.its))
  | [], i => by simp [wsR]
  | x :: l, i => by
    simp only [List.cons_append, wsR, wsR_app (l := l), List.length_cons, Bool.and_assoc]
    congr 3
    rw [show ((i + 1 : Nat) : Int) + l.length + 1 = (i : Int) + ((l.length + 1 : Nat) : Int) + 1 by omega]

structure Vgood (v : VOL) (n : Nat) : Prop where
  right : rightV v = true
  by8 : byW v.ws
  ws : v.ws.length ≤ n
  pins : v.pins.length ≤ n
  hidp : v.hid = true → v.pins = []

theorem Vgood.mono {v : VOL} {n m : Nat} (h : Vgood v n) (hm : n ≤ m) : Vgood v m := ⟨h.right, h.by8, by have := h.ws; omega, by have := h.pins; omega, h.hidp⟩

theorem shape_lims {v : VOL} (h : shapeV v = true) : (0 ≤ v.id ∧ v.id ≤ 7) ∧ (1 ≤ v.blocks ∧ v.blocks ≤ 256) ∧ (1 ≤ v.size ∧ v.size ≤ 32) ∧ (1 ≤ v.per ∧ v.per ≤ v.blocks) ∧ (v.place.length : Int) = chunksN v.blocks v.per ∧ (0 ≤ v.total ∧ v.total ≤ 1099511627776) ∧ v.place.length ≤ 512 := by
  have h' := h
  simp only [shapeV, shapeP, Bool.and_eq_true, inR_iff, decide_eq_true_eq] at h'
  obtain ⟨⟨⟨⟨⟨⟨h1, h2⟩, h3⟩, h4⟩, h5⟩, h6⟩, _⟩ := h'
  have := (chunks_nn (b := v.blocks) (p := v.per) (by omega) (by omega)).2
  exact ⟨h1, h2, h3, h4, h5, h6, by omega⟩

theorem Vgood.ok {v : VOL} {n : Nat} (h : Vgood v n) (hn : n ≤ 50000) : Vok v := by
  obtain ⟨h1, h2, h3, h4, h5⟩ := h
  obtain ⟨r1, r2, r3, r4, r5, r6, r7, r8⟩ := rightV_iff.1 h1
  obtain ⟨s1, s2, s3, s4, s5, s6, s7⟩ := shape_lims r1
  refine ⟨by omega, by omega, by omega, fun w hw => ?_⟩
  have hi := wsR_mem r8 w hw
  exact ⟨by have := (itemsR_len hi).2; omega, fun x hx => by have := (itemsR_mem hi x hx).2.2; omega⟩

theorem Vgood.next {v : VOL} {n : Nat} (h : Vgood v n) : 0 ≤ v.next ∧ v.next ≤ 1099511627776 := by
  obtain ⟨r1, r2, r3, r4, r5, r6, r7, r8⟩ := rightV_iff.1 h.right
  obtain ⟨s1, s2, s3, s4, s5, s6, s7⟩ := shape_lims r1
  omega

theorem Vgood.do {v : VOL} {n : Nat} (h : Vgood v n) (hn : n ≤ 50000) {c : CMD} (hl : c.items.length ≤ 1000000) (hd : ∀ x ∈ c.items, x.d.length ≤ 1000000) : DoOk v c := by
  have h0 := h
  obtain ⟨h1, h2, h3, h4, h5⟩ := h
  obtain ⟨r1, r2, r3, r4, r5, r6, r7, r8⟩ := rightV_iff.1 h1
  exact ⟨h0.ok hn, by omega, (pinsR_iff.1 r7).2, h0.next, hl, hd⟩

theorem Vgood.new {c : CMD} (h : shapeV (newV c) = true) : Vgood (newV c) 0 := by
  have s6 : 0 ≤ c.total := (shape_lims h).2.2.2.2.2.1.1
  refine ⟨rightV_iff.2 ⟨h, ⟨Int.le_refl _, s6⟩, ?_, ?_, Int.le_refl _, ?_, rfl, rfl⟩, fun w hw => (by cases hw), Nat.le_refl _, Nat.le_refl _, fun _ => rfl⟩
  · show decide (0 < c.total) = true ∨ 0 = c.total
    simp; omega
  · show decide (0 < c.total) = false ∨ c.total ≠ 0
    simp; omega
  · simp [newV, lenV]

theorem insP_mem {t x : Int} {l : List Int} (hs : l.Pairwise (· ≤ ·)) : x ∈ insP t l ↔ x ∈ l ∨ x = t := by
  rw [← insP_eq hs]
  have := (isort_perm (l ++ [t])).mem_iff (a := x)
  rw [this]; simp
theorem insP_sorted {t : Int} {l : List Int} (hs : l.Pairwise (· ≤ ·)) : (insP t l).Pairwise (· ≤ ·) := by
  rw [← insP_eq hs]; exact isort_sorted _
theorem insP_len {t : Int} {l : List Int} (hs : l.Pairwise (· ≤ ·)) : (insP t l).length = l.length + 1 := by
  rw [← insP_eq hs, isort_len]; simp
theorem delP_sub {t : Int} : ∀ l : List Int, (delP t l).Sublist l
  | [] => .slnil
  | x :: l => by
    unfold delP
    split
    · exact List.sublist_cons_self _ _
    · exact (delP_sub l).cons_cons _
theorem lowL_le : ∀ (l : List Int) (n : Int), lowL n l ≤ n ∧ ∀ p ∈ l, lowL n l ≤ p
  | [], n => ⟨Int.le_refl _, fun p hp => (by cases hp)⟩
  | x :: l, n => by
    have := lowL_le l (min n x)
    have e : lowL n (x :: l) = lowL (min n x) l := rfl
    rw [e]
    refine ⟨by omega, fun p hp => ?_⟩
    rcases List.mem_cons.1 hp with rfl | hp
    · omega
    · exact this.2 p hp

theorem Vgood.add {v : VOL} {n : Nat} (h : Vgood v n) {l : List IT} (hr : itemsR v.blocks v.size l = true) (hb : byI l) : Vgood (addW v l) (n + 1) := by
  obtain ⟨h1, h2, h3, h4, h5⟩ := h
  obtain ⟨r1, r2, r3, r4, r5, r6, r7, r8⟩ := rightV_iff.1 h1
  have hlen : lenV (addW v l) = lenV v + 1 := by simp [lenV, addW]
  refine ⟨rightV_iff.2 ⟨r1, r2, r3, r4, r5, by rw [hlen]; show v.floor ≤ _; omega, ?_, ?_⟩, fun w hw => ?_, by simp [addW]; omega, by show v.pins.length ≤ _; omega, h5⟩
  · rw [hlen]; show pinsR _ v.floor v.pins = true
    obtain ⟨p1, p2⟩ := pinsR_iff.1 r7
    exact pinsR_iff.2 ⟨fun p hp => by have := p1 p hp; omega, p2⟩
  · show wsR v.blocks v.size 0 (v.ws ++ [⟨v.ws.length + 1, l⟩]) = true
    rw [wsR_app, r8]; simp [hr]
  · simp only [addW, List.mem_append, List.mem_singleton] at hw
    rcases hw with hw | rfl
    · exact h2 w hw
    · exact hb

theorem Vgood.doV {v : VOL} {n : Nat} (h : Vgood v n) {c : CMD} (hb : byI c.items) : Vgood (doV v c).v (n + 1) := by
  have hm := h.mono (Nat.le_succ n)
  have hf : ∀ e, Vgood (fail v e).v (n + 1) := fun e => hm
  obtain ⟨h1, h2, h3, h4, h5⟩ := h
  obtain ⟨r1, r2, r3, r4, r5, r6, r7, r8⟩ := rightV_iff.1 h1
  obtain ⟨p1, p2⟩ := pinsR_iff.1 r7
  have himp : Vgood (doImp v c).v (n + 1) := by
    unfold doImp
    split
    · rename_i hi
      unfold impS at hi
      split at hi
      · cases hi
      split at hi
      · split at hi <;> cases hi
      split at hi
      · cases hi
      split at hi
      · cases hi
      rename_i g1 g2 g3 g4
      split at hi
      · rename_i g5
        have ha := Vgood.add ⟨h1, h2, h3, h4, h5⟩ g5 hb
        obtain ⟨a1, a2, a3, a4, a5⟩ := ha
        obtain ⟨q1, q2, q3, q4, q5, q6, q7, q8⟩ := rightV_iff.1 a1
        have g1' : v.hid = true := by simpa using g1
        exact ⟨rightV_iff.2 ⟨q1, ⟨by show 0 ≤ v.next + 1; omega, by show v.next + 1 ≤ v.total; omega⟩, .inl g1', q4, q5, q6, q7, q8⟩, a2, a3, a4, a5⟩
      · cases hi
    · rename_i w e hi
      split
      · rename_i he
        subst he
        unfold impS at hi
        split at hi
        · cases hi
        split at hi
        · split at hi
          · cases hi
            rename_i g1 g2 g3
            have g1' : v.hid = true := by simpa using g1
            have hp := h5 g1'
            refine ⟨rightV_iff.2 ⟨r1, r2, .inr g3, .inl rfl, ?_, Int.le_refl _, ?_, r8⟩, h2, by show v.ws.length ≤ _; omega, by show v.pins.length ≤ _; omega, fun h => by cases h⟩
            · show (0 : Int) ≤ (v.ws.length : Int); omega
            · show pinsR _ _ v.pins = true; rw [hp]; rfl
          · cases hi
        split at hi
        · cases hi; exact hm
        split at hi
        · cases hi
        split at hi <;> cases hi
      · exact hm
  unfold Go.Abs.doV
  split
  · unfold doPut
    split
    · exact hm
    split
    · rename_i g; exact Vgood.add ⟨h1, h2, h3, h4, h5⟩ g hb
    · exact hm
  split
  · unfold doPrune
    split
    · exact hm
    split
    · exact hm
    split
    · exact hm
    · rename_i g1 g2 g3
      have hl := lowL_le v.pins v.ws.length
      refine ⟨rightV_iff.2 ⟨r1, r2, r3, r4, by show 0 ≤ c.at'; omega, ?_, ?_, r8⟩, h2, by show v.ws.length ≤ _; omega, by show v.pins.length ≤ _; omega, h5⟩
      · show c.at' ≤ lenV v
        have := lowV_le v; omega
      · show pinsR (lenV v) c.at' v.pins = true
        refine pinsR_iff.2 ⟨fun p hp => ⟨?_, (p1 p hp).2⟩, p2⟩
        have : lowV v ≤ p := hl.2 p hp
        omega
  split
  · unfold doPin
    split
    · exact hm
    split
    · exact hm
    split
    · exact hm
    · rename_i g1 g2 g3
      have g1' : v.hid = false := by simpa using g1
      refine ⟨rightV_iff.2 ⟨r1, r2, r3, r4, r5, r6, ?_, r8⟩, h2, by show v.ws.length ≤ _; omega, ?_, fun h => by rw [show v.hid = true from h] at g1'; cases g1'⟩
      · show pinsR (lenV v) v.floor (insP c.at' v.pins) = true
        refine pinsR_iff.2 ⟨fun p hp => ?_, insP_sorted p2⟩
        rcases (insP_mem p2).1 hp with hp | rfl
        · exact p1 p hp
        · omega
      · show (insP c.at' v.pins).length ≤ _
        rw [insP_len p2]; omega
  split
  · unfold doUnpin
    split
    · exact hm
    split
    · rename_i g1 g2
      have g1' : v.hid = false := by simpa using g1
      refine ⟨rightV_iff.2 ⟨r1, r2, r3, r4, r5, r6, ?_, r8⟩, h2, by show v.ws.length ≤ _; omega, ?_, fun h => by rw [show v.hid = true from h] at g1'; cases g1'⟩
      · show pinsR (lenV v) v.floor (delP c.at' v.pins) = true
        exact pinsR_iff.2 ⟨fun p hp => p1 p ((delP_sub _).subset hp), p2.sublist (delP_sub _)⟩
      · show (delP c.at' v.pins).length ≤ _
        have := (delP_sub (t := c.at') v.pins).length_le; omega
    · exact hm
  split
  · exact himp
  split
  · exact hm
  · exact hm

theorem createC_shape (vol blocks size per total : Nat) (h : total < 1000) : shapeV (newV (createC vol blocks size per total)) = true := by
  obtain ⟨b, hb⟩ : ∃ b, b = blocks % 9 + 1 := ⟨_, rfl⟩
  obtain ⟨p, hp⟩ : ∃ p, p = per % b + 1 := ⟨_, rfl⟩
  have hpb : p ≤ b := by have := Nat.mod_lt per (show 0 < b by omega); omega
  obtain ⟨c1, c2⟩ := chunks_nn (b := b) (p := p) (by omega) (by omega)
  have e : createC vol blocks size per total = ⟨1, (vol % 3 : Nat), b, (size % 3 + 1 : Nat), p, placeN per (chunksN b p).toNat, total, 0, 0, []⟩ := by unfold createC; rw [← hb, ← hp]
  rw [e]
  obtain ⟨m, hm⟩ : ∃ m, m = (chunksN b p).toNat := ⟨_, rfl⟩
  rw [← hm]
  show (inR ((vol % 3 : Nat) : Int) 0 7 && inR b 1 256 && inR ((size % 3 + 1 : Nat) : Int) 1 32 && inR p 1 b && decide (((placeN per m).length : Int) = chunksN b p) && inR total 0 1099511627776 && (placeN per m).all fun n => inR n 1 7) = true
  rw [placeN_len]
  simp only [Bool.and_eq_true, inR_iff, decide_eq_true_eq]
  refine ⟨⟨⟨⟨⟨⟨by omega, by omega⟩, by omega⟩, by omega⟩, by omega⟩, by omega⟩, List.all_eq_true.2 fun x hx => ?_⟩
  obtain ⟨i, _, rfl⟩ := List.mem_map.1 hx
  rw [inR_iff]; omega

theorem new_of {c : CMD} (h : shapeV (newV c) = true) : newR c = (newV c, 0) := by unfold newR; rw [if_pos h]

end Go.Abs

namespace Go.Abs
open Go Go.Proofs
set_option maxRecDepth 100000
set_option linter.unusedSimpArgs false
set_option maxHeartbeats 4000000

def cmd0 (v : VOL) (B S L k a b c : Nat) : CMD :=
  if k ≤ 3 then ⟨2, v.id, 0, 0, 0, [], 0, 0, 0, itsN B S [a, b, c]⟩
  else if k = 4 then ⟨3, v.id, 0, 0, 0, [], 0, (a % (L + 2) : Nat), 0, []⟩
  else if k = 5 then ⟨4, v.id, 0, 0, 0, [], 0, (a % (L + 2) : Nat), 0, []⟩
  else if k = 6 then ⟨5, v.id, 0, 0, 0, [], 0, (a % (L + 2) : Nat), 0, []⟩
  else if k = 7 then ⟨8, v.id, 0, 0, 0, [], 0, 0, 0, []⟩
  else if k = 8 then ⟨6, v.id, 0, 0, 0, [], 0, 0, max (v.next - (c % 5 / 4 : Nat)) 0, itsN B S [a, b]⟩
  else ⟨7, v.id, 0, 0, 0, [], 0, 0, 0, []⟩
def cmdV (v : VOL) (B S L w a b c : Nat) : CMD :=
  if v.hid = true ∧ w % 10 < 5 then ⟨6, v.id, 0, 0, 0, [], 0, 0, v.next, itsN B S [a, b, c]⟩ else cmd0 v B S L (w % 10) a b c

def zeroC0 : CMD := ⟨0, 0, 0, 0, 0, [], 0, 0, 0, []⟩
theorem Cmd_there (v : VOL) (n : Nat) (g : Vgood v n) (hn : n ≤ 50000) (w a b c : Nat) (hw : w < 256) (ha : a < 256) (hb : b < 256) (hc : c < 256) :
    Con Try.prog 17 [.agg (volC v), B true, .c (.v (.int .u8 w)), .c (.v (.int .u8 a)), .c (.v (.int .u8 b)), .c (.v (.int .u8 c))] [] (.agg (cmdC (cmdV v v.blocks.toNat v.size.toNat v.ws.length w a b c))) [] := by
  obtain ⟨r1, r2, r3, r4, r5, r6, r7, r8⟩ := rightV_iff.1 g.right
  obtain ⟨s1, s2, s3, s4, s5, s6, s7⟩ := shape_lims r1
  have hlen := g.ws
  obtain ⟨bl, hbl⟩ : ∃ bl : Nat, v.blocks = bl := ⟨v.blocks.toNat, by omega⟩
  obtain ⟨sz, hsz⟩ : ∃ sz : Nat, v.size = sz := ⟨v.size.toNat, by omega⟩
  obtain ⟨k, hk⟩ : ∃ k, k = w % 10 := ⟨_, rfl⟩
  have e1 : (w : Int) % 10 = (k : Int) := by omega
  rw [hbl, hsz]
  simp only [Int.toNat_natCast]
  have m1 : (a : Int).tmod ((v.ws.length : Int) + 2) = ((a % (v.ws.length + 2) : Nat) : Int) := by
    rw [Int.tmod_eq_emod_of_nonneg (by omega)]; push_cast; rfl
  have cI3 : Con Try.prog 38 [I v.blocks, I v.size, .c (.sl [[.v (.int .u8 a)], [.v (.int .u8 b)], [.v (.int .u8 c)]])] [] (.c (.sl ((itsN bl sz [a, b, c]).map irow))) [] := by
    rw [hbl, hsz]; exact (Items_con bl sz [a, b, c] (by omega) (by omega) (by simp) (by intro x hx; simp at hx; omega)).rows (drows_irow _)
  have cI2 : Con Try.prog 38 [I v.blocks, I v.size, .c (.sl [[.v (.int .u8 a)], [.v (.int .u8 b)]])] [] (.c (.sl ((itsN bl sz [a, b]).map irow))) [] := by
    rw [hbl, hsz]; exact (Items_con bl sz [a, b] (by omega) (by omega) (by simp) (by intro x hx; simp at hx; omega)).rows (drows_irow _)
  have cL := mementoref16_Len_con v
  refine C_mementoseat_Cmd (Nat.le_of_ble_eq_true rfl) (Nat.le_of_ble_eq_true rfl) ?_
  simp only [A_mementoseat_Cmd, argL, objL, List.length_nil, Nat.zero_add, zX, simprocAttr]
  refine aw_reg 16 (RG.go fun Q hQ => ?_)
  simp (disch := intros; contradiction) only [zS, vC_eq, simprocAttr]
  refine hQ (RG.nil ?_)
  simp only [zX]
  refine aw_reg 80 (RG.go fun Q hQ => ?_)
  simp (disch := intros; contradiction) only [zS, simprocAttr]
  refine hQ (RG.nil ?_)
  simp only [zX]
  refine aw_cond _ rfl trivial (fun ht => by cases ht) (fun hf => ?_)
  simp only [zX]
  refine aw_reg 144 (RG.go fun Q hQ => ?_)
  simp (disch := intros; contradiction) only [zS, simprocAttr]
  refine hQ (RG.nil ?_)
  simp only [zY]
  refine aw_joinS (Y := Unit) [2, 3, 4, 5, 6, 12, 14] (fun y => []) [16] (fun y => [(32, .box (cmdC zeroC0)), (192, .box (cmdC (cmd0 v bl sz v.ws.length k a b c)))]) (by (repeat' (exact cl_fin))) ?_ ?_
  · skip
    simp only [zX]
    refine aw_reg 256 (RG.go fun Q hQ => ?_)
    simp (disch := first | (intros; contradiction) | omega | (simp only [zN]; omega)) only [zS, zW, e1, simprocAttr]
    repeat refine ⟨by (omega), ?_⟩
    refine hQ (RG.nil ?_)
    simp only [zY]
    refine aw_block ?_
    refine aw_joinS (Y := { q : Bool // q = decide (k ≤ 3) }) [2, 3, 4, 5, 6, 12, 14, 37] (fun q => [(39, B q.1)]) [16, 32, 192] (fun q => []) (by (repeat' (first | exact cl_fin | refine cl_block ?_ | refine cl_goto ?_))) ?_ ?_
    · skip
      simp only [zX]
      refine aw_reg 320 (RG.go fun Q hQ => ?_)
      simp (disch := intros; contradiction) only [zS, simprocAttr]
      refine hQ (RG.nil ?_)
      simp only [zX]
      refine aw_cond _ rfl trivial (fun ht => ?_) (fun hf => ?_)
      · skip
        try simp at ht
        simp only [zX]
        refine ⟨⟨decide (k ≤ 3), rfl⟩, ?_⟩
        simp only [keepS, keepE, Option.getD_some, lk_cons, lkE_cons, List.cons_append, List.nil_append, simprocAttr]
        refine Le.lit [] [] _ _ ?_ ?_ ?_ ?_
        · simp only [zL, simprocAttr]
          all_goals (rw [Value.bool.injEq, Bool.eq_iff_iff]; simp; omega; skip)
        · simp only [zL, simprocAttr]
        · simp [rlook]
        · first | (simp; done) | (intro k hk; simp [rlook]; omega)
      try simp at hf
      simp only [zX]
      refine aw_reg 384 (RG.go fun Q hQ => ?_)
      simp (disch := intros; contradiction) only [zS, simprocAttr]
      refine hQ (RG.nil ?_)
      simp only [zX]
      refine aw_cond _ rfl trivial (fun ht => ?_) (fun hf => ?_)
      · skip
        try simp at ht
        simp only [zX]
        refine ⟨⟨decide (k ≤ 3), rfl⟩, ?_⟩
        simp only [keepS, keepE, Option.getD_some, lk_cons, lkE_cons, List.cons_append, List.nil_append, simprocAttr]
        refine Le.lit [] [] _ _ ?_ ?_ ?_ ?_
        · simp only [zL, simprocAttr]
          all_goals (rw [Value.bool.injEq, Bool.eq_iff_iff]; simp; omega; skip)
        · simp only [zL, simprocAttr]
        · simp [rlook]
        · first | (simp; done) | (intro k hk; simp [rlook]; omega)
      try simp at hf
      simp only [zX]
      refine aw_reg 448 (RG.go fun Q hQ => ?_)
      simp (disch := intros; contradiction) only [zS, simprocAttr]
      refine hQ (RG.nil ?_)
      simp only [zX]
      refine aw_cond _ rfl trivial (fun ht => ?_) (fun hf => ?_)
      · skip
        try simp at ht
        simp only [zX]
        refine ⟨⟨decide (k ≤ 3), rfl⟩, ?_⟩
        simp only [keepS, keepE, Option.getD_some, lk_cons, lkE_cons, List.cons_append, List.nil_append, simprocAttr]
        refine Le.lit [] [] _ _ ?_ ?_ ?_ ?_
        · simp only [zL, simprocAttr]
          all_goals (rw [Value.bool.injEq, Bool.eq_iff_iff]; simp; omega; skip)
        · simp only [zL, simprocAttr]
        · simp [rlook]
        · first | (simp; done) | (intro k hk; simp [rlook]; omega)
      try simp at hf
      refine aw_reg 512 (RG.go fun Q hQ => ?_)
      simp (disch := intros; contradiction) only [zS, simprocAttr]
      refine hQ (RG.nil ?_)
      simp only [zX]
      refine ⟨⟨decide (k ≤ 3), rfl⟩, ?_⟩
      simp only [keepS, keepE, Option.getD_some, lk_cons, lkE_cons, List.cons_append, List.nil_append, simprocAttr]
      refine Le.lit [] [] _ _ ?_ ?_ ?_ ?_
      · simp only [zL, simprocAttr]
        all_goals (rw [Value.bool.injEq, Bool.eq_iff_iff]; simp; omega; skip)
      · simp only [zL, simprocAttr]
      · simp [rlook]
      · first | (simp; done) | (intro k hk; simp [rlook]; omega)
    rintro ⟨q, hq⟩
    simp only [keepS, keepE, Option.getD_some, lk_cons, lkE_cons, List.cons_append, List.nil_append, simprocAttr]
    refine aw_cond _ rfl trivial (fun ht => ?_) (fun hf => ?_)
    · skip
      try simp at ht
      have hE : cmd0 v bl sz v.ws.length k a b c = ⟨2, v.id, 0, 0, 0, [], 0, 0, 0, itsN bl sz [a, b, c]⟩ := by unfold cmd0; rw [if_pos (by simp [hq] at ht; omega)]
      refine aw_reg 576 (RG.go fun Q hQ => ?_)
      simp (disch := intros; contradiction) only [zS, simprocAttr]
      refine hQ ?_
      refine RG.callo [] [688] (cI3) (.mk (tr_cons tr_v (tr_cons tr_v (tr_cons (tr_view (by simp) rfl (by simp [isDRows, C.isD])) tr_nil))) (by first | trivial | (simp only [zT, simprocAttr]; done) | (simp only [zT, simprocAttr]; trivial) | (simp only [zT, simprocAttr]; repeat' (fail))) (by simp) (by simp) (views1 rfl trivial) (by first | (simp [lkE_cons, lkE_nil]; done) | (intro j hj; simp at hj; simp only [setEs, setE_cons, setE_nil, lkE_cons, lkE_nil]; repeat rw [if_neg (by omega)])) (by first | (simp [Ent.pure]; done) | (simp [Ent.pure]; repeat' (fail))) (by simp) (by simp)) ?_
      refine RG.go fun Q hQ => ?_
      simp (disch := intros; contradiction) only [zS, simprocAttr]
      refine hQ (RG.nil ?_)
      simp only [zX]
      refine ⟨(), ?_⟩
      refine Le.lit [] [] _ _ ?_ ?_ ?_ ?_
      · simp only [zL, simprocAttr]
      · simp only [zL, simprocAttr]
        all_goals (rw [hE]; trivial; skip)
      · simp [rlook]
      · first | (simp; done) | (intro k hk; simp [rlook]; omega)
    try simp at hf
    simp only [zX]
    have hq3 : ¬ k ≤ 3 := by simp [hq] at hf; omega
    refine aw_reg 816 (RG.go fun Q hQ => ?_)
    simp (disch := intros; contradiction) only [zS, simprocAttr]
    refine hQ (RG.nil ?_)
    simp only [zX]
    refine aw_cond _ rfl trivial (fun ht => ?_) (fun hf => ?_)
    · skip
      try simp at ht
      have hE : cmd0 v bl sz v.ws.length k a b c = ⟨3, v.id, 0, 0, 0, [], 0, (a % (v.ws.length + 2) : Nat), 0, []⟩ := by unfold cmd0; rw [if_neg hq3, if_pos (by omega)]
      refine aw_draw 880 (RG.go fun Q hQ => ?_)
      simp (disch := first | (intros; contradiction) | omega | (simp only [zN]; omega)) only [zS, zW, simprocAttr]
      refine hQ ?_
      refine RG.call [] (cL) (by (repeat' (first | exact tr_nil | refine tr_cons ?_ ?_ | exact tr_agg (by repeat' (first | exact trivial | rfl | refine ⟨?_, ?_⟩))))) trivial (by (exact .inl trivial)) ?_
      refine RG.go fun Q hQ => ?_
      simp (disch := first | (intros; contradiction) | omega | (simp only [zN]; omega)) only [zS, zW, lenV, simprocAttr]
      repeat refine ⟨by (omega), ?_⟩
      refine hQ (RG.nil ⟨by decide +kernel, ?_⟩)
      simp only [zX]
      refine ⟨(), ?_⟩
      refine Le.lit [] [] _ _ ?_ ?_ ?_ ?_
      · simp only [zL, simprocAttr]
      · simp only [zL, simprocAttr]
        all_goals (rw [hE]; trivial; skip)
      · simp [rlook]
      · first | (simp; done) | (intro k hk; simp [rlook]; omega)
    try simp at hf
    simp only [zX]
    refine aw_reg 1072 (RG.go fun Q hQ => ?_)
    simp (disch := intros; contradiction) only [zS, simprocAttr]
    refine hQ (RG.nil ?_)
    simp only [zX]
    refine aw_cond _ rfl trivial (fun ht => ?_) (fun hf => ?_)
    · skip
      try simp at ht
      have hE : cmd0 v bl sz v.ws.length k a b c = ⟨4, v.id, 0, 0, 0, [], 0, (a % (v.ws.length + 2) : Nat), 0, []⟩ := by unfold cmd0; rw [if_neg hq3, if_neg (by omega), if_pos (by omega)]
      refine aw_draw 1136 (RG.go fun Q hQ => ?_)
      simp (disch := first | (intros; contradiction) | omega | (simp only [zN]; omega)) only [zS, zW, simprocAttr]
      refine hQ ?_
      refine RG.call [] (cL) (by (repeat' (first | exact tr_nil | refine tr_cons ?_ ?_ | exact tr_agg (by repeat' (first | exact trivial | rfl | refine ⟨?_, ?_⟩))))) trivial (by (exact .inl trivial)) ?_
      refine RG.go fun Q hQ => ?_
      simp (disch := first | (intros; contradiction) | omega | (simp only [zN]; omega)) only [zS, zW, lenV, simprocAttr]
      repeat refine ⟨by (omega), ?_⟩
      refine hQ (RG.nil ⟨by decide +kernel, ?_⟩)
      simp only [zX]
      refine ⟨(), ?_⟩
      refine Le.lit [] [] _ _ ?_ ?_ ?_ ?_
      · simp only [zL, simprocAttr]
      · simp only [zL, simprocAttr]
        all_goals (rw [hE]; trivial; skip)
      · simp [rlook]
      · first | (simp; done) | (intro k hk; simp [rlook]; omega)
    try simp at hf
    simp only [zX]
    refine aw_reg 1328 (RG.go fun Q hQ => ?_)
    simp (disch := intros; contradiction) only [zS, simprocAttr]
    refine hQ (RG.nil ?_)
    simp only [zX]
    refine aw_cond _ rfl trivial (fun ht => ?_) (fun hf => ?_)
    · skip
      try simp at ht
      have hE : cmd0 v bl sz v.ws.length k a b c = ⟨5, v.id, 0, 0, 0, [], 0, (a % (v.ws.length + 2) : Nat), 0, []⟩ := by unfold cmd0; rw [if_neg hq3, if_neg (by omega), if_neg (by omega), if_pos (by omega)]
      refine aw_draw 1392 (RG.go fun Q hQ => ?_)
      simp (disch := first | (intros; contradiction) | omega | (simp only [zN]; omega)) only [zS, zW, simprocAttr]
      refine hQ ?_
      refine RG.call [] (cL) (by (repeat' (first | exact tr_nil | refine tr_cons ?_ ?_ | exact tr_agg (by repeat' (first | exact trivial | rfl | refine ⟨?_, ?_⟩))))) trivial (by (exact .inl trivial)) ?_
      refine RG.go fun Q hQ => ?_
      simp (disch := first | (intros; contradiction) | omega | (simp only [zN]; omega)) only [zS, zW, lenV, simprocAttr]
      repeat refine ⟨by (omega), ?_⟩
      refine hQ (RG.nil ⟨by decide +kernel, ?_⟩)
      simp only [zX]
      refine ⟨(), ?_⟩
      refine Le.lit [] [] _ _ ?_ ?_ ?_ ?_
      · simp only [zL, simprocAttr]
      · simp only [zL, simprocAttr]
        all_goals (rw [hE]; trivial; skip)
      · simp [rlook]
      · first | (simp; done) | (intro k hk; simp [rlook]; omega)
    try simp at hf
    simp only [zX]
    refine aw_reg 1584 (RG.go fun Q hQ => ?_)
    simp (disch := intros; contradiction) only [zS, simprocAttr]
    refine hQ (RG.nil ?_)
    simp only [zX]
    refine aw_cond _ rfl trivial (fun ht => ?_) (fun hf => ?_)
    · skip
      try simp at ht
      have hE : cmd0 v bl sz v.ws.length k a b c = ⟨8, v.id, 0, 0, 0, [], 0, 0, 0, []⟩ := by unfold cmd0; rw [if_neg hq3, if_neg (by omega), if_neg (by omega), if_neg (by omega), if_pos (by omega)]
      refine aw_reg 1648 (RG.go fun Q hQ => ?_)
      simp (disch := intros; contradiction) only [zS, simprocAttr]
      refine hQ (RG.nil ?_)
      simp only [zX]
      refine ⟨(), ?_⟩
      refine Le.lit [] [] _ _ ?_ ?_ ?_ ?_
      · simp only [zL, simprocAttr]
      · simp only [zL, simprocAttr]
        all_goals (rw [hE]; trivial; skip)
      · simp [rlook]
      · first | (simp; done) | (intro k hk; simp [rlook]; omega)
    try simp at hf
    simp only [zX]
    refine aw_reg 1712 (RG.go fun Q hQ => ?_)
    simp (disch := intros; contradiction) only [zS, simprocAttr]
    refine hQ (RG.nil ?_)
    simp only [zX]
    refine aw_cond _ rfl trivial (fun ht => ?_) (fun hf => ?_)
    · skip
      try simp at ht
      have hE : cmd0 v bl sz v.ws.length k a b c = ⟨6, v.id, 0, 0, 0, [], 0, 0, max (v.next - (c % 5 / 4 : Nat)) 0, itsN bl sz [a, b]⟩ := by unfold cmd0; rw [if_neg hq3, if_neg (by omega), if_neg (by omega), if_neg (by omega), if_neg (by omega), if_pos (by omega)]
      have m2 : (c : Int) % 5 = ((c % 5 : Nat) : Int) := by omega
      have m3 : ((c % 5 : Nat) : Int) / 4 = ((c % 5 / 4 : Nat) : Int) := by omega
      have m4 : ((c % 5 : Nat) : Int).tdiv 4 = ((c % 5 / 4 : Nat) : Int) := by rw [Int.tdiv_eq_ediv_of_nonneg (by omega)]; omega
      refine aw_draw 1776 (RG.go fun Q hQ => ?_)
      simp (disch := first | (intros; contradiction) | omega | (simp only [zN]; omega)) only [zS, zW, m2, m3, simprocAttr]
      repeat refine ⟨by (omega), ?_⟩
      refine hQ ?_
      refine RG.callo [] [2000] (cI2) (.mk (tr_cons tr_v (tr_cons tr_v (tr_cons (tr_view (by simp) rfl (by simp [isDRows, C.isD])) tr_nil))) (by first | trivial | (simp only [zT, simprocAttr]; done) | (simp only [zT, simprocAttr]; trivial) | (simp only [zT, simprocAttr]; repeat' (fail))) (by simp) (by simp) (views1 rfl trivial) (by first | (simp [lkE_cons, lkE_nil]; done) | (intro j hj; simp at hj; simp only [setEs, setE_cons, setE_nil, lkE_cons, lkE_nil]; repeat rw [if_neg (by omega)])) (by first | (simp [Ent.pure]; done) | (simp [Ent.pure]; repeat' (fail))) (by simp) (by simp)) ?_
      refine RG.go fun Q hQ => ?_
      simp (disch := intros; contradiction) only [zS, simprocAttr]
      have m5 := max_if (v.next - (c % 5 / 4 : Nat)) 0
      refine hQ (RG.nil ⟨by decide +kernel, ?_⟩)
      simp only [zX]
      refine ⟨(), ?_⟩
      refine Le.lit [] [] _ _ ?_ ?_ ?_ ?_
      · simp only [zL, simprocAttr]
      · simp only [zL, simprocAttr]
        all_goals (rw [hE]; simp only [m5]; trivial; skip)
      · simp [rlook]
      · first | (simp; done) | (intro k hk; simp [rlook]; omega)
    try simp at hf
    have hE : cmd0 v bl sz v.ws.length k a b c = ⟨7, v.id, 0, 0, 0, [], 0, 0, 0, []⟩ := by unfold cmd0; rw [if_neg hq3, if_neg (by omega), if_neg (by omega), if_neg (by omega), if_neg (by omega), if_neg (by omega)]
    refine aw_reg 2160 (RG.go fun Q hQ => ?_)
    simp (disch := intros; contradiction) only [zS, simprocAttr]
    refine hQ (RG.nil ?_)
    simp only [zX]
    refine ⟨(), ?_⟩
    refine Le.lit [] [] _ _ ?_ ?_ ?_ ?_
    · simp only [zL, simprocAttr]
    · simp only [zL, simprocAttr]
      all_goals (rw [hE]; trivial; skip)
    · simp [rlook]
    · first | (simp; done) | (intro k hk; simp [rlook]; omega)
  rintro y
  simp only [keepS, keepE, Option.getD_some, lk_cons, lkE_cons, List.cons_append, List.nil_append, simprocAttr]
  simp only [zX]
  refine aw_reg 2224 (RG.go fun Q hQ => ?_)
  simp (disch := first | (intros; contradiction) | omega | (simp only [zN]; omega)) only [zS, zW, cmdC, cC, e1, simprocAttr]
  repeat refine ⟨by ((simp; done)), ?_⟩
  refine hQ (RG.nil ?_)
  simp only [zX]
  refine aw_cond _ rfl trivial (fun ht => ?_) (fun hf => ?_)
  · skip
    try simp at ht
    have hE : cmdV v bl sz v.ws.length w a b c = ⟨6, v.id, 0, 0, 0, [], 0, 0, v.next, itsN bl sz [a, b, c]⟩ := by unfold cmdV; rw [if_pos ⟨ht.1, by have := ht.2; omega⟩]
    rw [hE]
    refine aw_draw 2368 (RG.go fun Q hQ => ?_)
    simp (disch := intros; contradiction) only [zS, simprocAttr]
    refine hQ ?_
    refine RG.callo [] [2544] (cI3) (.mk (tr_cons tr_v (tr_cons tr_v (tr_cons (tr_view (by simp) rfl (by simp [isDRows, C.isD])) tr_nil))) (by first | trivial | (simp only [zT, simprocAttr]; done) | (simp only [zT, simprocAttr]; trivial) | (simp only [zT, simprocAttr]; repeat' (fail))) (by simp) (by simp) (views1 rfl trivial) (by first | (simp [lkE_cons, lkE_nil]; done) | (intro j hj; simp at hj; simp only [setEs, setE_cons, setE_nil, lkE_cons, lkE_nil]; repeat rw [if_neg (by omega)])) (by first | (simp [Ent.pure]; done) | (simp [Ent.pure]; repeat' (fail))) (by simp) (by simp)) ?_
    refine RG.go fun Q hQ => ?_
    simp (disch := intros; contradiction) only [zS, simprocAttr]
    refine hQ (RG.nil ⟨by decide +kernel, ?_⟩)
    simp only [zX]
    refine aw_reg 2640 (RG.go fun Q hQ => ?_)
    simp (disch := intros; contradiction) only [zS, simprocAttr]
    refine hQ (RG.nil ?_)
    simp only [zX]
    refine Fin.data [] (.inr rfl) rfl (by (exact ⟨trivial, trivial⟩)) ?_
    simp only [zL]
    all_goals ((repeat' (first | exact trivial | rfl | refine ⟨?_, ?_⟩)))
  try simp at hf
  simp only [zX]
  have hE : cmdV v bl sz v.ws.length w a b c = cmd0 v bl sz v.ws.length k a b c := by unfold cmdV; rw [if_neg (by rintro ⟨h1, h2⟩; have := hf h1; omega), hk]
  rw [hE]
  refine aw_reg 2704 (RG.go fun Q hQ => ?_)
  simp (disch := intros; contradiction) only [zS, simprocAttr]
  refine hQ (RG.nil ?_)
  simp only [zX]
  refine Fin.data [] (.inr rfl) rfl (by (exact ⟨trivial, trivial⟩)) ?_
  simp only [zL]
  all_goals ((repeat' (first | exact trivial | rfl | refine ⟨?_, ?_⟩)))

end Go.Abs

namespace Go.Abs
open Go Go.Proofs
set_option maxRecDepth 100000
set_option linter.unusedSimpArgs false
set_option maxHeartbeats 4000000

def u64N (n : Int) : Nat := (n % 18446744073709551616).toNat
def numsL (l : List Int) : List Nat := putS (l.map u64N)
def placeB (l : List Int) : List Nat := putS [u64N l.length] ++ numsL l
def itB (x : IT) : List Nat := putS [u64N x.b] ++ (num7 x.d.length ++ x.d)
def itsB (l : List IT) : List Nat := l.flatMap itB
def itemsB (l : List IT) : List Nat := putS [u64N l.length] ++ itsB l
end Go.Abs

namespace Go.Abs
open Go Go.Proofs
set_option maxRecDepth 100000
set_option linter.unusedSimpArgs false
set_option maxHeartbeats 4000000

def itC8 (x : IT) : Bool := inR x.b 0 255 && decide (x.d.length ≤ 32)
def cmdR (c : CMD) : Bool :=
  inR c.kind 1 8 && inR c.vol 0 7 && inR c.blocks 0 1099511627776 && inR c.size 0 1099511627776 && inR c.per 0 1099511627776 && inR c.total 0 1099511627776 && inR c.index 0 1099511627776 && inR c.at' 0 1099511627776 &&
    decide (c.place.length ≤ 256) && decide (c.items.length ≤ 8) && (c.place.all fun n => inR n 0 7) && c.items.all itC8

def cmdB (c : CMD) : List Nat := numsL [c.kind, c.vol, c.blocks, c.size, c.per, c.total, c.at', c.index] ++ placeB c.place ++ itemsB c.items
abbrev putC (c : CMD) : SV := .tup [.c (.sl ((if cmdR c = true then cmdB c else []).map brow)), I (if cmdR c = true then 0 else 23)]

end Go.Abs

namespace Go.Abs
open Go Go.Proofs
set_option maxRecDepth 100000
set_option linter.unusedSimpArgs false
set_option maxHeartbeats 4000000

structure RestOk (n : Nat) (l : List Nat) : Prop where
  b8 : ∀ c ∈ l, c < 256
  len : l.length ≤ n
structure ItsOk (n : Nat) (its : List IT) : Prop where
  b8 : byI its
  len : its.length ≤ 8
  d : ∀ x ∈ its, x.d.length ≤ n

abbrev NR := Nat × List Nat × Nat
end Go.Abs

namespace Go.Abs
open Go Go.Proofs
set_option maxRecDepth 100000
set_option linter.unusedSimpArgs false
set_option maxHeartbeats 8000000

end Go.Abs

namespace Go.Abs
open Go Go.Proofs
set_option maxRecDepth 100000
set_option linter.unusedSimpArgs false
set_option maxHeartbeats 4000000

abbrev MB (L : List VOL) : Ent := .box [.sl (L.map volC)]

structure RP where
  e : Int
  len : Int
  floor : Int
  next : Int
end Go.Abs

namespace Go.Abs
open Go Go.Proofs
set_option maxRecDepth 100000
set_option linter.unusedSimpArgs false
set_option maxHeartbeats 4000000

abbrev rpC (r : RP) : SV := .agg (repC r.e r.len r.floor r.next [])

theorem cmdC_pure (c : CMD) : (SV.agg (cmdC c)).pureD := by
  intro x hx
  simp only [cmdC, cC, List.mem_cons, List.not_mem_nil, or_false] at hx
  rcases hx with rfl | rfl | rfl | rfl | rfl | rfl | rfl | rfl | rfl | rfl <;> rfl
theorem repC_pure (a b c d : Int) : (SV.agg (repC a b c d [])).pureD := by
  intro x hx
  simp only [repC, List.mem_cons, List.not_mem_nil, or_false] at hx
  rcases hx with rfl | rfl | rfl | rfl | rfl <;> rfl
theorem doR_pure (d : DO) : (doR d).pureD := by
  intro s hs
  simp only [List.mem_cons, List.not_mem_nil, or_false] at hs
  rcases hs with rfl | rfl
  · exact volC_pure _
  · exact repC_pure _ _ _ _

end Go.Abs

namespace Go.Abs
open Go Go.Proofs
set_option maxRecDepth 100000
set_option linter.unusedSimpArgs false
set_option maxHeartbeats 4000000

structure Csmall (c : CMD) : Prop where
  b8 : byI c.items
  place : c.place.length ≤ 1000
  items : c.items.length ≤ 8
  data : ∀ x ∈ c.items, x.d.length ≤ 200

theorem itsF_len (b s : Nat) : ∀ (l : List Nat) (acc : List IT), acc.length ≤ 8 → (∀ x ∈ acc, x.d.length = s) → (itsF b s l acc).length ≤ 8 ∧ ∀ x ∈ itsF b s l acc, x.d.length = s
  | [], acc, h, h2 => ⟨h, h2⟩
  | c :: l, acc, h, h2 => by
    unfold itsF
    split
    · refine itsF_len b s l _ ?_ ?_
      · unfold itsStep; split
        · exact h
        · simp; omega
      · unfold itsStep; split
        · exact h2
        · intro x hx
          rcases List.mem_append.1 hx with hx | hx
          · exact h2 x hx
          · simp only [List.mem_singleton] at hx; subst hx; exact dataN_len _ _
    · exact ⟨h, h2⟩
theorem itsF_by (b s : Nat) : ∀ (l : List Nat) (acc : List IT), byI acc → byI (itsF b s l acc)
  | [], acc, h => h
  | c :: l, acc, h => by
    unfold itsF
    split
    · refine itsF_by b s l _ ?_
      unfold itsStep
      split
      · exact h
      · intro x hx
        rcases List.mem_append.1 hx with hx | hx
        · exact h x hx
        · simp only [List.mem_singleton] at hx; subst hx; exact dataN_by _ _
    · exact h
theorem Csmall.its (k v : Int) (t i : Int) (b s : Nat) (l : List Nat) (hs : s ≤ 200) : Csmall ⟨k, v, 0, 0, 0, [], 0, t, i, itsN b s l⟩ := by
  have h := itsF_len b s l [] (by simp) (fun x hx => (by cases hx))
  exact ⟨itsF_by b s l [] (fun x hx => (by cases hx)), by simp, h.1, fun x hx => by rw [h.2 x hx]; exact hs⟩
theorem Csmall.no (k v : Int) (t i : Int) : Csmall ⟨k, v, 0, 0, 0, [], 0, t, i, []⟩ := ⟨fun x hx => (by cases hx), by simp, by simp, fun x hx => (by cases hx)⟩
theorem cmdV_small (v : VOL) (B S L w a b c : Nat) (hS : S ≤ 200) : Csmall (cmdV v B S L w a b c) := by
  unfold cmdV
  split
  · exact .its _ _ _ _ _ _ _ hS
  unfold cmd0
  split
  · exact .its _ _ _ _ _ _ _ hS
  split
  · exact .no _ _ _ _
  split
  · exact .no _ _ _ _
  split
  · exact .no _ _ _ _
  split
  · exact .no _ _ _ _
  split
  · exact .its _ _ _ _ _ _ _ hS
  · exact .no _ _ _ _
end Go.Abs

namespace Go.Abs
open Go Go.Proofs
set_option maxRecDepth 100000
set_option linter.unusedSimpArgs false
set_option maxHeartbeats 8000000

structure Q4 where
  a : Nat
  b : Nat
  c : Nat
  d : Nat
def qrow (q : Q4) : List C := [.v (.int .u8 q.a), .v (.int .u8 q.b), .v (.int .u8 q.c), .v (.int .u8 q.d)]
def q4ok (q : Q4) : Prop := q.a < 256 ∧ q.b < 256 ∧ q.c < 256 ∧ q.d < 256
structure CP (c : CMD) : Prop where
  b8 : byI c.items
  items : c.items.length ≤ 1000000
  data : ∀ x ∈ c.items, x.d.length ≤ 1000000
  place : c.place.length ≤ 1000000
theorem CP.of {c : CMD} (h : Csmall c) : CP c := ⟨h.b8, by have := h.items; omega, fun x hx => by have := h.data x hx; omega, by have := h.place; omega⟩
theorem CP.of_small {c : CMD} (hb : byI c.items) (h : (decide (c.place.length ≤ 40) && smallI c.items) = true) : CP c := by
  simp only [smallI, Bool.and_eq_true, decide_eq_true_eq] at h
  refine ⟨hb, by omega, fun x hx => ?_, by omega⟩
  have := List.all_eq_true.1 h.2.2 x hx
  simp at this; omega

theorem VolumePlays_con (first : CMD) (what : Q4) (l : List Q4) (raw : List CMD) (hfb : byI first.items) (hw : q4ok what) (hl : ∀ q ∈ l, q4ok q) (hr : ∀ c ∈ raw, byI c.items) :
    Con Try.prog 3 [.agg (cmdC first), .agg (qrow what), .c (.sl (l.map qrow)), .c (.sl (raw.map cmdC))] [] (B true) [] := by
  obtain ⟨w0, w1, w2, w3⟩ := what
  obtain ⟨h0, h1, h2, h3⟩ := hw
  simp only at h0 h1 h2 h3
  have cS := SmallCmd_con first
  have e1 : (w0 : Int) / 4 = ((w0 / 4 : Nat) : Int) := by omega
  have e2 : ((w0 / 4 : Nat) : Int) % 4 = ((w0 / 4 % 4 : Nat) : Int) := by omega
  have e3 : (w0 : Int).tdiv 4 = ((w0 / 4 : Nat) : Int) := by rw [Int.tdiv_eq_ediv_of_nonneg (by omega)]; omega
  have hC := Create_con w0 w1 w2 w3 (w0 / 4 % 4) h0 h1 h2 h3 (by omega)
  have hsh := createC_shape w0 w1 w2 w3 (w0 / 4 % 4) (by omega)
  have hpl := (shape_lims hsh).2.2.2.2.2.2
  have cN := mementoref16_New_con (createC w0 w1 w2 w3 (w0 / 4 % 4)) (by have : (createC w0 w1 w2 w3 (w0 / 4 % 4)).place.length ≤ 512 := hpl; omega)
  rw [new_of hsh] at cN
  have g0 := Vgood.new hsh
  generalize newV (createC w0 w1 w2 w3 (w0 / 4 % 4)) = V at cN g0
  refine C_mementolaw16_VolumePlays (Nat.le_of_ble_eq_true rfl) (Nat.le_of_ble_eq_true rfl) ?_
  simp only [A_mementolaw16_VolumePlays, argL, objL, List.length_nil, Nat.zero_add, zX, simprocAttr]
  refine aw_reg 16 (RG.go fun Q hQ => ?_)
  simp (disch := intros; contradiction) only [zS, qrow, cmdC, cC, simprocAttr]
  refine hQ (RG.nil ?_)
  simp only [zX]
  refine aw_reg 96 (RG.go fun Q hQ => ?_)
  simp (disch := intros; contradiction) only [zS, ↓reduceIte]
  refine hQ ?_
  refine RG.call [] (mementolaw16_known_con) (by (repeat' (exact tr_nil))) trivial (by (exact .inl trivial)) ?_
  refine RG.go fun Q hQ => ?_
  simp (disch := intros; contradiction) only [zS, simprocAttr]
  refine hQ (RG.nil ?_)
  simp only [zX]
  refine aw_cond _ rfl trivial (fun ht => by cases ht) (fun hf => ?_)
  simp only [zX]
  refine aw_reg 160 (RG.go fun Q hQ => ?_)
  simp (disch := intros; contradiction) only [zS, simprocAttr]
  refine hQ ?_
  refine RG.call [] (cS) (by (repeat' (first | exact tr_nil | refine tr_cons ?_ ?_ | exact tr_agg (by repeat' (first | exact trivial | rfl | refine ⟨?_, ?_⟩))))) trivial (by (exact .inl trivial)) ?_
  refine RG.go fun Q hQ => ?_
  simp (disch := intros; contradiction) only [zS, zW, simprocAttr]
  repeat refine ⟨by ((simp; done)), ?_⟩
  refine hQ (RG.nil ?_)
  simp only [zX]
  refine aw_cond _ rfl trivial (fun ht => ?_) (fun hf => ?_)
  · skip
    try simp at ht
    simp only [zX]
    refine aw_reg 400 (RG.go fun Q hQ => ?_)
    simp (disch := intros; contradiction) only [zS, simprocAttr]
    refine hQ (RG.nil ?_)
    simp only [zX]
    refine Fin.b (.inr rfl) rfl trivial ?_
    rfl
  try simp at hf
  simp only [zX]
  have hcp := CP.of_small hfb (by simp; exact hf.1.1)
  have cV := volume_New_con first hcp.place
  have cW := mementoref16_New_con first hcp.place
  have hgR : Vok (newR first).1 ∧ byW (newR first).1.ws := by
    unfold newR
    split
    · exact ⟨⟨hcp.place, by simp [newV], by simp [newV], fun w hw => (by cases hw)⟩, fun w hw => (by cases hw)⟩
    · exact ⟨⟨by simp [zeroV], by simp [zeroV], by simp [zeroV], fun w hw => (by cases hw)⟩, fun w hw => (by cases hw)⟩
  generalize newR first = q at cV cW hgR
  obtain ⟨F, e⟩ := q
  simp only at cV cW hgR
  have cSF := mementoref16_Same_con F F hgR.1 hgR.2 hgR.2
  refine aw_reg 448 (RG.go fun Q hQ => ?_)
  simp (disch := intros; contradiction) only [zS, simprocAttr]
  refine hQ ?_
  refine RG.call [] (cV) (by (repeat' (first | exact tr_nil | refine tr_cons ?_ ?_ | exact tr_agg (by repeat' (first | exact trivial | rfl | refine ⟨?_, ?_⟩))))) trivial (by exact .inr ⟨pureTA (fun c hc => volC_pure _ c hc), trivial⟩) ?_
  refine RG.go fun Q hQ => ?_
  simp (disch := intros; contradiction) only [zS, vC_eq, simprocAttr]
  refine hQ (RG.nil ?_)
  simp only [zX]
  refine aw_reg 608 (RG.go fun Q hQ => ?_)
  simp (disch := intros; contradiction) only [zS, simprocAttr]
  refine hQ ?_
  refine RG.call [] (cW) (by (repeat' (first | exact tr_nil | refine tr_cons ?_ ?_ | exact tr_agg (by repeat' (first | exact trivial | rfl | refine ⟨?_, ?_⟩))))) trivial (by exact .inr ⟨pureTA (fun c hc => volC_pure _ c hc), trivial⟩) ?_
  refine RG.go fun Q hQ => ?_
  simp (disch := intros; contradiction) only [zS, vC_eq, simprocAttr]
  refine hQ (RG.nil ?_)
  simp only [zX]
  refine aw_reg 768 (RG.go fun Q hQ => ?_)
  simp (disch := intros; contradiction) only [zS, simprocAttr]
  refine hQ ?_
  refine RG.callg _ _ [] rfl (fun hg => ⟨_, (cSF), by (repeat' (first | exact tr_nil | refine tr_cons ?_ ?_ | exact tr_opt (by simpa using hg) (tr_agg (by repeat' (first | exact trivial | rfl | refine ⟨?_, ?_⟩))))), trivial, by (exact .inl trivial)⟩) ?_
  refine RG.go fun Q hQ => ?_
  simp (disch := intros; contradiction) only [zS, simprocAttr]
  repeat refine ⟨by ((simp; done)), ?_⟩
  refine hQ (RG.nil ?_)
  simp only [zX]
  refine aw_cond _ rfl trivial (fun ht => by simp at ht) (fun hf => ?_)
  simp only [zX]
  refine aw_reg 944 (RG.go fun Q hQ => ?_)
  simp (disch := first | (intros; contradiction) | omega | (simp only [zN]; omega)) only [zS, zW, e1, e2, simprocAttr]
  repeat refine ⟨by (omega), ?_⟩
  refine hQ ?_
  refine RG.call [] (hC) (by (repeat' (first | exact tr_nil | refine tr_cons ?_ ?_ | exact tr_v))) trivial (by exact .inr ⟨cmdC_pure _, trivial⟩) ?_
  refine RG.go fun Q hQ => ?_
  simp (disch := intros; contradiction) only [zS, cmdC, cC, simprocAttr]
  refine hQ ?_
  refine RG.call [] (cN) (by (repeat' (first | exact tr_nil | refine tr_cons ?_ ?_ | exact tr_agg (by repeat' (first | exact trivial | rfl | refine ⟨?_, ?_⟩))))) trivial (by exact .inr ⟨pureTA (fun c hc => volC_pure _ c hc), trivial⟩) ?_
  refine RG.go fun Q hQ => ?_
  simp (disch := intros; contradiction) only [zS, vC_eq, simprocAttr]
  refine hQ (RG.nil ?_)
  simp only [zX]
  refine aw_reg 1312 (RG.go fun Q hQ => ?_)
  simp (disch := intros; contradiction) only [zS, simprocAttr]
  refine hQ (RG.nil ?_)
  simp only [zX]
  refine aw_reg 1392 (RG.go fun Q hQ => ?_)
  simp (disch := intros; contradiction) only [zS, simprocAttr]
  refine hQ (RG.nil ?_)
  simp only [zX]
  refine aw_loopK (X := { x : Nat × VOL // x.1 ≤ l.length + raw.length ∧ Vgood x.2 x.1 }) [2, 3, 13, 15] (fun x => [(16, I x.1.1)]) [] (fun x => [(1232, .box (volC x.1.2)), (1328, .box (volC x.1.2))]) (fun x => l.length + raw.length - x.1.1) (⟨(0, V), by simp only; omega, g0⟩) ?_ ?_
  · skip
    simp only [keepS, keepE, lk_cons, List.cons_append, List.nil_append, simprocAttr]
    refine Le.lit [] [] _ _ ?_ ?_ ?_ ?_
    · simp only [zL, simprocAttr]
    · simp only [zL, simprocAttr]
      all_goals (trivial; skip)
    · simp [rlook]
    · first | (simp; done) | (intro k hk; simp [rlook]; omega)
  rintro ⟨⟨i, v⟩, hi, hv⟩
  simp only [keepS, keepE, lk_cons, List.cons_append, List.nil_append, simprocAttr]
  simp only [zX]
  simp only at hi hv
  refine aw_reg 1440 (RG.go fun Q hQ => ?_)
  simp (disch := first | (intros; contradiction) | omega | (simp only [zN]; omega)) only [zS, zW, vC_eq, simprocAttr]
  refine hQ (RG.nil ?_)
  simp only [zX]
  refine aw_cond _ rfl trivial (fun ht => ?_) (fun hf => ?_)
  · skip
    try simp at ht
    simp only [zX]
    refine aw_reg 1584 (RG.go fun Q hQ => ?_)
    simp (disch := intros; contradiction) only [zS, simprocAttr]
    refine hQ (RG.nil ?_)
    simp only [zY]
    refine aw_joinS (Y := { c : CMD // CP c }) [2, 3, 13, 15, 16, 17] (fun y => []) [1232, 1328] (fun y => [(1584, .box (cmdC y.1))]) (by (repeat' (first | exact cl_fin | refine cl_then ?_ ?_ | refine cl_block ?_ | refine cl_loop ?_))) ?_ ?_
    · skip
      simp only [zX]
      refine aw_reg 1632 (RG.go fun Q hQ => ?_)
      simp (disch := intros; contradiction) only [zS, zW, simprocAttr]
      refine hQ (RG.nil ?_)
      simp only [zX]
      refine aw_cond _ rfl trivial (fun ht => ?_) (fun hf => ?_)
      · skip
        try simp at ht
        have h1 : i < l.length := by omega
        have h2 := hl _ (List.getElem_mem h1)
        obtain ⟨g1, g2, g3, g4⟩ := h2
        have cM := Cmd_there v i hv (by omega) l[i].a l[i].b l[i].c l[i].d g1 g2 g3 g4
        obtain ⟨cc, hcc⟩ : ∃ cc, cc = cmdV v v.blocks.toNat v.size.toNat v.ws.length l[i].a l[i].b l[i].c l[i].d := ⟨_, rfl⟩
        have hcs : CP cc := by rw [hcc]; exact CP.of (cmdV_small _ _ _ _ _ _ _ _ (by have := (shape_lims (rightV_iff.1 hv.right).1).2.2.1; omega))
        rw [← hcc] at cM
        refine aw_draw 1728 (RG.go fun Q hQ => ?_)
        simp (disch := first | (intros; contradiction) | omega | (simp only [zN]; omega)) only [zS, zW, qrow, simprocAttr]
        repeat refine ⟨by (omega), ?_⟩
        refine hQ ?_
        refine RG.call [] (cM) (by (repeat' (first | exact tr_nil | refine tr_cons ?_ ?_ | exact tr_v | exact tr_agg (by repeat' (first | exact trivial | rfl | refine ⟨?_, ?_⟩))))) trivial (by exact .inr ⟨cmdC_pure _, trivial⟩) ?_
        refine RG.go fun Q hQ => ?_
        simp (disch := intros; contradiction) only [zS, cmdC, cC, simprocAttr]
        refine hQ (RG.nil ⟨by decide +kernel, ?_⟩)
        simp only [zX]
        refine ⟨⟨cc, hcs⟩, ?_⟩
        simp only [keepS, keepE, Option.getD_some, lk_cons, lkE_cons, List.cons_append, List.nil_append, simprocAttr]
        refine Le.lit [] [] _ _ ?_ ?_ ?_ ?_
        · simp only [zL, simprocAttr]
        · simp only [zL, simprocAttr]
          all_goals (trivial; skip)
        · simp [rlook]
        · first | (simp; done) | (intro k hk; simp [rlook]; omega)
      try simp at hf
      simp only [zX]
      obtain ⟨k, hk⟩ : ∃ k, i = l.length + k := ⟨i - l.length, by omega⟩
      have hkr : k < raw.length := by omega
      have e5 : (i : Int) - l.length = (k : Int) := by omega
      have hbk := hr _ (List.getElem_mem hkr)
      refine aw_reg 2128 (RG.go fun Q hQ => ?_)
      simp (disch := first | (intros; contradiction) | omega | (simp only [zN]; omega)) only [zS, zW, cmdC, cC, e5, simprocAttr]
      repeat refine ⟨by (omega), ?_⟩
      refine hQ (RG.nil ?_)
      simp only [zX]
      refine aw_reg 2288 (RG.go fun Q hQ => ?_)
      simp (disch := intros; contradiction) only [zS, simprocAttr]
      refine hQ ?_
      refine RG.call [] (SmallCmd_con raw[k]) (by (repeat' (first | exact tr_nil | refine tr_cons ?_ ?_ | exact tr_agg (by repeat' (first | exact trivial | rfl | refine ⟨?_, ?_⟩))))) trivial (by (exact .inl trivial)) ?_
      refine RG.go fun Q hQ => ?_
      simp (disch := intros; contradiction) only [zS, simprocAttr]
      refine hQ (RG.nil ?_)
      simp only [zX]
      refine aw_cond _ rfl trivial (fun ht => ?_) (fun hf => ?_)
      · skip
        try simp at ht
        simp only [zX]
        refine aw_reg 2368 (RG.go fun Q hQ => ?_)
        simp (disch := intros; contradiction) only [zS, simprocAttr]
        refine hQ (RG.nil ?_)
        simp only [zX]
        refine Fin.b (.inr rfl) rfl trivial ?_
        rfl
      try simp at hf
      simp only [zX]
      refine ⟨⟨raw[k], CP.of_small hbk (by simp; exact hf)⟩, ?_⟩
      simp only [keepS, keepE, Option.getD_some, lk_cons, lkE_cons, List.cons_append, List.nil_append, simprocAttr]
      refine Le.lit [] [] _ _ ?_ ?_ ?_ ?_
      · simp only [zL, simprocAttr]
      · simp only [zL, simprocAttr]
        all_goals (trivial; skip)
      · simp [rlook]
      · first | (simp; done) | (intro k hk; simp [rlook]; omega)
    rintro ⟨c, hc⟩
    simp only [keepS, keepE, Option.getD_some, lk_cons, lkE_cons, List.cons_append, List.nil_append, simprocAttr]
    simp only [zX]
    have hvl := hv.ws
    have cA := volume_Do_con v c (hv.do (by omega) hc.items hc.data)
    have cB := mementoref16_Do_con v c (hv.ok (by omega)) hv.next hc.items hc.data
    have hgd := hv.doV hc.b8
    generalize doV v c = D at cA cB hgd
    have cRp := mementohelp_Reply_con D.e D.len D.floor D.next D.e D.len D.floor D.next [] [] (by simp) (by simp)
    have hok := hgd.ok (by omega)
    have cSm := mementoref16_Same_con D.v D.v hok hgd.by8 hgd.by8
    have hdr := hgd.right
    have cRi := volume_Right_con D.v hok
    rw [hdr] at cRi
    refine aw_reg 2416 (RG.go fun Q hQ => ?_)
    simp (disch := intros; contradiction) only [zS, cmdC, cC, simprocAttr]
    refine hQ ?_
    refine RG.call [] (cA) (by (repeat' (first | exact tr_nil | refine tr_cons ?_ ?_ | exact tr_agg (by repeat' (first | exact trivial | rfl | refine ⟨?_, ?_⟩))))) trivial (by exact .inr ⟨doR_pure _, trivial⟩) ?_
    refine RG.go fun Q hQ => ?_
    simp (disch := intros; contradiction) only [zS, vC_eq, repC, simprocAttr]
    refine hQ (RG.nil ?_)
    simp only [zX]
    refine aw_reg 2608 (RG.go fun Q hQ => ?_)
    simp (disch := intros; contradiction) only [zS, simprocAttr]
    refine hQ ?_
    refine RG.call [] (cB) (by (repeat' (first | exact tr_nil | refine tr_cons ?_ ?_ | exact tr_agg (by repeat' (first | exact trivial | rfl | refine ⟨?_, ?_⟩))))) trivial (by exact .inr ⟨doR_pure _, trivial⟩) ?_
    refine RG.go fun Q hQ => ?_
    simp (disch := intros; contradiction) only [zS, vC_eq, repC, simprocAttr]
    refine hQ (RG.nil ?_)
    simp only [zX]
    refine aw_draw 2800 (RG.go fun Q hQ => ?_)
    simp (disch := intros; contradiction) only [zS, simprocAttr]
    refine hQ ?_
    refine RG.call [] (cRp) (by (repeat' (first | exact tr_nil | refine tr_cons ?_ ?_ | exact tr_agg (by repeat' (first | exact trivial | rfl | refine ⟨?_, ?_⟩))))) trivial (by (exact .inl trivial)) ?_
    refine RG.go fun Q hQ => ?_
    simp (disch := intros; contradiction) only [zS, simprocAttr]
    refine hQ ?_
    refine RG.callg _ _ [] rfl (fun hg => ⟨_, (cSm), by (repeat' (first | exact tr_nil | refine tr_cons ?_ ?_ | exact tr_opt (by simpa using hg) (tr_agg (by repeat' (first | exact trivial | rfl | refine ⟨?_, ?_⟩))))), trivial, by (exact .inl trivial)⟩) ?_
    refine RG.go fun Q hQ => ?_
    simp (disch := intros; contradiction) only [zS, simprocAttr]
    repeat refine ⟨by ((simp; done)), ?_⟩
    refine hQ ?_
    refine RG.callg _ _ [] rfl (fun hg => ⟨_, (cRi), by (repeat' (first | exact tr_nil | refine tr_cons ?_ ?_ | exact tr_opt (by simpa using hg) (tr_agg (by repeat' (first | exact trivial | rfl | refine ⟨?_, ?_⟩))))), trivial, by (exact .inl trivial)⟩) ?_
    refine RG.go fun Q hQ => ?_
    simp (disch := intros; contradiction) only [zS, simprocAttr]
    repeat refine ⟨by ((simp; done)), ?_⟩
    refine hQ ?_
    refine RG.callg _ _ [] rfl (fun hg => ⟨_, (volume_Len_con D.v), by (repeat' (first | exact tr_nil | refine tr_cons ?_ ?_ | exact tr_opt (by simpa using hg) (tr_agg (by repeat' (first | exact trivial | rfl | refine ⟨?_, ?_⟩))))), trivial, by (exact .inl trivial)⟩) ?_
    refine RG.go fun Q hQ => ?_
    simp (disch := intros; contradiction) only [zS, simprocAttr]
    refine hQ ?_
    refine RG.callg _ _ [] rfl (fun hg => ⟨_, (mementoref16_Len_con D.v), by (repeat' (first | exact tr_nil | refine tr_cons ?_ ?_ | exact tr_opt (by simpa using hg) (tr_agg (by repeat' (first | exact trivial | rfl | refine ⟨?_, ?_⟩))))), trivial, by (exact .inl trivial)⟩) ?_
    refine RG.go fun Q hQ => ?_
    simp (disch := intros; contradiction) only [zS, simprocAttr]
    repeat refine ⟨by ((simp; done)), ?_⟩
    refine hQ ?_
    refine RG.callg _ _ [] rfl (fun hg => ⟨_, (volume_Low_con D.v hok.pins), by (repeat' (first | exact tr_nil | refine tr_cons ?_ ?_ | exact tr_opt (by simpa using hg) (tr_agg (by repeat' (first | exact trivial | rfl | refine ⟨?_, ?_⟩))))), trivial, by (exact .inl trivial)⟩) ?_
    refine RG.go fun Q hQ => ?_
    simp (disch := intros; contradiction) only [zS, simprocAttr]
    refine hQ ?_
    refine RG.callg _ _ [] rfl (fun hg => ⟨_, (mementoref16_Low_con D.v hok.pins), by (repeat' (first | exact tr_nil | refine tr_cons ?_ ?_ | exact tr_opt (by simpa using hg) (tr_agg (by repeat' (first | exact trivial | rfl | refine ⟨?_, ?_⟩))))), trivial, by (exact .inl trivial)⟩) ?_
    refine RG.go fun Q hQ => ?_
    simp (disch := intros; contradiction) only [zS, simprocAttr]
    repeat refine ⟨by ((simp; done)), ?_⟩
    refine hQ (RG.nil ⟨by decide +kernel, ?_⟩)
    simp only [zX]
    refine aw_cond _ rfl trivial (fun ht => by simp at ht) (fun hf => ?_)
    simp only [zX]
    refine aw_draw 3296 (RG.go fun Q hQ => ?_)
    simp (disch := intros; contradiction) only [zS, simprocAttr]
    refine hQ (RG.nil ⟨by decide +kernel, ?_⟩)
    simp only [zX]
    refine aw_reg 3392 (RG.go fun Q hQ => ?_)
    simp (disch := first | (intros; contradiction) | omega | (simp only [zN]; omega)) only [zS, zW, simprocAttr]
    refine hQ (RG.nil ?_)
    simp only [zX]
    refine ⟨⟨(i + 1, D.v), by simp only; omega, hgd⟩, ?_, by first | omega | (simp only; omega)⟩
    refine Le.lit [] [] _ _ ?_ ?_ ?_ ?_
    · simp only [zL, simprocAttr]
      all_goals (try ((repeat' (rfl))))
    · simp only [zL, simprocAttr]
      all_goals (trivial; skip)
    · simp [rlook]
    · first | (simp; done) | (intro k hk; simp [rlook]; omega)
  try simp at hf
  simp only [zX, ↓reduceIte]
  refine aw_reg 3472 (RG.go fun Q hQ => ?_)
  simp (disch := intros; contradiction) only [zS, simprocAttr]
  refine hQ (RG.nil ?_)
  simp only [zX]
  refine Fin.b (.inr rfl) rfl trivial ?_
  rfl

theorem VolumePlays_law (f : CMD) (hf : byI f.items) (w : Q4) (hw : q4ok w) (l : List Q4) (hl : (∀ q ∈ l, q4ok q) ∧ l.length ≤ 9223372036854775807) (raw : List CMD) (hr : (∀ c ∈ raw, byI c.items) ∧ raw.length ≤ 9223372036854775807) :
    Con Try.prog 3 [.agg (cmdC f), .agg (qrow w), .c (.sl (l.map qrow)), .c (.sl (raw.map cmdC))] [] (B true) [] := VolumePlays_con f w l raw hf hw hl.1 hr.1

end Go.Abs

