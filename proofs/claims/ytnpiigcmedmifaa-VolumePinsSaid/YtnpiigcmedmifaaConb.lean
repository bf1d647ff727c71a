/- What the functions that the law comes to do, part 2. No condition. -/
import Derived.Test.YtnpiigcmedmifaaCona
set_option linter.unusedVariables false
set_option linter.unusedSimpArgs false
set_option linter.unnecessarySimpa false
namespace Go.Abs
open Go Go.Proofs
set_option maxRecDepth 100000
set_option linter.unusedSimpArgs false
set_option maxHeartbeats 4000000

theorem while_of {p : Int→Bool} : ∀ {l : List Int} {k : Nat},(l.take k).all p = true→(∀ h : k < l.length,p l[k] = false)→l.takeWhile p = l.take k∧l.dropWhile p = l.drop k
 | [],k,_,_=>by simp
 | x :: l,0,_,h=>by
  have:=h (by simp)
  simp at this
  simp [this]
 | x :: l,k + 1,ha,h=>by
  simp only [List.take_succ_cons,List.all_cons,Bool.and_eq_true] at ha
  obtain ⟨h1,h2⟩:=while_of (l:=l) (k:=k) ha.2 (fun hk=>by have:=h (by simp;omega);simpa using this)
  simp [ha.1,h1,h2]
theorem delP_at {t : Int} : ∀ {l : List Int} {k : Nat} (hk : k < l.length),l[k] = t→(∀ x ∈ l.take k,x≠t)→delP t l = l.take k ++ l.drop (k + 1)
 | x :: l,0,_,h,_=>by simp at h;simp [delP,h]
 | x :: l,k + 1,hk,h,hn=>by
  have hx : x≠t:=hn x (by simp)
  have ih:=delP_at (l:=l) (k:=k) (by simpa using hk) (by simpa using h) (fun y hy=>hn y (by simp [hy]))
  simp [delP,hx,ih]

theorem take_ne {l : List Int} {k : Nat} {t : Int} (h1 : k < l.length) (h : ∀ x ∈ l.take k,x≠t) (hk : l[k]≠t) : ∀ x ∈ l.take (k + 1),x≠t:=by
 intro x hx
 rw [take_one _ _ h1] at hx
 rcases List.mem_append.1 hx with h2 | h2
 ·exact h x h2
 ·rw [List.mem_singleton.1 h2];exact hk
theorem doneR_pins (v : VOL) (p : List Int) : doneR v (done { v with pins:=p }) = .tup [.agg (vO v (.sl (p.map nrow)) (.sl (v.ws.map wrow))),I 0]:=rfl
theorem done_pin (v : VOL) (c : CMD) (ok : Vok v) (hk : c.kind = 4) :
  Con Try.prog 50 [.agg (volC v),.agg (cmdC c)] [] (doneR v (doV v c)) []:=by
 rw [show doV v c = doPin v c.at' from by unfold doV;rw [if_neg (by omega),if_neg (by omega),if_pos hk]]
 unfold doPin
 have o2:=ok.pins
 refine C_mementoref16_done (Nat.le_of_ble_eq_true rfl) (Nat.le_of_ble_eq_true rfl) ?_
 simp only [cz,A_mementoref16_done,argL,objL,List.length_nil,Nat.zero_add,zX]
 refine aw_reg 16 (RG.go fun Q hQ=>?_)
 simp (disch:=intros;contradiction) only [zS,vC_eq,cmdC,cC,hk,simprocAttr]
 refine hQ (RG.nil ?_)
 simp only [zX]
 refine aw_reg 112 (RG.go fun Q hQ=>?_)
 simp (disch:=intros;contradiction) only [zS,simprocAttr]
 refine hQ (RG.nil ?_)
 simp only [zX]
 refine aw_reg 176 (RG.go fun Q hQ=>?_)
 simp (disch:=intros;contradiction) only [zS,simprocAttr]
 refine hQ (RG.nil ?_)
 simp only [zX]
 refine aw_cond _ rfl trivial (fun ht=>by cases ht) (fun hf=>?_)
 simp only [zX]
 refine aw_reg 240 (RG.go fun Q hQ=>?_)
 simp (disch:=intros;contradiction) only [zS,simprocAttr]
 refine hQ (RG.nil ?_)
 simp only [zX]
 refine aw_cond _ rfl trivial (fun ht=>by cases ht) (fun hf=>?_)
 simp only [zX]
 refine aw_reg 304 (RG.go fun Q hQ=>?_)
 simp (disch:=intros;contradiction) only [zS,simprocAttr]
 refine hQ (RG.nil ?_)
 simp only [zX]
 refine aw_cond _ rfl trivial (fun ht=>?_) (fun hf=>by cases hf)
 simp only [zX]
 refine aw_cond _ rfl trivial (fun ht=>?_) (fun hf=>by cases hf)
 simp only [zX]
 refine aw_reg 368 (RG.go fun Q hQ=>?_)
 simp (disch:=intros;contradiction) only [zS,simprocAttr]
 refine hQ (RG.nil ?_)
 simp only [zX]
 refine aw_cond _ rfl trivial (fun ht=>?_) (fun hf=>?_)
 ·skip
  try simp at ht
  simp only [zX]
  rw [if_pos ht]
  refine aw_reg 432 (RG.go fun Q hQ=>?_)
  simp (disch:=intros;contradiction) only [zS,simprocAttr]
  refine hQ (RG.nil ?_)
  simp only [zX]
  refine Fin.data [] (.inr rfl) rfl (by (exact ⟨trivial,trivial⟩)) ?_
  simp only [zL,simprocAttr]
  all_goals ((repeat' (first | exact trivial | rfl | refine ⟨?_,?_⟩)))
 try simp at hf
 simp only [zX]
 rw [if_neg (by simp [hf])]
 refine aw_reg 512 (RG.go fun Q hQ=>?_)
 simp (disch:=intros;contradiction) only [zS,simprocAttr]
 refine hQ (RG.nil ?_)
 simp only [zX]
 refine aw_reg 576 (RG.go fun Q hQ=>?_)
 simp (disch:=intros;contradiction) only [zS,simprocAttr]
 refine hQ (RG.nil ?_)
 simp only [zX]
 refine aw_cond _ rfl trivial (fun ht=>by cases ht) (fun hf=>?_)
 simp only [zX]
 refine aw_reg 640 (RG.go fun Q hQ=>?_)
 simp (disch:=intros;contradiction) only [zS,simprocAttr]
 refine hQ (RG.nil ?_)
 simp only [zX]
 refine aw_cond _ rfl trivial (fun ht=>by cases ht) (fun hf=>?_)
 simp only [zX]
 refine aw_reg 704 (RG.go fun Q hQ=>?_)
 simp (disch:=intros;contradiction) only [zS,simprocAttr]
 refine hQ (RG.nil ?_)
 simp only [zX]
 refine aw_cond _ rfl trivial (fun ht=>?_) (fun hf=>by cases hf)
 simp only [zX]
 refine aw_reg 768 (RG.go fun Q hQ=>?_)
 simp (disch:=intros;contradiction) only [zS,simprocAttr]
 refine hQ (RG.nil ?_)
 simp only [zX]
 refine aw_cond _ rfl trivial (fun ht=>?_) (fun hf=>?_)
 ·skip
  try simp at ht
  simp only [zX]
  rw [if_pos ht]
  refine aw_reg 880 (RG.go fun Q hQ=>?_)
  simp (disch:=intros;contradiction) only [zS,simprocAttr]
  refine hQ (RG.nil ?_)
  simp only [zX]
  refine Fin.data [] (.inr rfl) rfl (by (exact ⟨trivial,trivial⟩)) ?_
  simp only [zL,simprocAttr]
  all_goals ((repeat' (first | exact trivial | rfl | refine ⟨?_,?_⟩)))
 try simp at hf
 simp only [zX]
 rw [if_neg (by omega)]
 refine aw_draw 960 (RG.go fun Q hQ=>?_)
 simp (disch:=intros;contradiction) only [zS,simprocAttr]
 refine hQ ?_
 refine RG.call [] (mementoref16_Len_con v) (by (repeat' (first | exact tr_nil | refine tr_cons ?_ ?_ | exact tr_agg (by repeat' (first | exact trivial | rfl | refine ⟨?_,?_⟩))))) trivial (by (exact .inl trivial)) ?_
 refine RG.go fun Q hQ=>?_
 simp (disch:=intros;contradiction) only [zS,simprocAttr]
 refine hQ (RG.nil ⟨by decide +kernel,?_⟩)
 simp only [zX]
 refine aw_cond _ rfl trivial (fun ht=>?_) (fun hf=>?_)
 ·skip
  try simp at ht
  simp only [zX]
  rw [if_pos ht]
  refine aw_reg 1072 (RG.go fun Q hQ=>?_)
  simp (disch:=intros;contradiction) only [zS,simprocAttr]
  refine hQ (RG.nil ?_)
  simp only [zX]
  refine Fin.data [] (.inr rfl) rfl (by (exact ⟨trivial,trivial⟩)) ?_
  simp only [zL,simprocAttr]
  all_goals ((repeat' (first | exact trivial | rfl | refine ⟨?_,?_⟩)))
 try simp at hf
 simp only [zX]
 rw [if_neg (by omega)]
 refine aw_reg 1152 (RG.go fun Q hQ=>?_)
 simp (disch:=intros;contradiction) only [zS,simprocAttr]
 refine hQ (RG.nil ?_)
 simp only [zX]
 refine aw_loopK (X:={ k : Nat // k≤v.pins.length∧(v.pins.take k).all (fun x=>decide (x≤c.at')) = true }) [2,3,4] (fun k=>[(6,I k.1)]) [16,32,48] (fun k=>[]) (fun k=>v.pins.length - k.1) (⟨0,by omega,rfl⟩) ?_ ?_
 ·skip
  simp only [keepS,keepE,Option.getD_some,lk_cons,lkE_cons,List.cons_append,List.nil_append,simprocAttr]
  refine Le.lit [] [] _ _ ?_ ?_ ?_ ?_
  ·simp only [zL,simprocAttr]
  ·simp only [zL,simprocAttr]
  ·simp [rlook]
  ·first | (simp;done) | (intro k hk;simp [rlook];omega)
 rintro ⟨k,hk1,hk2⟩
 simp only [keepS,keepE,Option.getD_some,lk_cons,lkE_cons,List.cons_append,List.nil_append,simprocAttr]
 simp only [zX]
 by_cases h1 : k < v.pins.length
 ·skip
  refine aw_draw 1200 (RG.go fun Q hQ=>?_)
  simp (disch:=first | (intros;contradiction) | omega | (simp only [zN];omega)) only [zS,zW,nrow,simprocAttr]
  repeat refine ⟨by ((simp;done)),?_⟩
  refine hQ (RG.nil ⟨by decide +kernel,?_⟩)
  simp only [zX]
  refine aw_cond _ rfl trivial (fun ht=>?_) (fun hf=>?_)
  ·skip
   try simp at ht
   simp only [zX]
   refine aw_reg 1472 (RG.go fun Q hQ=>?_)
   simp (disch:=first | (intros;contradiction) | omega | (simp only [zN];omega)) only [zS,zW,simprocAttr]
   refine hQ (RG.nil ?_)
   simp only [zX]
   refine ⟨⟨k + 1,h1,by rw [all_succ h1,hk2];simp;omega⟩,?_,by first | omega | (simp only;omega)⟩
   refine Le.lit [] [] _ _ ?_ ?_ ?_ ?_
   ·simp only [zL,simprocAttr]
    all_goals (try ((repeat' (rfl))))
   ·simp only [zL,simprocAttr]
   ·simp [rlook]
   ·first | (simp;done) | (intro k hk;simp [rlook];omega)
  try simp at hf
  simp only [zX,↓reduceIte]
  obtain ⟨w1,w2⟩:=while_of (p:=fun x=>decide (x≤c.at')) hk2 (fun _=>by simp;omega)
  rw [show insP c.at' v.pins = v.pins.take k ++ c.at' :: v.pins.drop k from by unfold insP;rw [w1,w2]]
  refine aw_draw 1552 (RG.go fun Q hQ=>?_)
  simp (disch:=intros;contradiction) only [zS,zW,simprocAttr]
  repeat refine ⟨by (first | exact ⟨by (intro q hq;obtain ⟨_,_,rfl⟩:=List.mem_map.1 hq;rfl),by omega⟩ | (simp;omega) | (refine ⟨?_,?_⟩ <;> (repeat' (first | omega | (intro q hq;obtain ⟨_,_,rfl⟩:=List.mem_map.1 hq;rfl) | refine ⟨?_,?_⟩)))),?_⟩
  refine hQ (RG.nil ⟨by decide +kernel,?_⟩)
  simp only [zX]
  have hp : (v.pins.take k ++ c.at' :: v.pins.drop k).map nrow = (v.pins.take k).map nrow ++ [[.v (.int .i64 c.at')]] ++ (v.pins.drop k).map nrow:=by simp [nrow]
  have hdr:=drows_nrow (v.pins.take k ++ c.at' :: v.pins.drop k)
  rw [hp] at hdr
  rw [doneR_pins,hp,vO_eq]
  refine aw_reg 1840 (RG.go fun Q hQ=>?_)
  simp (disch:=intros;contradiction) only [zS,simprocAttr]
  refine hQ (RG.nil ?_)
  simp only [zX]
  refine Fin.data [1760] (.inr rfl) rfl (by (exact ⟨trivial,trivial⟩)) ?_
  simp only [zL,simprocAttr]
  all_goals ((repeat' (first | exact trivial | rfl | (refine ⟨⟨_,_,rfl⟩,?_⟩;(assumption)) | refine ⟨?_,?_⟩)))
 refine aw_draw 1920 (RG.go fun Q hQ=>?_)
 simp (disch:=first | (intros;contradiction) | omega | (simp only [zN];omega)) only [zS,zW,simprocAttr]
 repeat refine ⟨by ((simp;omega)),?_⟩
 refine hQ (RG.nil ⟨by decide +kernel,?_⟩)
 simp only [zX]
 refine aw_cond _ rfl trivial (fun ht=>by simp at ht) (fun hf=>?_)
 simp only [zX,↓reduceIte]
 obtain ⟨w1,w2⟩:=while_of (p:=fun x=>decide (x≤c.at')) hk2 (fun h=>absurd h h1)
 rw [show insP c.at' v.pins = v.pins.take k ++ c.at' :: v.pins.drop k from by unfold insP;rw [w1,w2]]
 refine aw_draw 2192 (RG.go fun Q hQ=>?_)
 simp (disch:=intros;contradiction) only [zS,zW,simprocAttr]
 repeat refine ⟨by (first | exact ⟨by (intro q hq;obtain ⟨_,_,rfl⟩:=List.mem_map.1 hq;rfl),by omega⟩ | (simp;omega) | (refine ⟨?_,?_⟩ <;> (repeat' (first | omega | (intro q hq;obtain ⟨_,_,rfl⟩:=List.mem_map.1 hq;rfl) | refine ⟨?_,?_⟩)))),?_⟩
 refine hQ (RG.nil ⟨by decide +kernel,?_⟩)
 simp only [zX]
 have hp : (v.pins.take k ++ c.at' :: v.pins.drop k).map nrow = (v.pins.take k).map nrow ++ [[.v (.int .i64 c.at')]] ++ (v.pins.drop k).map nrow:=by simp [nrow]
 have hdr:=drows_nrow (v.pins.take k ++ c.at' :: v.pins.drop k)
 rw [hp] at hdr
 rw [doneR_pins,hp,vO_eq]
 refine aw_reg 2480 (RG.go fun Q hQ=>?_)
 simp (disch:=intros;contradiction) only [zS,simprocAttr]
 refine hQ (RG.nil ?_)
 simp only [zX]
 refine Fin.data [2400] (.inr rfl) rfl (by (exact ⟨trivial,trivial⟩)) ?_
 simp only [zL,simprocAttr]
 all_goals ((repeat' (first | exact trivial | rfl | (refine ⟨⟨_,_,rfl⟩,?_⟩;(assumption)) | refine ⟨?_,?_⟩)))

theorem done_unpin (v : VOL) (c : CMD) (ok : Vok v) (hk : c.kind = 5) :
  Con Try.prog 50 [.agg (volC v),.agg (cmdC c)] [] (doneR v (doV v c)) []:=by
 rw [show doV v c = doUnpin v c.at' from by unfold doV;rw [if_neg (by omega),if_neg (by omega),if_neg (by omega),if_pos hk]]
 unfold doUnpin
 have o2:=ok.pins
 refine C_mementoref16_done (Nat.le_of_ble_eq_true rfl) (Nat.le_of_ble_eq_true rfl) ?_
 simp only [cz,A_mementoref16_done,argL,objL,List.length_nil,Nat.zero_add,zX]
 refine aw_reg 16 (RG.go fun Q hQ=>?_)
 simp (disch:=intros;contradiction) only [zS,vC_eq,cmdC,cC,hk,simprocAttr]
 refine hQ (RG.nil ?_)
 simp only [zX]
 refine aw_reg 112 (RG.go fun Q hQ=>?_)
 simp (disch:=intros;contradiction) only [zS,simprocAttr]
 refine hQ (RG.nil ?_)
 simp only [zX]
 refine aw_reg 176 (RG.go fun Q hQ=>?_)
 simp (disch:=intros;contradiction) only [zS,simprocAttr]
 refine hQ (RG.nil ?_)
 simp only [zX]
 refine aw_cond _ rfl trivial (fun ht=>by cases ht) (fun hf=>?_)
 simp only [zX]
 refine aw_reg 240 (RG.go fun Q hQ=>?_)
 simp (disch:=intros;contradiction) only [zS,simprocAttr]
 refine hQ (RG.nil ?_)
 simp only [zX]
 refine aw_cond _ rfl trivial (fun ht=>by cases ht) (fun hf=>?_)
 simp only [zX]
 refine aw_reg 304 (RG.go fun Q hQ=>?_)
 simp (disch:=intros;contradiction) only [zS,simprocAttr]
 refine hQ (RG.nil ?_)
 simp only [zX]
 refine aw_cond _ rfl trivial (fun ht=>by cases ht) (fun hf=>?_)
 refine aw_reg 368 (RG.go fun Q hQ=>?_)
 simp (disch:=intros;contradiction) only [zS,simprocAttr]
 refine hQ (RG.nil ?_)
 simp only [zX]
 refine aw_cond _ rfl trivial (fun ht=>?_) (fun hf=>by cases hf)
 simp only [zX]
 refine aw_reg 432 (RG.go fun Q hQ=>?_)
 simp (disch:=intros;contradiction) only [zS,simprocAttr]
 refine hQ (RG.nil ?_)
 simp only [zX]
 refine aw_cond _ rfl trivial (fun ht=>?_) (fun hf=>?_)
 ·skip
  try simp at ht
  simp only [zX]
  rw [if_pos ht]
  refine aw_reg 496 (RG.go fun Q hQ=>?_)
  simp (disch:=intros;contradiction) only [zS,simprocAttr]
  refine hQ (RG.nil ?_)
  simp only [zX]
  refine Fin.data [] (.inr rfl) rfl (by (exact ⟨trivial,trivial⟩)) ?_
  simp only [zL,simprocAttr]
  all_goals ((repeat' (first | exact trivial | rfl | refine ⟨?_,?_⟩)))
 try simp at hf
 simp only [zX]
 rw [if_neg (by simp [hf])]
 refine aw_reg 576 (RG.go fun Q hQ=>?_)
 simp (disch:=intros;contradiction) only [zS,simprocAttr]
 refine hQ (RG.nil ?_)
 simp only [zX]
 refine aw_reg 640 (RG.go fun Q hQ=>?_)
 simp (disch:=intros;contradiction) only [zS,simprocAttr]
 refine hQ (RG.nil ?_)
 simp only [zX]
 refine aw_cond _ rfl trivial (fun ht=>by cases ht) (fun hf=>?_)
 simp only [zX]
 refine aw_reg 704 (RG.go fun Q hQ=>?_)
 simp (disch:=intros;contradiction) only [zS,simprocAttr]
 refine hQ (RG.nil ?_)
 simp only [zX]
 refine aw_cond _ rfl trivial (fun ht=>by cases ht) (fun hf=>?_)
 simp only [zX]
 refine aw_reg 768 (RG.go fun Q hQ=>?_)
 simp (disch:=intros;contradiction) only [zS,simprocAttr]
 refine hQ (RG.nil ?_)
 simp only [zX]
 refine aw_cond _ rfl trivial (fun ht=>by cases ht) (fun hf=>?_)
 simp only [zX]
 refine aw_reg 832 (RG.go fun Q hQ=>?_)
 simp (disch:=intros;contradiction) only [zS,simprocAttr]
 refine hQ (RG.nil ?_)
 simp only [zX]
 refine aw_cond _ rfl trivial (fun ht=>?_) (fun hf=>by cases hf)
 simp only [zX]
 refine aw_reg 896 (RG.go fun Q hQ=>?_)
 simp (disch:=intros;contradiction) only [zS,simprocAttr]
 refine hQ (RG.nil ?_)
 simp only [zX]
 refine aw_loopK (X:={ k : Nat // k≤v.pins.length∧∀ x ∈ v.pins.take k,x≠c.at' }) [2,3,4] (fun k=>[(7,I k.1)]) [16,32,48] (fun k=>[]) (fun k=>v.pins.length - k.1) (⟨0,by omega,by simp⟩) ?_ ?_
 ·skip
  simp only [keepS,keepE,Option.getD_some,lk_cons,lkE_cons,List.cons_append,List.nil_append,simprocAttr]
  refine Le.lit [] [] _ _ ?_ ?_ ?_ ?_
  ·simp only [zL,simprocAttr]
  ·simp only [zL,simprocAttr]
  ·simp [rlook]
  ·first | (simp;done) | (intro k hk;simp [rlook];omega)
 rintro ⟨k,hk1,hk2⟩
 simp only [keepS,keepE,Option.getD_some,lk_cons,lkE_cons,List.cons_append,List.nil_append,simprocAttr]
 simp only [zX]
 refine aw_reg 944 (RG.go fun Q hQ=>?_)
 simp (disch:=intros;contradiction) only [zS,zW,simprocAttr]
 refine hQ (RG.nil ?_)
 simp only [zX]
 refine aw_cond _ rfl trivial (fun ht=>?_) (fun hf=>?_)
 ·skip
  try simp at ht
  simp only [zX]
  have h1 : k < v.pins.length:=by omega
  refine aw_draw 1056 (RG.go fun Q hQ=>?_)
  simp (disch:=first | (intros;contradiction) | omega | (simp only [zN];omega)) only [zS,zW,nrow,simprocAttr]
  repeat refine ⟨by (omega),?_⟩
  refine hQ (RG.nil ⟨by decide +kernel,?_⟩)
  simp only [zX]
  refine aw_cond _ rfl trivial (fun ht=>?_) (fun hf=>?_)
  ·skip
   try simp at ht
   simp only [zX]
   rw [if_pos (by rw [← ht];exact List.getElem_mem h1)]
   rw [delP_at h1 ht hk2]
   refine aw_draw 1216 (RG.go fun Q hQ=>?_)
   simp (disch:=first | (intros;contradiction) | omega | (simp only [zN];omega)) only [zS,zW,simprocAttr]
   repeat refine ⟨by (first | exact ⟨by (intro q hq;obtain ⟨_,_,rfl⟩:=List.mem_map.1 hq;rfl),by omega⟩ | (refine ⟨?_,?_⟩ <;> (repeat' (first | omega | (intro q hq;obtain ⟨_,_,rfl⟩:=List.mem_map.1 hq;rfl) | refine ⟨?_,?_⟩)))),?_⟩
   refine hQ (RG.nil ⟨by decide +kernel,?_⟩)
   simp only [zX]
   have hp : (v.pins.take k ++ v.pins.drop (k + 1)).map nrow = (v.pins.take k).map nrow ++ (v.pins.drop (k + 1)).map nrow:=by simp
   have hdr:=drows_nrow (v.pins.take k ++ v.pins.drop (k + 1))
   rw [hp] at hdr
   rw [doneR_pins,hp,vO_eq]
   refine aw_reg 1456 (RG.go fun Q hQ=>?_)
   simp (disch:=intros;contradiction) only [zS,simprocAttr]
   refine hQ (RG.nil ?_)
   simp only [zX]
   refine Fin.data [1376] (.inr rfl) rfl (by (exact ⟨trivial,trivial⟩)) ?_
   simp only [zL,simprocAttr]
   all_goals ((repeat' (first | exact trivial | rfl | (refine ⟨⟨_,_,rfl⟩,?_⟩;(assumption)) | refine ⟨?_,?_⟩)))
  try simp at hf
  simp only [zX]
  refine aw_reg 1536 (RG.go fun Q hQ=>?_)
  simp (disch:=first | (intros;contradiction) | omega | (simp only [zN];omega)) only [zS,zW,simprocAttr]
  refine hQ (RG.nil ?_)
  simp only [zX]
  refine ⟨⟨k + 1,h1,take_ne h1 hk2 hf⟩,?_,by first | omega | (simp only;omega)⟩
  refine Le.lit [] [] _ _ ?_ ?_ ?_ ?_
  ·simp only [zL,simprocAttr]
   all_goals (try ((repeat' (rfl))))
  ·simp only [zL,simprocAttr]
  ·simp [rlook]
  ·first | (simp;done) | (intro k hk;simp [rlook];omega)
 try simp at hf
 simp only [zX,↓reduceIte]
 have hk' : k = v.pins.length:=by omega
 rw [hk',List.take_length] at hk2
 rw [if_neg (fun h=>hk2 _ h rfl)]
 refine aw_reg 1616 (RG.go fun Q hQ=>?_)
 simp (disch:=intros;contradiction) only [zS,simprocAttr]
 refine hQ (RG.nil ?_)
 simp only [zX]
 refine Fin.data [] (.inr rfl) rfl (by (exact ⟨trivial,trivial⟩)) ?_
 simp only [zL,simprocAttr]
 all_goals ((repeat' (first | exact trivial | rfl | refine ⟨?_,?_⟩)))

end Go.Abs

namespace Go.Abs
open Go Go.Proofs
set_option maxRecDepth 100000
set_option linter.unusedSimpArgs false
set_option maxHeartbeats 4000000

theorem doImp_none {v : VOL} {c : CMD} (h : impS v c = none) : doImp v c = done (addN v c.items):=by unfold doImp;rw [h]
theorem doImp_some {v w : VOL} {c : CMD} {e : Int} (h : impS v c = some (w,e)) : doImp v c = if e = 0 then done w else fail v e:=by unfold doImp;rw [h]

theorem done_publish (v : VOL) (c : CMD) (hk : c.kind = 7) :
  Con Try.prog 50 [.agg (volC v),.agg (cmdC c)] [] (doneR v (doV v c)) []:=by
 rw [show doV v c = doImp v c from by unfold doV;rw [if_neg (by omega),if_neg (by omega),if_neg (by omega),if_neg (by omega),if_pos (by omega)]]
 refine C_mementoref16_done (Nat.le_of_ble_eq_true rfl) (Nat.le_of_ble_eq_true rfl) ?_
 simp only [cz,A_mementoref16_done,argL,objL,List.length_nil,Nat.zero_add,zX]
 refine aw_reg 16 (RG.go fun Q hQ=>?_)
 simp (disch:=intros;contradiction) only [zS,vC_eq,cmdC,cC,hk,simprocAttr]
 refine hQ (RG.nil ?_)
 simp only [zX]
 refine aw_reg 112 (RG.go fun Q hQ=>?_)
 simp (disch:=intros;contradiction) only [zS,simprocAttr]
 refine hQ (RG.nil ?_)
 simp only [zX]
 refine aw_reg 176 (RG.go fun Q hQ=>?_)
 simp (disch:=intros;contradiction) only [zS,simprocAttr]
 refine hQ (RG.nil ?_)
 simp only [zX]
 refine aw_cond _ rfl trivial (fun ht=>by cases ht) (fun hf=>?_)
 simp only [zX]
 refine aw_reg 240 (RG.go fun Q hQ=>?_)
 simp (disch:=intros;contradiction) only [zS,simprocAttr]
 refine hQ (RG.nil ?_)
 simp only [zX]
 refine aw_cond _ rfl trivial (fun ht=>by cases ht) (fun hf=>?_)
 simp only [zX]
 refine aw_reg 304 (RG.go fun Q hQ=>?_)
 simp (disch:=intros;contradiction) only [zS,simprocAttr]
 refine hQ (RG.nil ?_)
 simp only [zX]
 refine aw_cond _ rfl trivial (fun ht=>by cases ht) (fun hf=>?_)
 refine aw_reg 368 (RG.go fun Q hQ=>?_)
 simp (disch:=intros;contradiction) only [zS,simprocAttr]
 refine hQ (RG.nil ?_)
 simp only [zX]
 refine aw_cond _ rfl trivial (fun ht=>by cases ht) (fun hf=>?_)
 simp only [zX]
 refine aw_reg 432 (RG.go fun Q hQ=>?_)
 simp (disch:=intros;contradiction) only [zS,simprocAttr]
 refine hQ (RG.nil ?_)
 simp only [zX]
 refine aw_reg 496 (RG.go fun Q hQ=>?_)
 simp (disch:=intros;contradiction) only [zS,simprocAttr]
 refine hQ (RG.nil ?_)
 simp only [zX]
 refine aw_cond _ rfl trivial (fun ht=>by cases ht) (fun hf=>?_)
 simp only [zX]
 refine aw_reg 560 (RG.go fun Q hQ=>?_)
 simp (disch:=intros;contradiction) only [zS,simprocAttr]
 refine hQ (RG.nil ?_)
 simp only [zX]
 refine aw_cond _ rfl trivial (fun ht=>by cases ht) (fun hf=>?_)
 simp only [zX]
 refine aw_reg 624 (RG.go fun Q hQ=>?_)
 simp (disch:=intros;contradiction) only [zS,simprocAttr]
 refine hQ (RG.nil ?_)
 simp only [zX]
 refine aw_cond _ rfl trivial (fun ht=>by cases ht) (fun hf=>?_)
 simp only [zX]
 refine aw_reg 688 (RG.go fun Q hQ=>?_)
 simp (disch:=intros;contradiction) only [zS,simprocAttr]
 refine hQ (RG.nil ?_)
 simp only [zX]
 refine aw_cond _ rfl trivial (fun ht=>by cases ht) (fun hf=>?_)
 simp only [zX]
 refine aw_reg 752 (RG.go fun Q hQ=>?_)
 simp (disch:=intros;contradiction) only [zS,simprocAttr]
 refine hQ (RG.nil ?_)
 simp only [zX]
 refine aw_cond _ rfl trivial (fun ht=>by cases ht) (fun hf=>?_)
 simp only [zX]
 refine aw_reg 816 (RG.go fun Q hQ=>?_)
 simp (disch:=intros;contradiction) only [zS,simprocAttr]
 refine hQ (RG.nil ?_)
 simp only [zX]
 refine aw_cond _ rfl trivial (fun ht=>?_) (fun hf=>by cases hf)
 simp only [zX]
 refine aw_reg 880 (RG.go fun Q hQ=>?_)
 simp (disch:=intros;contradiction) only [zS,simprocAttr]
 repeat refine ⟨by ((simp;done)),?_⟩
 refine hQ (RG.nil ?_)
 simp only [zX]
 refine aw_cond _ rfl trivial (fun ht=>?_) (fun hf=>?_)
 ·skip
  try simp at ht
  simp only [zX]
  have h : impS v c = some (v,33):=by
   unfold impS
   by_cases hh : v.hid = false
   ·rw [if_pos hh]
   ·rw [if_neg hh,if_pos hk,if_neg]
    rcases ht with h | h
    ·exact absurd h hh
    ·exact h
  rw [doImp_some h]
  refine aw_reg 1072 (RG.go fun Q hQ=>?_)
  simp (disch:=intros;contradiction) only [zS,simprocAttr]
  refine hQ (RG.nil ?_)
  simp only [zX]
  refine Fin.data [] (.inr rfl) rfl (by (exact ⟨trivial,trivial⟩)) ?_
  simp only [zL,simprocAttr]
  all_goals ((repeat' (first | exact trivial | rfl | refine ⟨?_,?_⟩)))
 try simp at hf
 simp only [zX]
 have h : impS v c = some (pubV v,0):=by
  unfold impS
  rw [if_neg (by simp [hf.1]),if_pos hk,if_pos hf.2]
 rw [doImp_some h]
 refine aw_reg 1152 (RG.go fun Q hQ=>?_)
 simp (disch:=intros;contradiction) only [zS,simprocAttr]
 refine hQ ?_
 refine RG.call [] (mementoref16_Len_con v) (by (repeat' (first | exact tr_nil | refine tr_cons ?_ ?_ | exact tr_agg (by repeat' (first | exact trivial | rfl | refine ⟨?_,?_⟩))))) trivial (by (exact .inl trivial)) ?_
 refine RG.go fun Q hQ=>?_
 simp (disch:=intros;contradiction) only [zS,simprocAttr]
 refine hQ (RG.nil ?_)
 simp only [zX,↓reduceIte]
 refine aw_reg 1280 (RG.go fun Q hQ=>?_)
 simp (disch:=intros;contradiction) only [zS,simprocAttr]
 refine hQ (RG.nil ?_)
 simp only [zX]
 refine Fin.data [] (.inr rfl) rfl (by (exact ⟨trivial,trivial⟩)) ?_
 simp only [zL,simprocAttr]
 all_goals ((repeat' (first | exact trivial | rfl | refine ⟨?_,?_⟩)))

theorem done_import (v : VOL) (c : CMD) (ok : Vok v) (hn : 0≤v.next∧v.next≤1099511627776) (hk : c.kind = 6) (hl : c.items.length≤1000000) (hd : ∀ x ∈ c.items,x.d.length≤1000000) :
  Con Try.prog 50 [.agg (volC v),.agg (cmdC c)] [] (doneR v (doV v c)) []:=by
 rw [show doV v c = doImp v c from by unfold doV;rw [if_neg (by omega),if_neg (by omega),if_neg (by omega),if_neg (by omega),if_pos (by omega)]]
 refine C_mementoref16_done (Nat.le_of_ble_eq_true rfl) (Nat.le_of_ble_eq_true rfl) ?_
 simp only [cz,A_mementoref16_done,argL,objL,List.length_nil,Nat.zero_add,zX]
 refine aw_reg 16 (RG.go fun Q hQ=>?_)
 simp (disch:=intros;contradiction) only [zS,vC_eq,cmdC,cC,hk,simprocAttr]
 refine hQ (RG.nil ?_)
 simp only [zX]
 refine aw_reg 112 (RG.go fun Q hQ=>?_)
 simp (disch:=intros;contradiction) only [zS,simprocAttr]
 refine hQ (RG.nil ?_)
 simp only [zX]
 refine aw_reg 176 (RG.go fun Q hQ=>?_)
 simp (disch:=intros;contradiction) only [zS,simprocAttr]
 refine hQ (RG.nil ?_)
 simp only [zX]
 refine aw_cond _ rfl trivial (fun ht=>by cases ht) (fun hf=>?_)
 simp only [zX]
 refine aw_reg 240 (RG.go fun Q hQ=>?_)
 simp (disch:=intros;contradiction) only [zS,simprocAttr]
 refine hQ (RG.nil ?_)
 simp only [zX]
 refine aw_cond _ rfl trivial (fun ht=>by cases ht) (fun hf=>?_)
 simp only [zX]
 refine aw_reg 304 (RG.go fun Q hQ=>?_)
 simp (disch:=intros;contradiction) only [zS,simprocAttr]
 refine hQ (RG.nil ?_)
 simp only [zX]
 refine aw_cond _ rfl trivial (fun ht=>by cases ht) (fun hf=>?_)
 refine aw_reg 368 (RG.go fun Q hQ=>?_)
 simp (disch:=intros;contradiction) only [zS,simprocAttr]
 refine hQ (RG.nil ?_)
 simp only [zX]
 refine aw_cond _ rfl trivial (fun ht=>by cases ht) (fun hf=>?_)
 simp only [zX]
 refine aw_reg 432 (RG.go fun Q hQ=>?_)
 simp (disch:=intros;contradiction) only [zS,simprocAttr]
 refine hQ (RG.nil ?_)
 simp only [zX]
 refine aw_reg 496 (RG.go fun Q hQ=>?_)
 simp (disch:=intros;contradiction) only [zS,simprocAttr]
 refine hQ (RG.nil ?_)
 simp only [zX]
 refine aw_cond _ rfl trivial (fun ht=>by cases ht) (fun hf=>?_)
 simp only [zX]
 refine aw_reg 560 (RG.go fun Q hQ=>?_)
 simp (disch:=intros;contradiction) only [zS,simprocAttr]
 refine hQ (RG.nil ?_)
 simp only [zX]
 refine aw_cond _ rfl trivial (fun ht=>by cases ht) (fun hf=>?_)
 simp only [zX]
 refine aw_reg 624 (RG.go fun Q hQ=>?_)
 simp (disch:=intros;contradiction) only [zS,simprocAttr]
 refine hQ (RG.nil ?_)
 simp only [zX]
 refine aw_cond _ rfl trivial (fun ht=>by cases ht) (fun hf=>?_)
 simp only [zX]
 refine aw_reg 688 (RG.go fun Q hQ=>?_)
 simp (disch:=intros;contradiction) only [zS,simprocAttr]
 refine hQ (RG.nil ?_)
 simp only [zX]
 refine aw_cond _ rfl trivial (fun ht=>by cases ht) (fun hf=>?_)
 simp only [zX]
 refine aw_reg 752 (RG.go fun Q hQ=>?_)
 simp (disch:=intros;contradiction) only [zS,simprocAttr]
 refine hQ (RG.nil ?_)
 simp only [zX]
 refine aw_cond _ rfl trivial (fun ht=>?_) (fun hf=>by cases hf)
 simp only [zX]
 refine aw_reg 816 (RG.go fun Q hQ=>?_)
 simp (disch:=intros;contradiction) only [zS,simprocAttr]
 refine hQ (RG.nil ?_)
 simp only [zX]
 refine aw_cond _ rfl trivial (fun ht=>?_) (fun hf=>?_)
 ·skip
  try simp at ht
  simp only [zX]
  rw [doImp_some (w:=v) (e:=33) (by unfold impS;rw [if_pos ht])]
  refine aw_reg 896 (RG.go fun Q hQ=>?_)
  simp (disch:=intros;contradiction) only [zS,simprocAttr]
  refine hQ (RG.nil ?_)
  simp only [zX]
  refine Fin.data [] (.inr rfl) rfl (by (exact ⟨trivial,trivial⟩)) ?_
  simp only [zL,simprocAttr]
  all_goals ((repeat' (first | exact trivial | rfl | refine ⟨?_,?_⟩)))
 try simp at hf
 simp only [zX]
 have h0 : ¬ v.hid = false:=by simp [hf]
 have h7 : ¬ c.kind = 7:=by omega
 refine aw_reg 976 (RG.go fun Q hQ=>?_)
 simp (disch:=intros;contradiction) only [zS,simprocAttr]
 refine hQ (RG.nil ?_)
 simp only [zX]
 refine aw_cond _ rfl trivial (fun ht=>?_) (fun hf=>?_)
 ·skip
  try simp at ht
  simp only [zX]
  rw [doImp_some (w:=v) (e:=0) (by unfold impS;rw [if_neg h0,if_neg h7,if_pos ht])]
  refine aw_reg 1168 (RG.go fun Q hQ=>?_)
  simp (disch:=intros;contradiction) only [zS,simprocAttr]
  refine hQ (RG.nil ?_)
  simp only [zX,↓reduceIte]
  refine Fin.data [] (.inr rfl) rfl (by (exact ⟨trivial,trivial⟩)) ?_
  simp only [zL,simprocAttr]
  all_goals ((repeat' (first | exact trivial | rfl | refine ⟨?_,?_⟩)))
 try simp at hf
 simp only [zX]
 have h1 : ¬ (0≤c.index∧c.index < v.next):=by omega
 refine aw_reg 1248 (RG.go fun Q hQ=>?_)
 simp (disch:=intros;contradiction) only [zS,simprocAttr]
 repeat refine ⟨by ((simp;done)),?_⟩
 refine hQ (RG.nil ?_)
 simp only [zX]
 refine aw_cond _ rfl trivial (fun ht=>?_) (fun hf=>?_)
 ·skip
  try simp at ht
  simp only [zX]
  rw [doImp_some (w:=v) (e:=33) (by unfold impS;rw [if_neg h0,if_neg h7,if_neg h1,if_pos ht])]
  refine aw_reg 1472 (RG.go fun Q hQ=>?_)
  simp (disch:=intros;contradiction) only [zS,simprocAttr]
  refine hQ (RG.nil ?_)
  simp only [zX]
  refine Fin.data [] (.inr rfl) rfl (by (exact ⟨trivial,trivial⟩)) ?_
  simp only [zL,simprocAttr]
  all_goals ((repeat' (first | exact trivial | rfl | refine ⟨?_,?_⟩)))
 try simp at hf
 simp only [zX]
 have h2 : ¬ (c.index≠v.next∨v.next = v.total):=by omega
 refine aw_reg 1552 (RG.go fun Q hQ=>?_)
 simp (disch:=intros;contradiction) only [zS,simprocAttr]
 refine hQ ?_
 refine RG.call [] (mementoref13_ItemsRight_con v.blocks v.size c.items hl hd) (by (repeat' (first | exact tr_nil | refine tr_cons ?_ ?_ | exact tr_v | exact tr_sl))) trivial (by (exact .inl trivial)) ?_
 refine RG.go fun Q hQ=>?_
 simp (disch:=intros;contradiction) only [zS,simprocAttr]
 refine hQ (RG.nil ?_)
 simp only [zX]
 refine aw_cond _ rfl trivial (fun ht=>?_) (fun hf=>?_)
 ·skip
  try simp at ht
  simp only [zX]
  rw [doImp_some (w:=v) (e:=23) (by unfold impS;rw [if_neg h0,if_neg h7,if_neg h1,if_neg h2,if_neg (by simp [ht])])]
  refine aw_reg 1712 (RG.go fun Q hQ=>?_)
  simp (disch:=intros;contradiction) only [zS,simprocAttr]
  refine hQ (RG.nil ?_)
  simp only [zX]
  refine Fin.data [] (.inr rfl) rfl (by (exact ⟨trivial,trivial⟩)) ?_
  simp only [zL,simprocAttr]
  all_goals ((repeat' (first | exact trivial | rfl | refine ⟨?_,?_⟩)))
 try simp at hf
 simp only [zX]
 rw [doImp_none (by unfold impS;rw [if_neg h0,if_neg h7,if_neg h1,if_neg h2,if_pos hf])]
 refine aw_reg 1792 (RG.go fun Q hQ=>?_)
 simp (disch:=intros;contradiction) only [zS,simprocAttr]
 refine hQ ?_
 refine RG.call [] (mementoref16_write_con v c.items ok.ws hl hd) (by (repeat' (first | exact tr_nil | refine tr_cons ?_ ?_ | exact tr_sl | exact tr_agg (by repeat' (first | exact trivial | rfl | refine ⟨?_,?_⟩))))) trivial (by exact .inr ⟨volC_pure _,trivial⟩) ?_
 refine RG.go fun Q hQ=>?_
 simp (disch:=intros;contradiction) only [zS,vC_eq,simprocAttr]
 refine hQ (RG.nil ?_)
 simp only [zX]
 refine aw_reg 1904 (RG.go fun Q hQ=>?_)
 simp (disch:=first | (intros;contradiction) | omega | (simp only [zN];omega)) only [zS,zW,addW,simprocAttr]
 refine hQ (RG.nil ?_)
 simp only [zX]
 refine aw_reg 2016 (RG.go fun Q hQ=>?_)
 simp (disch:=intros;contradiction) only [zS,simprocAttr]
 refine hQ (RG.nil ?_)
 simp only [zX]
 refine Fin.data [] (.inr rfl) rfl (by (exact ⟨trivial,trivial⟩)) ?_
 simp only [zL,simprocAttr]
 all_goals ((repeat' (first | exact trivial | rfl | refine ⟨?_,?_⟩)))

theorem mementoref16_done_con (v : VOL) (c : CMD) (ok : Vok v) (hn : 0≤v.next∧v.next≤1099511627776) (hl : c.items.length≤1000000) (hd : ∀ x ∈ c.items,x.d.length≤1000000) :
  Con Try.prog 50 [.agg (volC v),.agg (cmdC c)] [] (doneR v (doV v c)) []:=by
 rcases Int.lt_or_le c.kind 2 with h | h
 ·exact done_other v c (.inl h)
 rcases Int.lt_or_le 8 c.kind with h' | h'
 ·exact done_other v c (.inr h')
 have : c.kind = 2∨c.kind = 3∨c.kind = 4∨c.kind = 5∨c.kind = 6∨c.kind = 7∨c.kind = 8:=by omega
 rcases this with h | h | h | h | h | h | h
 ·exact done_put v c ok h hl hd
 ·exact done_prune v c ok h
 ·exact done_pin v c ok h
 ·exact done_unpin v c ok h
 ·exact done_import v c ok hn h hl hd
 ·exact done_publish v c h
 ·exact done_stat v c h

abbrev doR (d : DO) : SV:=.tup [.agg (volC d.v),.agg (repC d.e d.len d.floor d.next [])]

theorem doV_ok (v : VOL) (c : CMD) : (∃ w,doV v c = done w)∨∃ e,e≠0∧doV v c = fail v e:=by
 have hi : (∃ w,doImp v c = done w)∨∃ e,e≠0∧doImp v c = fail v e:=by
  unfold doImp
  split
  ·exact .inl ⟨_,rfl⟩
  ·split
   ·exact .inl ⟨_,rfl⟩
   ·rename_i h;exact .inr ⟨_,h,rfl⟩
 unfold doV
 split
 ·unfold doPut
  split
  ·exact .inr ⟨28,by decide,rfl⟩
  split
  ·exact .inl ⟨_,rfl⟩
  ·exact .inr ⟨23,by decide,rfl⟩
 split
 ·unfold doPrune
  split
  ·exact .inr ⟨28,by decide,rfl⟩
  split
  ·exact .inr ⟨30,by decide,rfl⟩
  split
  ·exact .inr ⟨31,by decide,rfl⟩
  ·exact .inl ⟨_,rfl⟩
 split
 ·unfold doPin
  split
  ·exact .inr ⟨28,by decide,rfl⟩
  split
  ·exact .inr ⟨30,by decide,rfl⟩
  split
  ·exact .inr ⟨31,by decide,rfl⟩
  ·exact .inl ⟨_,rfl⟩
 split
 ·unfold doUnpin
  split
  ·exact .inr ⟨28,by decide,rfl⟩
  split
  ·exact .inl ⟨_,rfl⟩
  ·exact .inr ⟨28,by decide,rfl⟩
 split
 ·exact hi
 split
 ·exact .inl ⟨_,rfl⟩
 ·exact .inr ⟨23,by decide,rfl⟩

theorem doneR_pure (v : VOL) (d : DO) : (doneR v d).pureD:=pureTA (volC_pure _)

theorem mementoref16_Do_con (v : VOL) (c : CMD) (ok : Vok v) (hn : 0≤v.next∧v.next≤1099511627776) (hl : c.items.length≤1000000) (hd : ∀ x ∈ c.items,x.d.length≤1000000) :
  Con Try.prog 19 [.agg (volC v),.agg (cmdC c)] [] (doR (doV v c)) []:=by
 have cD:=mementoref16_done_con v c ok hn hl hd
 rcases doV_ok v c with ⟨w,h⟩ | ⟨e,he,h⟩
 ·rw [h] at cD ⊢
  refine C_mementoref16_Do (Nat.le_of_ble_eq_true rfl) (Nat.le_of_ble_eq_true rfl) ?_
  simp only [cz,A_mementoref16_Do,argL,objL,List.length_nil,Nat.zero_add,zX]
  refine aw_reg 16 (RG.go fun Q hQ=>?_)
  simp (disch:=intros;contradiction) only [zS,vC_eq,cmdC,cC,simprocAttr]
  refine hQ (RG.nil ?_)
  simp only [zX]
  refine aw_reg 112 (RG.go fun Q hQ=>?_)
  simp (disch:=intros;contradiction) only [zS,simprocAttr]
  refine hQ ?_
  refine RG.call [] (cD) (by (repeat' (first | exact tr_nil | refine tr_cons ?_ ?_ | exact tr_agg (by repeat' (first | exact trivial | rfl | refine ⟨?_,?_⟩))))) trivial (by exact .inr ⟨doneR_pure v _,trivial⟩) ?_
  refine RG.go fun Q hQ=>?_
  simp (disch:=intros;contradiction) only [zS,vC_eq,done,simprocAttr]
  refine hQ (RG.nil ?_)
  simp only [zX]
  refine aw_reg 288 (RG.go fun Q hQ=>?_)
  simp (disch:=intros;contradiction) only [zS,simprocAttr]
  refine hQ (RG.nil ?_)
  simp only [zX]
  refine aw_cond _ rfl trivial (fun ht=>by cases ht) (fun hf=>?_)
  simp only [zX]
  refine aw_draw 352 (RG.go fun Q hQ=>?_)
  simp (disch:=intros;contradiction) only [zS,simprocAttr]
  refine hQ ?_
  refine RG.call [] (mementoref16_Len_con w) (by (repeat' (first | exact tr_nil | refine tr_cons ?_ ?_ | exact tr_agg (by repeat' (first | exact trivial | rfl | refine ⟨?_,?_⟩))))) trivial (by (exact .inl trivial)) ?_
  refine RG.go fun Q hQ=>?_
  simp (disch:=intros;contradiction) only [zS,simprocAttr]
  refine hQ (RG.nil ⟨by decide +kernel,?_⟩)
  simp only [zX]
  refine Fin.data [] (.inr rfl) rfl (by (exact ⟨trivial,trivial,trivial⟩)) ?_
  simp only [zL]
  all_goals ((repeat' (first | exact trivial | rfl | refine ⟨?_,?_⟩)))

 ·rw [h] at cD ⊢
  have he' : (e != 0) = true:=by simpa using he
  refine C_mementoref16_Do (Nat.le_of_ble_eq_true rfl) (Nat.le_of_ble_eq_true rfl) ?_
  simp only [cz,A_mementoref16_Do,argL,objL,List.length_nil,Nat.zero_add,zX]
  refine aw_reg 16 (RG.go fun Q hQ=>?_)
  simp (disch:=intros;contradiction) only [zS,vC_eq,cmdC,cC,simprocAttr]
  refine hQ (RG.nil ?_)
  simp only [zX]
  refine aw_reg 112 (RG.go fun Q hQ=>?_)
  simp (disch:=intros;contradiction) only [zS,simprocAttr]
  refine hQ ?_
  refine RG.call [] (cD) (by (repeat' (first | exact tr_nil | refine tr_cons ?_ ?_ | exact tr_agg (by repeat' (first | exact trivial | rfl | refine ⟨?_,?_⟩))))) trivial (by exact .inr ⟨doneR_pure v _,trivial⟩) ?_
  refine RG.go fun Q hQ=>?_
  simp (disch:=intros;contradiction) only [zS,vC_eq,fail,simprocAttr]
  refine hQ (RG.nil ?_)
  simp only [zX]
  refine aw_reg 288 (RG.go fun Q hQ=>?_)
  simp (disch:=intros;contradiction) only [zS,he',simprocAttr]
  refine hQ (RG.nil ?_)
  simp only [zX]
  refine aw_cond _ rfl trivial (fun ht=>?_) (fun hf=>by cases hf)
  simp only [zX]
  refine aw_reg 352 (RG.go fun Q hQ=>?_)
  simp (disch:=intros;contradiction) only [zS,simprocAttr]
  refine hQ (RG.nil ?_)
  simp only [zX]
  refine Fin.data [] (.inr rfl) rfl (by (exact ⟨trivial,trivial,trivial⟩)) ?_
  simp only [zL]
  all_goals ((repeat' (first | exact trivial | rfl | refine ⟨?_,?_⟩)))

end Go.Abs

namespace Go.Abs
open Go Go.Proofs

def ins (x : Int) : List Int→List Int
 | []=>[x]
 | y :: r=>if x≤y then x :: y :: r else y :: ins x r


def isort : List Int→List Int
 | []=>[]
 | x :: r=>ins x (isort r)


theorem ins_perm (x : Int) : ∀ l,(ins x l).Perm (x :: l)
 | []=>.refl _
 | y :: r=>by
  unfold ins
  split
  ·exact .refl _
  ·exact ((ins_perm x r).cons y).trans (List.Perm.swap x y r)


theorem isort_perm : ∀ l,(isort l).Perm l
 | []=>.refl _
 | x :: r=>(ins_perm x _).trans ((isort_perm r).cons x)


theorem ins_sorted (x : Int) : ∀ l,l.Pairwise (·≤·)→(ins x l).Pairwise (·≤·)
 | [],_=>by simp [ins]
 | y :: r,h=>by
  rw [List.pairwise_cons] at h
  unfold ins
  split
  ·rename_i hxy
   rw [List.pairwise_cons,List.pairwise_cons]
   exact ⟨fun z hz=>by
    rcases List.mem_cons.1 hz with rfl | hz
    ·exact hxy
    ·exact Int.le_trans hxy (h.1 z hz),h⟩
  ·rename_i hxy
   rw [List.pairwise_cons]
   refine ⟨fun z hz=>?_,ins_sorted x r h.2⟩
   rcases List.mem_cons.1 ((ins_perm x r).mem_iff.1 hz) with rfl | hz
   ·omega
   ·exact h.1 z hz


theorem isort_sorted : ∀ l,(isort l).Pairwise (·≤·)
 | []=>.nil
 | x :: r=>ins_sorted x _ (isort_sorted r)


theorem sorted_eq : ∀ {l m : List Int},l.Perm m→l.Pairwise (·≤·)→m.Pairwise (·≤·)→l = m
 | [],m,h,_,_=>by have:=h.length_eq;cases m with | nil=>rfl | cons=>simp at this
 | x :: l,[],h,_,_=>by have:=h.length_eq;simp at this
 | x :: l,y :: m,h,hl,hm=>by
  rw [List.pairwise_cons] at hl hm
  have h1 : x = y:=by
   have hx : x ∈ y :: m:=h.mem_iff.1 (by simp)
   have hy : y ∈ x :: l:=h.mem_iff.2 (by simp)
   rcases List.mem_cons.1 hx with e | hx
   ·exact e
   ·rcases List.mem_cons.1 hy with e | hy
    ·exact e.symm
    ·have:=hm.1 x hx;have:=hl.1 y hy;omega
  subst h1
  rw [sorted_eq (List.Perm.cons_inv h) hl.2 hm.2]


theorem isort_unique {l m : List Int} (h : m.Perm l) (hs : m.Pairwise (·≤·)) : m = isort l:=sorted_eq (h.trans (isort_perm l).symm) hs (isort_sorted l)



theorem isort_of_perm {l m : List Int} (h : l.Perm m) : isort l = isort m:=isort_unique ((isort_perm l).trans h) (isort_sorted l)
theorem isort_id {l : List Int} (h : l.Pairwise (·≤·)) : isort l = l:=(isort_unique (.refl _) h).symm
theorem isort_app {A B : List Int} (h : ∀ x ∈ A,∀ y ∈ B,x≤y) : isort (A ++ B) = isort A ++ isort B:=by
 symm
 refine isort_unique ((isort_perm A).append (isort_perm B)) ?_
 rw [List.pairwise_append]
 exact ⟨isort_sorted A,isort_sorted B,fun x hx y hy=>h x ((isort_perm A).mem_iff.1 hx) y ((isort_perm B).mem_iff.1 hy)⟩
theorem isort_len (l : List Int) : (isort l).length = l.length:=(isort_perm l).length_eq

def gI (l : List Int) (k : Nat) : Int:=l.getD k 0
theorem gI_get {l : List Int} {k : Nat} (h : k < l.length) : l[k] = gI l k:=by simp [gI,h]
def swp (l : List Int) (i j : Nat) : List Int:=(l.set i (gI l j)).set j (gI l i)
theorem swp_len (l : List Int) (i j : Nat) : (swp l i j).length = l.length:=by simp [swp]
theorem gI_set (l : List Int) (i k : Nat) (x : Int) (hi : i < l.length) : gI (l.set i x) k = if k = i then x else gI l k:=by
 unfold gI
 by_cases h : k = i
 ·subst h;simp [hi]
 ·simp [h,List.getElem?_set_ne (Ne.symm h)]
theorem gI_swp {l : List Int} {i j : Nat} (hi : i < l.length) (hj : j < l.length) (k : Nat) : gI (swp l i j) k = if k = j then gI l i else if k = i then gI l j else gI l k:=by
 unfold swp
 rw [gI_set _ _ _ _ (by simpa using hj),gI_set _ _ _ _ hi]

theorem gI_ext {l m : List Int} (hl : l.length = m.length) (h : ∀ k,k < l.length→gI l k = gI m k) : l = m:=by
 refine List.ext_getElem hl fun k h1 h2=>?_
 rw [gI_get h1,gI_get h2];exact h k h1

theorem swp_perm {l : List Int} {i j : Nat} (hi : i < l.length) (hj : j < l.length) : (swp l i j).Perm l:=by
 rw [List.perm_iff_count]
 intro x
 unfold swp
 rw [List.count_set (by simpa using hj),List.count_set hi]
 have h1 : (l.set i (gI l j))[j]'(by simpa using hj) = if j = i then gI l j else gI l j:=by
  rw [gI_get,gI_set _ _ _ _ hi]
 rw [h1]
 have e1 : l[i] = gI l i:=gI_get hi
 rw [e1]
 have hc : 0 < l.count (gI l i):=by rw [← e1];exact List.count_pos_iff.2 (List.getElem_mem hi)
 simp only [ite_self]
 by_cases h2 : gI l i = x <;> by_cases h3 : gI l j = x <;> simp [h2,h3]
 ·subst h2;omega
 ·subst h2;omega

structure PO (a b : Nat) (l m : List Int) : Prop where
 len : m.length = l.length
 perm : m.Perm l
 out : ∀ k,k < a∨b≤k→gI m k = gI l k

theorem PO.refl (a b : Nat) (l : List Int) : PO a b l l:=⟨rfl,.refl _,fun _ _=>rfl⟩
theorem PO.trans {a b : Nat} {l m n : List Int} (h : PO a b l m) (h' : PO a b m n) : PO a b l n :=
 ⟨h'.len.trans h.len,h'.perm.trans h.perm,fun k hk=>(h'.out k hk).trans (h.out k hk)⟩
theorem PO.swp {a b i j : Nat} {l : List Int} (hb : b≤l.length) (hi : a≤i) (hi' : i < b) (hj : a≤j) (hj' : j < b) : PO a b l (swp l i j) :=
 ⟨swp_len l i j,swp_perm (by omega) (by omega),fun k hk=>by rw [gI_swp (by omega) (by omega),if_neg (by omega),if_neg (by omega)]⟩

def seg (a b : Nat) (l : List Int) : List Int:=(l.take b).drop a
theorem seg_len {a b : Nat} {l : List Int} (hb : b≤l.length) : (seg a b l).length = b - a:=by simp [seg];omega
theorem gI_seg {a b : Nat} {l : List Int} (hb : b≤l.length) {k : Nat} (hk : k < b - a) : gI (seg a b l) k = gI l (a + k):=by
 unfold gI seg
 have h1 : a + k < b:=by omega
 simp [List.getD,h1]
theorem parts (a b : Nat) (l : List Int) (hab : a≤b) : l = l.take a ++ seg a b l ++ l.drop b:=by
 have h1 : l.take a ++ seg a b l = l.take b:=by
  unfold seg
  have:=List.take_append_drop a (l.take b)
  rw [List.take_take,Nat.min_eq_left hab] at this
  exact this
 rw [h1,List.take_append_drop]

theorem gI_take {a : Nat} {l : List Int} {k : Nat} (hk : k < a) : gI (l.take a) k = gI l k:=by simp [gI,List.getD,hk]
theorem gI_drop {b : Nat} {l : List Int} (k : Nat) : gI (l.drop b) k = gI l (b + k):=by simp [gI,List.getD]

theorem PO.take {a b : Nat} {l m : List Int} (h : PO a b l m) : m.take a = l.take a:=by
 refine gI_ext (by simp [h.len]) fun k hk=>?_
 have hk' : k < a:=by simp at hk;omega
 rw [gI_take hk',gI_take hk',h.out k (.inl hk')]
theorem PO.drop {a b : Nat} {l m : List Int} (h : PO a b l m) : m.drop b = l.drop b:=by
 refine gI_ext (by simp [h.len]) fun k hk=>?_
 rw [gI_drop,gI_drop,h.out _ (.inr (by omega))]
theorem PO.seg {a b : Nat} {l m : List Int} (h : PO a b l m) (hab : a≤b) : (seg a b m).Perm (Abs.seg a b l):=by
 have h1:=h.perm
 rw [parts a b l hab,parts a b m hab,h.take,h.drop] at h1
 exact (List.perm_append_left_iff _).1 ((List.perm_append_right_iff _).1 h1)
theorem PO.all {a b : Nat} {l m : List Int} (h : PO a b l m) (hab : a≤b) (hb : b≤l.length) {p : Int→Prop} (hp : ∀ k,a≤k→k < b→p (gI l k)) : ∀ k,a≤k→k < b→p (gI m k):=by
 intro k h1 h2
 have hm : gI m k ∈ Abs.seg a b m:=by
  have h3 : k - a < (Abs.seg a b m).length:=by rw [seg_len (by rw [h.len];exact hb)];omega
  have:=List.getElem_mem h3
  rw [gI_get,gI_seg (by rw [h.len];exact hb) (by omega),show a + (k - a) = k by omega] at this
  exact this
 obtain ⟨j,hj,he⟩:=List.mem_iff_getElem.1 ((h.seg hab).mem_iff.1 hm)
 rw [seg_len hb] at hj
 rw [gI_get,gI_seg hb hj] at he
 rw [← he]
 exact hp _ (by omega) (by omega)
theorem PO.wide {a b a' b' : Nat} {l m : List Int} (h : PO a b l m) (h1 : a'≤a) (h2 : b≤b') : PO a' b' l m:=⟨h.len,h.perm,fun k hk=>h.out k (by omega)⟩

theorem gI_app_l {A B : List Int} {k : Nat} (h : k < A.length) : gI (A ++ B) k = gI A k:=by simp [gI,List.getD,List.getElem?_append,h]
theorem gI_app_r {A B : List Int} {k : Nat} (h : A.length≤k) : gI (A ++ B) k = gI B (k - A.length):=by simp [gI,List.getD,List.getElem?_append,Nat.not_lt.2 h]

def srt (a b : Nat) (l : List Int) : List Int:=l.take a ++ isort (seg a b l) ++ l.drop b
theorem PO.srt {a b : Nat} {l m : List Int} (h : PO a b l m) (hab : a≤b) : srt a b m = Abs.srt a b l:=by
 unfold Abs.srt
 rw [h.take,h.drop,isort_of_perm (h.seg hab)]
theorem srt_len {a b : Nat} {l : List Int} (hab : a≤b) (hb : b≤l.length) : (srt a b l).length = l.length:=by
 simp [srt,isort_len,seg_len hb];omega
theorem srt_PO {a b : Nat} {l : List Int} (hab : a≤b) (hb : b≤l.length) : PO a b l (srt a b l):=by
 have hs : (isort (seg a b l)).length = b - a:=by rw [isort_len,seg_len hb]
 refine ⟨srt_len hab hb,?_,fun k hk=>?_⟩
 ·have:=((isort_perm (seg a b l)).append_left (l.take a)).append_right (l.drop b)
  rw [← parts a b l hab] at this
  exact this
 ·unfold srt
  rcases hk with hk | hk
  ·rw [List.append_assoc,gI_app_l (by simp;omega),gI_take hk]
  ·rw [gI_app_r (by simp [hs];omega),gI_drop]
   congr 1
   simp [hs];omega
theorem srt_id {a b : Nat} {l : List Int} (hab : a≤b) (hb : b≤l.length) (h : ∀ i j,a≤i→i≤j→j < b→gI l i≤gI l j) : srt a b l = l:=by
 have : isort (seg a b l) = seg a b l:=by
  refine isort_id (List.pairwise_iff_getElem.2 fun i j hi hj hij=>?_)
  rw [seg_len hb] at hi hj
  rw [gI_get,gI_get,gI_seg hb hi,gI_seg hb hj]
  exact h _ _ (by omega) (by omega) (by omega)
 unfold srt
 rw [this,← parts a b l hab]

theorem seg_split {a m b : Nat} {l : List Int} (h1 : a≤m) (h2 : m≤b) : seg a b l = seg a m l ++ seg m b l:=by
 unfold seg
 have h:=(List.take_append_drop (m - a) ((l.take b).drop a)).symm
 rw [List.drop_drop,List.take_drop,show a + (m - a) = m by omega,List.take_take,Nat.min_eq_left h2] at h
 exact h

theorem mem_seg {a b : Nat} {l : List Int} (hb : b≤l.length) {x : Int} (h : x ∈ seg a b l) : ∃ k,a≤k∧k < b∧x = gI l k:=by
 obtain ⟨j,hj,he⟩:=List.mem_iff_getElem.1 h
 rw [seg_len hb] at hj
 rw [gI_get,gI_seg hb hj] at he
 exact ⟨a + j,by omega,by omega,he.symm⟩

theorem srt_two {a m b : Nat} {l : List Int} (h1 : a≤m) (h2 : m≤b) (hb : b≤l.length) (h : ∀ i j,a≤i→i < m→m≤j→j < b→gI l i≤gI l j) : srt a b l = srt m b (srt a m l):=by
 have hseg : isort (seg a b l) = isort (seg a m l) ++ isort (seg m b l):=by
  rw [seg_split h1 h2]
  refine isort_app fun x hx y hy=>?_
  obtain ⟨i,i1,i2,rfl⟩:=mem_seg (by omega) hx
  obtain ⟨j,j1,j2,rfl⟩:=mem_seg hb hy
  exact h i j i1 i2 j1 j2
 have hs : (isort (seg a m l)).length = m - a:=by rw [isort_len,seg_len (by omega)]
 have hPO:=srt_PO h1 (show m≤l.length by omega)
 have e1 : (srt a m l).take m = l.take a ++ isort (seg a m l):=by
  unfold srt
  rw [List.take_append_of_le_length (by simp [hs];omega)]
  rw [List.take_of_length_le (by simp [hs];omega)]
 have e2 : seg m b (srt a m l) = seg m b l:=by
  refine gI_ext (by rw [seg_len (by rw [hPO.len];exact hb),seg_len hb]) fun k hk=>?_
  rw [seg_len (by rw [hPO.len];exact hb)] at hk
  rw [gI_seg (by rw [hPO.len];exact hb) hk,gI_seg hb hk]
  exact hPO.out _ (.inr (by omega))
 have e3 : (srt a m l).drop b = l.drop b:=(hPO.wide (Nat.le_refl a) h2).drop
 show l.take a ++ isort (seg a b l) ++ l.drop b = (srt a m l).take m ++ isort (seg m b (srt a m l)) ++ (srt a m l).drop b
 rw [e1,e2,e3,hseg]
 simp

end Go.Abs

namespace Go.Abs
open Go Go.Proofs
set_option linter.unusedVariables false

def up (f : Nat→Bool) (i j : Nat) : Nat:=if i≤j∧f i = true then up f (i + 1) j else i
termination_by j + 1 - i
def dn (f : Nat→Bool) (i j : Nat) : Nat:=if i≤j∧0 < j∧f j = true then dn f i (j - 1) else j
termination_by j

theorem up_spec (f : Nat→Bool) (j : Nat) : ∀ (n i : Nat),j + 1 - i≤n→i≤j + 1→i≤up f i j∧up f i j≤j + 1∧(∀ k,i≤k→k < up f i j→f k = true)∧(up f i j≤j→f (up f i j) = false)
 | 0,i,hn,hi=>by
  rw [up,if_neg (by omega)]
  exact ⟨Nat.le_refl _,hi,fun k h1 h2=>by omega,fun h=>by omega⟩
 | n + 1,i,hn,hi=>by
  rw [up]
  split
  ·rename_i h
   obtain ⟨h1,h2,h3,h4⟩:=up_spec f j n (i + 1) (by omega) (by omega)
   refine ⟨by omega,h2,fun k k1 k2=>?_,h4⟩
   rcases Nat.lt_or_ge i k with hk | hk
   ·exact h3 k hk k2
   ·rw [show k = i by omega];exact h.2
  ·rename_i h
   refine ⟨Nat.le_refl _,hi,fun k k1 k2=>by omega,fun hj=>?_⟩
   cases hf : f i with
   | false=>rfl
   | true=>exact absurd ⟨hj,hf⟩ h

theorem dn_spec (f : Nat→Bool) (i : Nat) (h0 : 0 < i) : ∀ j,i≤j + 1→dn f i j≤j∧i≤dn f i j + 1∧(∀ k,dn f i j < k→k≤j→f k = true)∧(i≤dn f i j→f (dn f i j) = false)
 | 0,hi=>by
  rw [dn,if_neg (by omega)]
  exact ⟨Nat.le_refl _,hi,fun k h1 h2=>by omega,fun h=>by omega⟩
 | j + 1,hi=>by
  rw [dn]
  split
  ·rename_i h
   obtain ⟨h1,h2,h3,h4⟩:=dn_spec f i h0 j (by omega)
   rw [Nat.add_sub_cancel]
   refine ⟨by omega,h2,fun k k1 k2=>?_,h4⟩
   rcases Nat.lt_or_ge j k with hk | hk
   ·rw [show k = j + 1 by omega];exact h.2.2
   ·exact h3 k k1 hk
  ·rename_i h
   refine ⟨Nat.le_refl _,hi,fun k k1 k2=>by omega,fun hj=>?_⟩
   cases hf : f (j + 1) with
   | false=>rfl
   | true=>exact absurd ⟨hj,by omega,hf⟩ h

theorem dn_le (f : Nat→Bool) (i : Nat) : ∀ j,dn f i j≤j
 | 0=>by rw [dn];split <;> simp_all
 | j + 1=>by
  rw [dn]
  split
  ·have:=dn_le f i j
   rw [Nat.add_sub_cancel];omega
  ·exact Nat.le_refl _
theorem up_ge (f : Nat→Bool) (i j : Nat) : i≤up f i j:=by
 rcases Nat.lt_or_ge (j + 1) i with h | h
 ·rw [up,if_neg (by omega)];exact Nat.le_refl _
 ·exact (up_spec f j _ i (Nat.le_refl _) h).1

def goL (le : Bool) (l : List Int) (a k : Nat) : Bool:=if le then decide (gI l k≤gI l a) else decide (gI l k < gI l a)

def partL (le : Bool) (a : Nat) (l : List Int) (i j : Nat) : List Int × Nat :=
 if up (goL le l a) i j≤dn (fun k=>!goL le l a k) (up (goL le l a) i j) j then
  partL le a (swp l (up (goL le l a) i j) (dn (fun k=>!goL le l a k) (up (goL le l a) i j) j)) (up (goL le l a) i j + 1) (dn (fun k=>!goL le l a k) (up (goL le l a) i j) j - 1)
 else (l,dn (fun k=>!goL le l a k) (up (goL le l a) i j) j)
termination_by j + 1 - i
decreasing_by
 rename_i h
 have h1:=up_ge (goL le l a) i j
 have h2:=dn_le (fun k=>!goL le l a k) (up (goL le l a) i j) j
 omega

theorem goL_congr {le : Bool} {l m : List Int} {a k k' : Nat} (h1 : gI m k = gI l k') (h2 : gI m a = gI l a) : goL le m a k = goL le l a k':=by
 unfold goL;rw [h1,h2]
theorem goL_swp {le : Bool} {l : List Int} {a i j k : Nat} (ha : a < i) (hij : i≤j) (hj : j < l.length) (hk : k≠i) (hk' : k≠j) : goL le (swp l i j) a k = goL le l a k :=
 goL_congr (by rw [gI_swp (by omega) hj,if_neg hk',if_neg hk]) (by rw [gI_swp (by omega) hj,if_neg (by omega),if_neg (by omega)])

theorem partL_spec (le : Bool) (a b : Nat) : ∀ (n : Nat) (l : List Int) (i j : Nat),j + 1 - i≤n→a < i→i≤j + 1→j < b→b≤l.length→(∀ k,a < k→k < i→goL le l a k = true)→(∀ k,j < k→k < b→goL le l a k = false) →
  PO (a + 1) b l (partL le a l i j).1∧i≤(partL le a l i j).2 + 1∧(partL le a l i j).2≤j ∧
   (∀ k,a < k→k≤(partL le a l i j).2→goL le (partL le a l i j).1 a k = true)∧(∀ k,(partL le a l i j).2 < k→k < b→goL le (partL le a l i j).1 a k = false)
 | n,l,i,j,hn,ha,hij,hj,hb,hl,hr=>by
  obtain ⟨u1,u2,u3,u4⟩:=up_spec (goL le l a) j _ i (Nat.le_refl _) hij
  obtain ⟨d1,d2,d3,d4⟩:=dn_spec (fun k=>!goL le l a k) (up (goL le l a) i j) (by omega) j u2
  rw [partL]
  split
  ·rename_i h
   obtain ⟨p,hp⟩ : ∃ p,p = up (goL le l a) i j:=⟨_,rfl⟩
   obtain ⟨q,hq⟩ : ∃ q,q = dn (fun k=>!goL le l a k) p j:=⟨_,rfl⟩
   rw [← hp] at u1 u2 u3 u4 d1 d2 d3 d4 h ⊢
   rw [← hq] at d1 d2 d3 d4 h ⊢
   have hpq : p≠q:=by
    rintro rfl
    have h1:=u4 (by omega)
    have h2:=d4 (Nat.le_refl _)
    simp only [Bool.not_eq_false'] at h2
    rw [h1] at h2;cases h2
   have ep : goL le (swp l p q) a p = true:=by
    have:=d4 h
    simp only [Bool.not_eq_false'] at this
    rw [← this]
    exact goL_congr (by rw [gI_swp (by omega) (by omega),if_neg hpq,if_pos rfl]) (by rw [gI_swp (by omega) (by omega),if_neg (by omega),if_neg (by omega)])
   have eq : goL le (swp l p q) a q = false:=by
    have:=u4 (by omega)
    rw [← this]
    exact goL_congr (by rw [gI_swp (by omega) (by omega),if_pos rfl]) (by rw [gI_swp (by omega) (by omega),if_neg (by omega),if_neg (by omega)])
   match n with
   | 0=>omega
   | n + 1 =>
    obtain ⟨r1,r2,r3,r4,r5⟩:=partL_spec le a b n (swp l p q) (p + 1) (q - 1) (by omega) (by omega) (by omega) (by omega) (by rw [swp_len];exact hb)
     (fun k k1 k2=>by
      rcases Nat.lt_or_ge k p with hk | hk
      ·rw [goL_swp (by omega) (by omega) (by omega) (by omega) (by omega)]
       rcases Nat.lt_or_ge k i with h' | h'
       ·exact hl k k1 h'
       ·exact u3 k h' hk
      ·rw [show k = p by omega];exact ep)
     (fun k k1 k2=>by
      rcases Nat.lt_or_ge q k with hk | hk
      ·rw [goL_swp (by omega) (by omega) (by omega) (by omega) (by omega)]
       rcases Nat.lt_or_ge j k with h' | h'
       ·exact hr k h' k2
       ·have:=d3 k hk h'
        simpa using this
      ·rw [show k = q by omega];exact eq)
    exact ⟨(PO.swp hb (by omega) (by omega) (by omega) (by omega)).trans r1,by omega,by omega,r4,r5⟩
  ·rename_i h
   refine ⟨PO.refl _ _ _,by simp only;omega,d1,fun k k1 k2=>?_,fun k k1 k2=>?_⟩
   ·rcases Nat.lt_or_ge k i with h' | h'
    ·exact hl k k1 h'
    ·exact u3 k h' (by simp only at k2;omega)
   ·rcases Nat.lt_or_ge j k with h' | h'
    ·exact hr k h' k2
    ·have:=d3 k k1 h'
     simpa using this

def partF (l : List Int) (a b p : Nat) : List Int × Nat :=
 let r:=partL false a (swp l a p) (a + 1) (b - 1)
 (swp r.1 r.2 a,r.2)
theorem partF_spec {l : List Int} {a b p : Nat} (hab : a + 1 < b) (hb : b≤l.length) (hp : a≤p∧p < b) :
  PO a b l (partF l a b p).1∧a≤(partF l a b p).2∧(partF l a b p).2 < b∧(∀ k,a≤k→k < (partF l a b p).2→gI (partF l a b p).1 k < gI (partF l a b p).1 (partF l a b p).2) ∧
   (∀ k,(partF l a b p).2 < k→k < b→gI (partF l a b p).1 (partF l a b p).2≤gI (partF l a b p).1 k):=by
 obtain ⟨r1,r2,r3,r4,r5⟩:=partL_spec false a b _ (swp l a p) (a + 1) (b - 1) (Nat.le_refl _) (by omega) (by omega) (by omega) (by rw [swp_len];exact hb) (fun k k1 k2=>by omega) (fun k k1 k2=>by omega)
 unfold partF
 obtain ⟨m,hm⟩ : ∃ m,m = (partL false a (swp l a p) (a + 1) (b - 1)).1:=⟨_,rfl⟩
 obtain ⟨q,hq⟩ : ∃ q,q = (partL false a (swp l a p) (a + 1) (b - 1)).2:=⟨_,rfl⟩
 simp only [← hm,← hq] at r1 r2 r3 r4 r5 ⊢
 have hlen : m.length = l.length:=by rw [r1.len,swp_len]
 refine ⟨((PO.swp hb (by omega) (by omega) hp.1 hp.2).trans (r1.wide (by omega) (Nat.le_refl _))).trans (PO.swp (by omega) (by omega) (by omega) (by omega) (by omega)),by omega,by omega,fun k k1 k2=>?_,fun k k1 k2=>?_⟩
 ·rw [gI_swp (by omega) (by omega),gI_swp (by omega) (by omega)]
  by_cases hqa : q = a
  ·omega
  ·rw [if_neg hqa,if_pos rfl]
   split
   ·rename_i h
    have:=r4 q (by omega) (Nat.le_refl _)
    simpa [goL] using this
   ·rw [if_neg (by omega)]
    have:=r4 k (by omega) (by omega)
    simpa [goL] using this
 ·rw [gI_swp (by omega) (by omega),gI_swp (by omega) (by omega)]
  rw [if_neg (show ¬ k = a by omega),if_neg (show ¬ k = q by omega)]
  have:=r5 k k1 k2
  have h2 : gI m a≤gI m k:=by simpa [goL] using this
  split
  ·rename_i h;rw [← h] at h2;exact h2
  ·rw [if_pos rfl];exact h2

def partE (l : List Int) (a b p : Nat) : List Int × Nat:=partL true a (swp l a p) (a + 1) (b - 1)
theorem partE_spec {l : List Int} {a b p : Nat} (hab : a + 1 < b) (hb : b≤l.length) (hp : a≤p∧p < b) (hmin : ∀ k,a≤k→k < b→gI l p≤gI l k) :
  PO a b l (partE l a b p).1∧a≤(partE l a b p).2∧(partE l a b p).2 < b∧(∀ k,a≤k→k≤(partE l a b p).2→gI (partE l a b p).1 k = gI l p):=by
 obtain ⟨r1,r2,r3,r4,r5⟩:=partL_spec true a b _ (swp l a p) (a + 1) (b - 1) (Nat.le_refl _) (by omega) (by omega) (by omega) (by rw [swp_len];exact hb) (fun k k1 k2=>by omega) (fun k k1 k2=>by omega)
 unfold partE
 have hPO:=(PO.swp hb (Nat.le_refl a) (by omega) hp.1 hp.2).trans (r1.wide (show a≤a + 1 by omega) (Nat.le_refl _))
 have ha : gI (partL true a (swp l a p) (a + 1) (b - 1)).1 a = gI l p:=by
  rw [r1.out a (.inl (by omega)),gI_swp (by omega) (by omega)]
  split
  ·rename_i h;rw [h]
  ·rw [if_pos rfl]
 refine ⟨hPO,by omega,by omega,fun k k1 k2=>?_⟩
 rcases Nat.lt_or_ge a k with h | h
 ·have h1:=r4 k h k2
  have h2:=hPO.all (by omega) hb (p:=fun x=>gI l p≤x) hmin k k1 (by omega)
  simp [goL,ha] at h1
  omega
 ·rw [show k = a by omega,ha]

end Go.Abs

namespace Go.Abs
open Go Go.Proofs
set_option linter.unusedVariables false

def bigC (f hi : Nat) (l : List Int) (r : Nat) : Nat:=if 2 * r + 2 < hi∧gI l (f + (2 * r + 1)) < gI l (f + (2 * r + 2)) then 2 * r + 2 else 2 * r + 1
def sift (f hi : Nat) (l : List Int) (r : Nat) : List Int :=
 if 2 * r + 1 < hi∧gI l (f + r) < gI l (f + bigC f hi l r) then sift f hi (swp l (f + r) (f + bigC f hi l r)) (bigC f hi l r) else l
termination_by hi - r
decreasing_by unfold bigC;split <;> omega

theorem bigC_is (f hi : Nat) (l : List Int) (r : Nat) (h : 2 * r + 1 < hi) : (bigC f hi l r = 2 * r + 1∨bigC f hi l r = 2 * r + 2)∧bigC f hi l r < hi∧∀ c,c < hi→0 < c→(c - 1) / 2 = r→gI l (f + c)≤gI l (f + bigC f hi l r):=by
 unfold bigC
 split
 ·rename_i h1
  refine ⟨.inr rfl,h1.1,fun c c1 c2 c3=>?_⟩
  have : c = 2 * r + 1∨c = 2 * r + 2:=by omega
  rcases this with rfl | rfl
  ·omega
  ·omega
 ·rename_i h1
  refine ⟨.inl rfl,h,fun c c1 c2 c3=>?_⟩
  have : c = 2 * r + 1∨c = 2 * r + 2:=by omega
  rcases this with rfl | rfl
  ·omega
  ·have : ¬ gI l (f + (2 * r + 1)) < gI l (f + (2 * r + 2)):=fun h=>h1 ⟨c1,h⟩
   omega

def heapFrom (f hi s : Nat) (l : List Int) : Prop:=∀ c,0 < c→c < hi→s≤(c - 1) / 2→gI l (f + c)≤gI l (f + (c - 1) / 2)
def heapBut (f hi s r : Nat) (l : List Int) : Prop :=
 (∀ c,0 < c→c < hi→s≤(c - 1) / 2→(c - 1) / 2≠r→gI l (f + c)≤gI l (f + (c - 1) / 2)) ∧
  ∀ c,0 < c→c < hi→(c - 1) / 2 = r→s < r→s≤(r - 1) / 2→gI l (f + c)≤gI l (f + (r - 1) / 2)

theorem sift_spec (f hi s : Nat) : ∀ (n : Nat) (l : List Int) (r : Nat),hi - r≤n→s≤r→r < hi∨hi≤2 * r + 1→f + hi≤l.length→heapBut f hi s r l→PO (f + s) (f + hi) l (sift f hi l r)∧heapFrom f hi s (sift f hi l r)
 | n,l,r,hn,hs,hr,hl,hb=>by
  rw [sift]
  split
  ·rename_i h
   obtain ⟨h1,h2⟩:=h
   obtain ⟨b1,b2,b3⟩:=bigC_is f hi l r h1
   obtain ⟨c,hc⟩ : ∃ c,c = bigC f hi l r:=⟨_,rfl⟩
   rw [← hc] at b1 b2 b3 h2 ⊢
   have gs : ∀ k,gI (swp l (f + r) (f + c)) (f + k) = if k = c then gI l (f + r) else if k = r then gI l (f + c) else gI l (f + k):=fun k=>by
    rw [gI_swp (by omega) (by omega)]
    by_cases e1 : k = c
    ·rw [if_pos (by omega),if_pos e1]
    ·rw [if_neg (by omega),if_neg e1]
     by_cases e2 : k = r
     ·rw [if_pos (by omega),if_pos e2]
     ·rw [if_neg (by omega),if_neg e2]
   have hb' : heapBut f hi s c (swp l (f + r) (f + c)):=by
    refine ⟨fun d d0 d1 d2 d3=>?_,fun d d0 d1 d2 d3 d4=>?_⟩
    ·rw [gs,gs]
     by_cases e1 : (d - 1) / 2 = r
     ·rw [if_neg (show ¬ (d - 1) / 2 = c by omega),if_pos e1]
      by_cases e2 : d = c
      ·rw [if_pos e2];omega
      ·rw [if_neg e2,if_neg (by omega)]
       exact b3 d d1 d0 e1
     ·rw [if_neg (show ¬ (d - 1) / 2 = c by omega),if_neg e1]
      by_cases e2 : d = c
      ·omega
      ·rw [if_neg e2]
       by_cases e3 : d = r
       ·rw [if_pos e3]
        have:=hb.2 c (by omega) b2 (by omega) (by omega) (by omega)
        rw [e3];exact this
       ·rw [if_neg e3]
        exact hb.1 d d0 d1 d2 e1
    ·rw [gs,gs,if_neg (by omega),if_neg (by omega),if_neg (by omega),if_pos (by omega)]
     have:=hb.1 d d0 d1 (by omega) (by omega)
     rw [d2] at this;exact this
   match n with
   | 0=>omega
   | n + 1 =>
    obtain ⟨p1,p2⟩:=sift_spec f hi s n (swp l (f + r) (f + c)) c (by omega) (by omega) (.inl b2) (by rw [swp_len];exact hl) hb'
    exact ⟨(PO.swp hl (by omega) (by omega) (by omega) (by omega)).trans p1,p2⟩
  ·rename_i h
   refine ⟨PO.refl _ _ _,fun c c0 c1 c2=>?_⟩
   by_cases e : (c - 1) / 2 = r
   ·have h1 : 2 * r + 1 < hi:=by omega
    obtain ⟨b1,b2,b3⟩:=bigC_is f hi l r h1
    have h2 : ¬ gI l (f + r) < gI l (f + bigC f hi l r):=fun h2=>h ⟨h1,h2⟩
    have:=b3 c c1 c0 e
    rw [e];omega
   ·exact hb.1 c c0 c1 c2 e

def heapB (f hi : Nat) : Nat→List Int→List Int
 | 0,l=>l
 | n + 1,l=>heapB f hi n (sift f hi l n)
def heapP (f : Nat) : Nat→List Int→List Int
 | 0,l=>l
 | n + 1,l=>heapP f n (sift f n (swp l f (f + n)) 0)

theorem heapB_spec (f hi : Nat) : ∀ (n : Nat) (l : List Int),n≤hi→f + hi≤l.length→heapFrom f hi n l→PO f (f + hi) l (heapB f hi n l)∧heapFrom f hi 0 (heapB f hi n l)
 | 0,l,_,_,h=>⟨PO.refl _ _ _,h⟩
 | n + 1,l,hn,hl,h=>by
  obtain ⟨p1,p2⟩:=sift_spec f hi n _ l n (Nat.le_refl _) (Nat.le_refl _) (.inl (by omega)) hl ⟨fun c c0 c1 c2 c3=>h c c0 c1 (by omega),fun c c0 c1 c2 c3 c4=>by omega⟩
  obtain ⟨q1,q2⟩:=heapB_spec f hi n (sift f hi l n) (by omega) (by rw [p1.len];exact hl) p2
  exact ⟨(p1.wide (by omega) (Nat.le_refl _)).trans q1,q2⟩

theorem heap_top {f hi : Nat} {l : List Int} (h : heapFrom f hi 0 l) : ∀ (n k : Nat),k≤n→k < hi→gI l (f + k)≤gI l f
 | 0,k,hk,_=>by rw [show k = 0 by omega];exact Int.le_refl _
 | n + 1,k,hk,hh=>by
  rcases Nat.eq_zero_or_pos k with h0 | h0
  ·rw [h0];exact Int.le_refl _
  ·have h1:=h k h0 hh (by omega)
   have h2:=heap_top h n ((k - 1) / 2) (by omega) (by omega)
   omega

theorem heapP_spec (f N : Nat) : ∀ (n : Nat) (l : List Int),n≤N→f + N≤l.length→heapFrom f n 0 l→(∀ i j,f + n≤i→i≤j→j < f + N→gI l i≤gI l j)→(∀ i j,f≤i→i < f + n→f + n≤j→j < f + N→gI l i≤gI l j) →
  PO f (f + N) l (heapP f n l)∧∀ i j,f≤i→i≤j→j < f + N→gI (heapP f n l) i≤gI (heapP f n l) j
 | 0,l,_,_,_,hs,_=>⟨PO.refl _ _ _,fun i j h1 h2 h3=>hs i j (by omega) h2 h3⟩
 | n + 1,l,hn,hl,hh,hs,hx=>by
  have hPO1 : PO f (f + (n + 1)) l (swp l f (f + n)):=PO.swp (by omega) (by omega) (by omega) (by omega) (by omega)
  have gs : ∀ k,gI (swp l f (f + n)) k = if k = f + n then gI l f else if k = f then gI l (f + n) else gI l k:=fun k=>gI_swp (by omega) (by omega) k
  have hlen : (swp l f (f + n)).length = l.length:=swp_len _ _ _
  obtain ⟨p1,p2⟩:=sift_spec f n 0 _ (swp l f (f + n)) 0 (Nat.le_refl _) (Nat.le_refl _) (by omega) (by omega)
   ⟨fun c c0 c1 c2 c3=>by
    rw [gs,gs,if_neg (by omega),if_neg (by omega),if_neg (by omega),if_neg (by omega)]
    exact hh c c0 (by omega) (by omega),fun c c0 c1 c2 c3 c4=>by omega⟩
  have hl2 : (sift f n (swp l f (f + n)) 0).length = l.length:=by rw [p1.len,hlen]
  have out : ∀ k,f + n≤k→gI (sift f n (swp l f (f + n)) 0) k = gI (swp l f (f + n)) k:=fun k hk=>p1.out k (.inr (by omega))
  have top : ∀ k,f≤k→k < f + (n + 1)→gI l k≤gI l f:=fun k k1 k2=>by
   have:=heap_top hh _ (k - f) (Nat.le_refl _) (by omega)
   rwa [show f + (k - f) = k by omega] at this
  obtain ⟨q1,q2⟩:=heapP_spec f N n (sift f n (swp l f (f + n)) 0) (by omega) (by omega) p2
   (fun i j h1 h2 h3=>by
    rw [out i h1,out j (by omega),gs,gs]
    by_cases e1 : i = f + n
    ·rw [if_pos e1]
     by_cases e2 : j = f + n
     ·rw [if_pos e2];exact Int.le_refl _
     ·rw [if_neg e2,if_neg (by omega)]
      exact hx f j (by omega) (by omega) (by omega) h3
    ·rw [if_neg e1,if_neg (by omega),if_neg (by omega),if_neg (by omega)]
     exact hs i j (by omega) h2 h3)
   (fun i j h1 h2 h3 h4=>by
    have hi : ∀ k,f + 0≤k→k < f + n→gI (sift f n (swp l f (f + n)) 0) k≤gI l f :=
     p1.all (p:=fun x=>x≤gI l f) (by omega) (by omega) fun k k1 k2=>by
      rw [gs,if_neg (by omega)]
      split
      ·exact top _ (by omega) (by omega)
      ·exact top k (by omega) (by omega)
    have h5:=hi i h1 h2
    rw [out j h3,gs]
    by_cases e : j = f + n
    ·rw [if_pos e];exact h5
    ·rw [if_neg e,if_neg (by omega)]
     exact Int.le_trans h5 (hx f j (by omega) (by omega) (by omega) h4))
  exact ⟨((hPO1.wide (Nat.le_refl _) (by omega)).trans (p1.wide (by omega) (by omega))).trans q1,q2⟩

def heapS (a b : Nat) (l : List Int) : List Int:=heapP a (b - a) (heapB a (b - a) ((b - a - 1) / 2 + 1) l)
theorem heapS_eq {a b : Nat} {l : List Int} (hab : a < b) (hb : b≤l.length) : heapS a b l = srt a b l:=by
 obtain ⟨p1,p2⟩:=heapB_spec a (b - a) ((b - a - 1) / 2 + 1) l (by omega) (by omega) (fun c c0 c1 c2=>by omega)
 rw [show a + (b - a) = b by omega] at p1
 obtain ⟨q1,q2⟩:=heapP_spec a (b - a) (b - a) (heapB a (b - a) ((b - a - 1) / 2 + 1) l) (Nat.le_refl _) (by rw [p1.len];omega) p2 (fun i j h1 h2 h3=>by omega) (fun i j h1 h2 h3 h4=>by omega)
 rw [show a + (b - a) = b by omega] at q1 q2
 have:=srt_id (by omega) (by rw [q1.len,p1.len];exact hb) q2
 rw [← (p1.trans q1).srt (by omega)]
 exact this.symm

end Go.Abs

namespace Go.Abs
open Go Go.Proofs
set_option linter.unusedVariables false

def sortedOn (a b : Nat) (l : List Int) : Prop:=∀ i k,a≤i→i≤k→k < b→gI l i≤gI l k
theorem sortedOn_more {a b : Nat} {l : List Int} (h : sortedOn a b l) (hx : a < b→gI l (b - 1)≤gI l b) : sortedOn a (b + 1) l:=fun i k h1 h2 h3=>by
 rcases Nat.lt_or_ge k b with hk | hk
 ·exact h i k h1 h2 hk
 ·rcases Nat.lt_or_ge i k with hi | hi
  ·have h4:=h i (b - 1) h1 (by omega) (by omega)
   have h5:=hx (by omega)
   rw [show k = b by omega];omega
  ·rw [show i = k by omega];exact Int.le_refl _

def shL : List Int→Nat→List Int
 | l,0=>l
 | l,j + 1=>if gI l (j + 1) < gI l j then shL (swp l (j + 1) j) j else l
def shR (b : Nat) (l : List Int) (j : Nat) : List Int:=if j < b∧gI l j < gI l (j - 1) then shR b (swp l j (j - 1)) (j + 1) else l
termination_by b - j

theorem shL_spec (a : Nat) : ∀ (j : Nat) (l : List Int),a≤j→j < l.length→sortedOn a j l→(∀ k,a≤k→k≤j→0 < a→gI l (a - 1)≤gI l k)→PO a (j + 1) l (shL l j)∧sortedOn a (j + 1) (shL l j)
 | 0,l,ha,hj,hs,hb=>by
  refine ⟨PO.refl _ _ _,fun i k h1 h2 h3=>?_⟩
  rw [show i = k by omega];exact Int.le_refl _
 | j + 1,l,ha,hj,hs,hb=>by
  unfold shL
  split
  ·rename_i h
   have haj : a≤j:=by
    rcases Nat.lt_or_ge j a with h1 | h1
    ·have:=hb (j + 1) ha (Nat.le_refl _) (by omega)
     rw [show a - 1 = j by omega] at this;omega
    ·exact h1
   have gs : ∀ k,gI (swp l (j + 1) j) k = if k = j then gI l (j + 1) else if k = j + 1 then gI l j else gI l k:=fun k=>gI_swp hj (by omega) k
   obtain ⟨p1,p2⟩:=shL_spec a j (swp l (j + 1) j) haj (by rw [swp_len];omega)
    (fun i k h1 h2 h3=>by
     rw [gs,gs,if_neg (by omega),if_neg (by omega),if_neg (by omega),if_neg (by omega)]
     exact hs i k h1 h2 (by omega))
    (fun k h1 h2 h3=>by
     rw [gs,gs,if_neg (show ¬ a - 1 = j by omega),if_neg (by omega)]
     split
     ·exact hb _ (by omega) (by omega) h3
     ·rw [if_neg (by omega)];exact hb k h1 (by omega) h3)
   refine ⟨(PO.swp (by omega) (by omega) (by omega) (by omega) (by omega)).trans (p1.wide (Nat.le_refl _) (by omega)),sortedOn_more p2 fun _=>?_⟩
   rw [p1.out (j + 1) (.inr (by omega)),gs,if_neg (by omega),if_pos rfl]
   have hall : ∀ k,a≤k→k < j + 1→gI (shL (swp l (j + 1) j) j) k≤gI l j:=p1.all (p:=fun x=>x≤gI l j) (by omega) (by rw [swp_len];omega) fun k k1 k2=>by
    rw [gs]
    split
    ·omega
    ·rw [if_neg (by omega)];exact hs k j k1 (by omega) (by omega)
   exact hall _ (by omega) (by omega)
  ·rename_i h
   refine ⟨PO.refl _ _ _,sortedOn_more hs fun _=>?_⟩
   rw [Nat.add_sub_cancel];omega

theorem shR_PO (b i : Nat) : ∀ (n : Nat) (l : List Int) (j : Nat),b - j≤n→i < j→b≤l.length→PO i b l (shR b l j)
 | n,l,j,hn,hi,hb=>by
  rw [shR]
  split
  ·rename_i h
   match n with
   | 0=>omega
   | n + 1=>exact (PO.swp hb (by omega) (by omega) (by omega) (by omega)).trans (shR_PO b i n (swp l j (j - 1)) (j + 1) (by omega) (by omega) (by rw [swp_len];exact hb))
  ·exact PO.refl _ _ _

def nextI (l : List Int) (i b : Nat) : Nat:=up (fun k=>!decide (gI l k < gI l (k - 1))) i (b - 1)
def pisL (a b : Nat) (l : List Int) (i : Nat) : List Int:=if 2≤i - a then shL (swp l i (i - 1)) (i - 1) else swp l i (i - 1)
def pisR (a b : Nat) (l : List Int) (i : Nat) : List Int:=if 2≤b - i then shR b (pisL a b l i) (i + 1) else pisL a b l i
def pis (a b : Nat) : Nat→List Int→Nat→List Int × Bool
 | 0,l,_=>(l,false)
 | n + 1,l,i=>if nextI l i b = b then (l,true) else if b - a < 50 then (l,false) else pis a b n (pisR a b l (nextI l i b)) (nextI l i b)

theorem pis_spec (a b : Nat) : ∀ (n : Nat) (l : List Int) (i : Nat),a < i→i≤b→b≤l.length→sortedOn a i l→(∀ k,a≤k→k < b→0 < a→gI l (a - 1)≤gI l k) →
  PO a b l (pis a b n l i).1∧((pis a b n l i).2 = true→sortedOn a b (pis a b n l i).1)
 | 0,l,i,_,_,_,_,_=>⟨PO.refl _ _ _,fun h=>by cases h⟩
 | n + 1,l,i,hai,hib,hb,hs,hlow=>by
  obtain ⟨u1,u2,u3,u4⟩:=up_spec (fun k=>!decide (gI l k < gI l (k - 1))) (b - 1) _ i (Nat.le_refl _) (by omega)
  unfold pis
  obtain ⟨p,hp⟩ : ∃ p,p = nextI l i b:=⟨_,rfl⟩
  have hp' : p = up (fun k=>!decide (gI l k < gI l (k - 1))) i (b - 1):=hp
  rw [← hp'] at u1 u2 u3 u4
  rw [← hp]
  have hs' : ∀ m,i + m≤p→sortedOn a (i + m) l:=by
   intro m
   induction m with
   | zero=>intro _;exact hs
   | succ m ih =>
    intro hm
    refine sortedOn_more (ih (by omega)) fun _=>?_
    have:=u3 (i + m) (by omega) (by omega)
    simp at this;exact this
  have hsp : sortedOn a p l:=by have:=hs' (p - i) (by omega);rwa [show i + (p - i) = p by omega] at this
  split
  ·rename_i h
   refine ⟨PO.refl _ _ _,fun _=>by rw [← h];exact hsp⟩
  split
  ·exact ⟨PO.refl _ _ _,fun h=>by cases h⟩
  ·rename_i h1 h2
   have hpb : p < b:=by omega
   have gs : ∀ k,gI (swp l p (p - 1)) k = if k = p - 1 then gI l p else if k = p then gI l (p - 1) else gI l k:=fun k=>gI_swp (by omega) (by omega) k
   have hlow1 : ∀ k,a≤k→k < b→0 < a→gI (swp l p (p - 1)) (a - 1)≤gI (swp l p (p - 1)) k:=fun k k1 k2 k3=>by
    rw [gs,gs,if_neg (show ¬ a - 1 = p - 1 by omega),if_neg (show ¬ a - 1 = p by omega)]
    split
    ·exact hlow _ (by omega) hpb k3
    split
    ·exact hlow _ (by omega) (by omega) k3
    ·exact hlow k k1 k2 k3
   have hL : PO a b l (pisL a b l p)∧sortedOn a p (pisL a b l p):=by
    unfold pisL
    split
    ·obtain ⟨q1,q2⟩:=shL_spec a (p - 1) (swp l p (p - 1)) (by omega) (by rw [swp_len];omega)
      (fun i' k k1 k2 k3=>by
       rw [gs,gs,if_neg (by omega),if_neg (by omega),if_neg (by omega),if_neg (by omega)]
       exact hsp i' k k1 k2 (by omega)) (fun k k1 k2 k3=>hlow1 k k1 (by omega) k3)
     rw [show p - 1 + 1 = p by omega] at q1 q2
     exact ⟨(PO.swp hb (by omega) (by omega) (by omega) (by omega)).trans (q1.wide (Nat.le_refl _) (by omega)),q2⟩
    ·refine ⟨PO.swp hb (by omega) (by omega) (by omega) (by omega),fun i' k k1 k2 k3=>?_⟩
     rw [show i' = k by omega];exact Int.le_refl _
   have hR : PO a b l (pisR a b l p)∧sortedOn a p (pisR a b l p):=by
    unfold pisR
    split
    ·have q:=shR_PO b p _ (pisL a b l p) (p + 1) (Nat.le_refl _) (by omega) (by rw [hL.1.len];exact hb)
     refine ⟨hL.1.trans (q.wide (by omega) (Nat.le_refl _)),fun i' k k1 k2 k3=>?_⟩
     rw [q.out i' (.inl (by omega)),q.out k (.inl (by omega))]
     exact hL.2 i' k k1 k2 k3
    ·exact hL
   obtain ⟨r1,r2⟩:=pis_spec a b n (pisR a b l p) p (by omega) (by omega) (by rw [hR.1.len];exact hb) hR.2 (fun k k1 k2 k3=>by
    rw [hR.1.out (a - 1) (.inl (by omega))]
    exact hR.1.all (p:=fun x=>gI l (a - 1)≤x) (by omega) hb (fun k k1 k2=>hlow k k1 k2 k3) k k1 k2)
   exact ⟨hR.1.trans r1,r2⟩

def revL (l : List Int) (i j : Nat) : List Int:=if i < j then revL (swp l i j) (i + 1) (j - 1) else l
termination_by j - i
theorem revL_PO (a b : Nat) : ∀ (n : Nat) (l : List Int) (i j : Nat),j - i≤n→a≤i→j < b→b≤l.length→PO a b l (revL l i j)
 | n,l,i,j,hn,ha,hj,hb=>by
  rw [revL]
  split
  ·rename_i h
   match n with
   | 0=>omega
   | n + 1=>exact (PO.swp hb (by omega) (by omega) (by omega) (by omega)).trans (revL_PO a b n _ (i + 1) (j - 1) (by omega) (by omega) (by omega) (by rw [swp_len];exact hb))
  ·exact PO.refl _ _ _

def ord2 (l : List Int) (a b s : Nat) : Nat × Nat × Nat:=if gI l b < gI l a then (b,a,s + 1) else (a,b,s)
def med3 (l : List Int) (a b c s : Nat) : Nat × Nat :=
 let x:=ord2 l a b s
 let y:=ord2 l x.2.1 c x.2.2
 let z:=ord2 l x.1 y.1 y.2.2
 (z.2.1,z.2.2)
theorem ord2_in (l : List Int) (a b s : Nat) {p : Nat→Prop} (ha : p a) (hb : p b) : p (ord2 l a b s).1∧p (ord2 l a b s).2.1:=by
 unfold ord2;split <;> exact ⟨by assumption,by assumption⟩
theorem ord2_s (l : List Int) (a b s : Nat) : s≤(ord2 l a b s).2.2∧(ord2 l a b s).2.2≤s + 1:=by
 unfold ord2;split <;> simp
theorem med3_in (l : List Int) (a b c s : Nat) {p : Nat→Prop} (ha : p a) (hb : p b) (hc : p c) : p (med3 l a b c s).1:=by
 unfold med3
 have h1:=ord2_in l a b s (p:=p) ha hb
 have h2:=ord2_in l (ord2 l a b s).2.1 c (ord2 l a b s).2.2 (p:=p) h1.2 hc
 exact (ord2_in l _ _ _ (p:=p) h1.1 h2.1).2
theorem med3_s (l : List Int) (a b c s : Nat) : (med3 l a b c s).2≤s + 3:=by
 unfold med3
 have h1:=ord2_s l a b s
 have h2:=ord2_s l (ord2 l a b s).2.1 c (ord2 l a b s).2.2
 have h3:=ord2_s l (ord2 l a b s).1 (ord2 l (ord2 l a b s).2.1 c (ord2 l a b s).2.2).1 (ord2 l (ord2 l a b s).2.1 c (ord2 l a b s).2.2).2.2
 simp only
 omega

end Go.Abs

namespace Go.Abs
open Go Go.Proofs
set_option maxRecDepth 100000
set_option linter.unusedSimpArgs false
set_option maxHeartbeats 4000000

theorem set_nrow {l : List Int} {i : Nat} {x : Int} : (l.map nrow).set i [C.v (.int .i64 x)] = (l.set i x).map nrow:=by rw [List.map_set];rfl
theorem swp_fold {l : List Int} {i j : Nat} : (l.set i (gI l j)).set j (gI l i) = swp l i j:=rfl
theorem gI_get' {l : List Int} {k : Nat} (h : k < l.length) : l[k]'h = gI l k:=gI_get h
abbrev arrI (T : TypeId) (l : List Int) : Ent:=.arr T 1 (l.map nrow) false
theorem natAdd {a b : Nat} : ((a : Int) + (b : Int)).toNat = a + b:=by omega
theorem natAdd1 {a b : Nat} : ((a : Int) + (b : Int) + 1).toNat = a + b + 1:=by omega

theorem cmp_isNaN64_con (n : Int) : Con Try.prog 110 [I n] [] (B false) []:=by
 refine C_cmp_isNaN_int64 (Nat.le_of_ble_eq_true rfl) (Nat.le_of_ble_eq_true rfl) ?_
 simp only [cz,A_cmp_isNaN_int64,argL,objL,List.length_nil,zX]
 refine aw_reg 16 (RG.go fun Q hQ=>?_)
 simp (disch:=intros;contradiction) only [zS,simprocAttr]
 refine hQ (RG.nil ?_)
 simp only [zX]
 refine aw_reg 64 (RG.go fun Q hQ=>?_)
 simp (disch:=intros;contradiction) only [zS,simprocAttr]
 refine hQ (RG.nil ?_)
 simp only [zX]
 refine Fin.b (.inr rfl) rfl trivial ?_
 simp

theorem cmp_Less64_con (a b : Int) : Con Try.prog 98 [I a,I b] [] (B (decide (a < b))) []:=by
 refine C_cmp_Less_int64 (Nat.le_of_ble_eq_true rfl) (Nat.le_of_ble_eq_true rfl) ?_
 simp only [cz,A_cmp_Less_int64,argL,objL,List.length_nil,Nat.zero_add,zX]
 refine aw_reg 16 (RG.go fun Q hQ=>?_)
 simp (disch:=intros;contradiction) only [zS,simprocAttr]
 refine hQ (RG.nil ?_)
 simp only [zX]
 refine aw_reg 64 (RG.go fun Q hQ=>?_)
 simp (disch:=intros;contradiction) only [zS,simprocAttr]
 refine hQ ?_
 refine RG.call [] (cmp_isNaN64_con a) (by (repeat' (first | exact tr_nil | refine tr_cons ?_ ?_ | exact tr_v))) trivial (by (exact .inl trivial)) ?_
 refine RG.go fun Q hQ=>?_
 simp (disch:=intros;contradiction) only [zS,simprocAttr]
 refine hQ ?_
 refine RG.callg _ _ [] rfl (fun hg=>⟨_,(cmp_isNaN64_con b),by (repeat' (first | exact tr_nil | refine tr_cons ?_ ?_ | exact tr_opt (by simpa using hg) tr_v)),trivial,by (exact .inl trivial)⟩) ?_
 refine RG.go fun Q hQ=>?_
 simp (disch:=intros;contradiction) only [zS,simprocAttr]
 refine hQ (RG.nil ?_)
 simp only [zX]
 refine Fin.b (.inr rfl) rfl trivial ?_
 simp

theorem sift_no {f hi : Nat} {l : List Int} {r : Nat} (h : ¬ (2 * r + 1 < hi∧gI l (f + r) < gI l (f + bigC f hi l r))) : sift f hi l r = l:=by rw [sift,if_neg h]
theorem sift_yes {f hi : Nat} {l : List Int} {r c : Nat} (hc : bigC f hi l r = c) (h1 : 2 * r + 1 < hi) (h2 : gI l (f + r) < gI l (f + c)) : sift f hi l r = sift f hi (swp l (f + r) (f + c)) c:=by
 rw [sift,if_pos (by rw [hc];exact ⟨h1,h2⟩),hc]

theorem siftDown64_con (f hi r : Nat) (l : List Int) (hl : l.length≤1000000) (hf : f + hi≤l.length) (hr : r≤hi) :
  Con Try.prog 105 [.c (.osl 0),I r,I hi,I f] [arrI 2 l] (.tup []) [arrI 2 (sift f hi l r)]:=by
 refine C_slices_siftDownOrdered_int64 (Nat.le_of_ble_eq_true rfl) (Nat.le_of_ble_eq_true rfl) ?_
 simp only [cz,A_slices_siftDownOrdered_int64,argL,objL,List.length_nil,List.length_cons,Nat.zero_add,zX,simprocAttr]
 refine aw_reg 16 (RG.go fun Q hQ=>?_)
 simp (disch:=intros;contradiction) only [zS,simprocAttr]
 refine hQ (RG.nil ?_)
 simp only [zX]
 refine aw_loopK (X:={ p : List Int × Nat // p.1.length = l.length∧sift f hi p.1 p.2 = sift f hi l r∧p.2≤hi }) [0,2,3] (fun p=>[(8,I p.1.2)]) [] (fun p=>[(0,arrI 2 p.1.1)]) (fun p=>hi - p.1.2) (⟨(l,r),rfl,rfl,hr⟩) ?_ ?_
 ·skip
  simp only [keepS,keepE,lk_cons,List.cons_append,List.nil_append,simprocAttr]
  refine Le.lit [] [] _ _ ?_ ?_ ?_ ?_
  ·simp only [zL,simprocAttr]
  ·simp only [zL,simprocAttr]
   all_goals (try (exact drows_nrow _))
  ·simp [rlook]
  ·first | (simp;done) | (intro k hk;simp [rlook];omega)
 rintro ⟨⟨m,q⟩,h1,h2,h3⟩
 simp only [keepS,keepE,lk_cons,List.cons_append,List.nil_append,simprocAttr]
 simp only [zX]
 simp only at h1 h2 h3
 have e9 : 2 * (q : Int) + 1 = ((2 * q + 1 : Nat) : Int):=by omega
 have e10 : ((2 * q + 1 : Nat) : Int) + 1 = ((2 * q + 2 : Nat) : Int):=by omega
 refine aw_reg 80 (RG.go fun Q hQ=>?_)
 simp (disch:=first | (intros;contradiction) | omega | (simp only [zN];omega)) only [zS,zW,e9,simprocAttr]
 refine hQ (RG.nil ?_)
 simp only [zX]
 refine aw_reg 176 (RG.go fun Q hQ=>?_)
 simp (disch:=intros;contradiction) only [zS,simprocAttr]
 refine hQ (RG.nil ?_)
 simp only [zX]
 refine aw_cond _ rfl trivial (fun ht=>?_) (fun hf=>?_)
 ·skip
  try simp at ht
  simp only [zX,simprocAttr]
  rw [← h2,sift_no (by omega)]
  refine Fin.objs [] [] (.inl rfl) rfl (by first | exact trivial | exact ⟨trivial,trivial⟩ | exact ⟨trivial,trivial,trivial⟩) ?_ ?_ (by simp [objL,rlook]) (by first | (simp [objL,rlook];done) | (intro k hk;simp [objL,rlook];omega))
  ·simp only [zL]
  ·simp only [zL,simprocAttr]
   all_goals (try (exact drows_nrow _))
 try simp at hf
 simp only [zX]
 by_cases hg0 : 2 * q + 2 < hi
 ·skip
  refine aw_draw 256 (RG.go fun Q hQ=>?_)
  simp (disch:=first | (intros;contradiction) | omega | (simp only [zN];omega)) only [zS,zW,nrow,gI_get',natAdd,natAdd1,e10,simprocAttr]
  repeat refine ⟨by ((simp;omega)),?_⟩
  refine hQ ?_
  refine RG.callg _ _ [] rfl (fun hg=>⟨_,(cmp_Less64_con _ _),by (repeat' (first | exact tr_nil | refine tr_cons ?_ ?_ | exact tr_opt (by simpa using hg) tr_v)),trivial,by (exact .inl trivial)⟩) ?_
  refine RG.go fun Q hQ=>?_
  simp (disch:=intros;contradiction) only [zS,simprocAttr]
  refine hQ (RG.nil ⟨by decide +kernel,?_⟩)
  simp only [zX]
  refine aw_cond _ rfl trivial (fun ht=>?_) (fun hf=>?_)
  ·skip
   try simp at ht
   have hb : bigC f hi m q = 2 * q + 2:=by unfold bigC;rw [if_pos ⟨hg0,by have:=ht.2;exact this⟩]
   refine aw_reg 608 (RG.go fun Q hQ=>?_)
   simp (disch:=first | (intros;contradiction) | omega | (simp only [zN];omega)) only [zS,zW,e10,simprocAttr]
   refine hQ (RG.nil ?_)
   simp only [zX]
   refine aw_draw 688 (RG.go fun Q hQ=>?_)
   simp (disch:=first | (intros;contradiction) | omega | (simp only [zN];omega)) only [zS,zW,nrow,gI_get',natAdd,simprocAttr]
   repeat refine ⟨by (omega),?_⟩
   refine hQ ?_
   refine RG.call [] (cmp_Less64_con _ _) (by (repeat' (first | exact tr_nil | refine tr_cons ?_ ?_ | exact tr_v))) trivial (by (exact .inl trivial)) ?_
   refine RG.go fun Q hQ=>?_
   simp (disch:=intros;contradiction) only [zS,simprocAttr]
   refine hQ (RG.nil ⟨by decide +kernel,?_⟩)
   simp only [zX]
   refine aw_cond _ rfl trivial (fun ht=>?_) (fun hf=>?_)
   ·skip
    try simp at ht
    simp only [zX]
    rw [← h2,sift_no (by rw [hb];omega)]
    refine Fin.objs [] [] (.inr rfl) rfl (by first | exact trivial | exact ⟨trivial,trivial⟩ | exact ⟨trivial,trivial,trivial⟩) ?_ ?_ (by simp [objL,rlook]) (by first | (simp [objL,rlook];done) | (intro k hk;simp [objL,rlook];omega))
    ·simp only [zL]
    ·simp only [zL,simprocAttr]
     all_goals (try (exact drows_nrow _))
   try simp at hf
   simp only [zX]
   rw [sift_yes hb (by omega) hf] at h2
   refine aw_draw 944 (RG.go fun Q hQ=>?_)
   simp (disch:=first | (intros;contradiction) | omega | (simp only [zN];omega)) only [zS,zW,nrow,gI_get',natAdd,set_nrow,swp_fold,simprocAttr]
   repeat refine ⟨by (omega),?_⟩
   refine hQ (RG.nil ⟨by decide +kernel,?_⟩)
   simp only [zX]
   refine aw_reg 1360 (RG.go fun Q hQ=>?_)
   simp (disch:=intros;contradiction) only [zS,simprocAttr]
   refine hQ (RG.nil ?_)
   simp only [zX]
   refine ⟨⟨(swp m (f + q) (f + (2 * q + 2)),2 * q + 2),by rw [swp_len];exact h1,h2,by omega⟩,?_,by first | omega | (simp only;omega)⟩
   refine Le.lit [] [] _ _ ?_ ?_ ?_ ?_
   ·simp only [zL,simprocAttr]
   ·simp only [zL,simprocAttr]
    all_goals (try (exact drows_nrow _))
   ·simp [rlook]
   ·first | (simp;done) | (intro k hk;simp [rlook];omega)
  try simp at hf
  simp only [zX]
  have hb : bigC f hi m q = 2 * q + 1:=by unfold bigC;rw [if_neg (by intro hh;have h5:=hf (by omega);have h6:=hh.2;rw [show f + (2 * q + 1) + 1 = f + (2 * q + 2) by omega] at h5;omega)]
  refine aw_draw 1424 (RG.go fun Q hQ=>?_)
  simp (disch:=first | (intros;contradiction) | omega | (simp only [zN];omega)) only [zS,zW,nrow,gI_get',natAdd,simprocAttr]
  repeat refine ⟨by (omega),?_⟩
  refine hQ ?_
  refine RG.call [] (cmp_Less64_con _ _) (by (repeat' (first | exact tr_nil | refine tr_cons ?_ ?_ | exact tr_v))) trivial (by (exact .inl trivial)) ?_
  refine RG.go fun Q hQ=>?_
  simp (disch:=intros;contradiction) only [zS,simprocAttr]
  refine hQ (RG.nil ⟨by decide +kernel,?_⟩)
  simp only [zX]
  refine aw_cond _ rfl trivial (fun ht=>?_) (fun hf=>?_)
  ·skip
   try simp at ht
   simp only [zX]
   rw [← h2,sift_no (by rw [hb];omega)]
   refine Fin.objs [] [] (.inr rfl) rfl (by first | exact trivial | exact ⟨trivial,trivial⟩ | exact ⟨trivial,trivial,trivial⟩) ?_ ?_ (by simp [objL,rlook]) (by first | (simp [objL,rlook];done) | (intro k hk;simp [objL,rlook];omega))
   ·simp only [zL]
   ·simp only [zL,simprocAttr]
    all_goals (try (exact drows_nrow _))
  try simp at hf
  simp only [zX]
  rw [sift_yes hb (by omega) hf] at h2
  refine aw_draw 1680 (RG.go fun Q hQ=>?_)
  simp (disch:=first | (intros;contradiction) | omega | (simp only [zN];omega)) only [zS,zW,nrow,gI_get',natAdd,set_nrow,swp_fold,simprocAttr]
  repeat refine ⟨by (omega),?_⟩
  refine hQ (RG.nil ⟨by decide +kernel,?_⟩)
  simp only [zX]
  refine aw_reg 2096 (RG.go fun Q hQ=>?_)
  simp (disch:=intros;contradiction) only [zS,simprocAttr]
  refine hQ (RG.nil ?_)
  simp only [zX]
  refine ⟨⟨(swp m (f + q) (f + (2 * q + 1)),2 * q + 1),by rw [swp_len];exact h1,h2,by omega⟩,?_,by first | omega | (simp only;omega)⟩
  refine Le.lit [] [] _ _ ?_ ?_ ?_ ?_
  ·simp only [zL,simprocAttr]
  ·simp only [zL,simprocAttr]
   all_goals (try (exact drows_nrow _))
  ·simp [rlook]
  ·first | (simp;done) | (intro k hk;simp [rlook];omega)
 have hb : bigC f hi m q = 2 * q + 1:=by unfold bigC;rw [if_neg (by omega)]
 refine aw_draw 2160 (RG.go fun Q hQ=>?_)
 simp (disch:=first | (intros;contradiction) | omega | (simp only [zN];omega)) only [zS,zW,nrow,gI_get',natAdd,natAdd1,e10,simprocAttr]
 repeat refine ⟨by ((simp;omega)),?_⟩
 refine hQ ?_
 refine RG.callg (res:=B false) _ _ [] rfl (fun hg=>by simp at hg;omega) ?_
 refine RG.go fun Q hQ=>?_
 simp (disch:=intros;contradiction) only [zS,simprocAttr]
 refine hQ (RG.nil ⟨by decide +kernel,?_⟩)
 simp only [zX]
 refine aw_cond _ rfl trivial (fun ht=>by simp at ht <;> omega) (fun hf=>?_)
 simp only [zX]
 refine aw_draw 2512 (RG.go fun Q hQ=>?_)
 simp (disch:=first | (intros;contradiction) | omega | (simp only [zN];omega)) only [zS,zW,nrow,gI_get',natAdd,simprocAttr]
 repeat refine ⟨by (omega),?_⟩
 refine hQ ?_
 refine RG.call [] (cmp_Less64_con _ _) (by (repeat' (first | exact tr_nil | refine tr_cons ?_ ?_ | exact tr_v))) trivial (by (exact .inl trivial)) ?_
 refine RG.go fun Q hQ=>?_
 simp (disch:=intros;contradiction) only [zS,simprocAttr]
 refine hQ (RG.nil ⟨by decide +kernel,?_⟩)
 simp only [zX]
 refine aw_cond _ rfl trivial (fun ht=>?_) (fun hf=>?_)
 ·skip
  try simp at ht
  simp only [zX]
  rw [← h2,sift_no (by rw [hb];omega)]
  refine Fin.objs [] [] (.inr rfl) rfl (by first | exact trivial | exact ⟨trivial,trivial⟩ | exact ⟨trivial,trivial,trivial⟩) ?_ ?_ (by simp [objL,rlook]) (by first | (simp [objL,rlook];done) | (intro k hk;simp [objL,rlook];omega))
  ·simp only [zL]
  ·simp only [zL,simprocAttr]
   all_goals (try (exact drows_nrow _))
 try simp at hf
 simp only [zX]
 rw [sift_yes hb (by omega) hf] at h2
 refine aw_draw 2768 (RG.go fun Q hQ=>?_)
 simp (disch:=first | (intros;contradiction) | omega | (simp only [zN];omega)) only [zS,zW,nrow,gI_get',natAdd,set_nrow,swp_fold,simprocAttr]
 repeat refine ⟨by (omega),?_⟩
 refine hQ (RG.nil ⟨by decide +kernel,?_⟩)
 simp only [zX]
 refine aw_reg 3184 (RG.go fun Q hQ=>?_)
 simp (disch:=intros;contradiction) only [zS,simprocAttr]
 refine hQ (RG.nil ?_)
 simp only [zX]
 refine ⟨⟨(swp m (f + q) (f + (2 * q + 1)),2 * q + 1),by rw [swp_len];exact h1,h2,by omega⟩,?_,by first | omega | (simp only;omega)⟩
 refine Le.lit [] [] _ _ ?_ ?_ ?_ ?_
 ·simp only [zL,simprocAttr]
 ·simp only [zL,simprocAttr]
  all_goals (try (exact drows_nrow _))
 ·simp [rlook]
 ·first | (simp;done) | (intro k hk;simp [rlook];omega)

end Go.Abs

namespace Go.Abs
open Go Go.Proofs
set_option maxRecDepth 100000
set_option linter.unusedSimpArgs false
set_option maxHeartbeats 4000000

theorem heapB_len (f hi : Nat) : ∀ (n : Nat) (l : List Int),(∀ m r,m.length = l.length→(sift f hi m r).length = l.length)→(heapB f hi n l).length = l.length
 | 0,l,_=>rfl
 | n + 1,l,h=>by
  unfold heapB
  rw [heapB_len f hi n _ (fun m r hm=>by rw [h l n rfl] at hm ⊢;exact h m r hm),h l n rfl]
theorem sift_len (f hi : Nat) : ∀ (n : Nat) (l : List Int) (r : Nat),hi - r≤n→(sift f hi l r).length = l.length
 | n,l,r,hn=>by
  rw [sift]
  split
  ·rename_i h
   have:=(bigC_is f hi l r h.1).2.1
   match n with
   | 0=>omega
   | n + 1 =>
    rw [sift_len f hi n _ _ (by have:=(bigC_is f hi l r h.1).1;omega),swp_len]
  ·rfl

theorem heapSort64_con (a b : Nat) (l : List Int) (hl : l.length≤1000000) (hab : a < b) (hb : b≤l.length) :
  Con Try.prog 93 [.c (.osl 0),I a,I b] [arrI 2 l] (.tup []) [arrI 2 (srt a b l)]:=by
 rw [← heapS_eq hab hb]
 unfold heapS
 obtain ⟨n,hn⟩ : ∃ n,n = b - a:=⟨_,rfl⟩
 rw [← hn]
 have e1 : (b : Int) - a = (n : Int):=by omega
 have e2 : ((n : Int) - 1) / 2 = (((n - 1) / 2 + 1 : Nat) : Int) - 1:=by omega
 obtain ⟨H,hH⟩ : ∃ H,H = heapB a n ((n - 1) / 2 + 1) l:=⟨_,rfl⟩
 have hHl : H.length = l.length:=by rw [hH,heapB_len];intro m r hm;rw [sift_len a n _ m r (Nat.le_refl _),hm]
 rw [← hH]
 refine C_slices_heapSortOrdered_int64 (Nat.le_of_ble_eq_true rfl) (Nat.le_of_ble_eq_true rfl) ?_
 simp only [cz,A_slices_heapSortOrdered_int64,argL,objL,List.length_nil,List.length_cons,Nat.zero_add,zX,simprocAttr]
 refine aw_reg 16 (RG.go fun Q hQ=>?_)
 simp (disch:=intros;contradiction) only [zS,simprocAttr]
 refine hQ (RG.nil ?_)
 simp only [zX]
 refine aw_reg 80 (RG.go fun Q hQ=>?_)
 simp (disch:=intros;contradiction) only [zS,simprocAttr]
 refine hQ (RG.nil ?_)
 simp only [zX]
 refine aw_reg 128 (RG.go fun Q hQ=>?_)
 simp (disch:=first | (intros;contradiction) | omega | (simp only [zN];omega)) only [zS,zW,e1,simprocAttr]
 refine hQ (RG.nil ?_)
 simp only [zX]
 refine aw_reg 224 (RG.go fun Q hQ=>?_)
 simp (disch:=first | (intros;contradiction) | omega | (simp only [zN];omega)) only [zS,zW,e2,simprocAttr]
 repeat refine ⟨by (omega),?_⟩
 refine hQ (RG.nil ?_)
 simp only [zX]
 refine aw_loopK (X:={ p : Nat × List Int // p.2.length = l.length∧heapB a n p.1 p.2 = H∧p.1≤n }) [0,6,7,8] (fun p=>[(9,I ((p.1.1 : Int) - 1))]) [] (fun p=>[(0,arrI 2 p.1.2)]) (fun p=>p.1.1) (⟨((n - 1) / 2 + 1,l),rfl,hH.symm,by simp only;omega⟩) ?_ ?_
 ·skip
  simp only [keepS,keepE,lk_cons,List.cons_append,List.nil_append,simprocAttr]
  refine Le.lit [] [] _ _ ?_ ?_ ?_ ?_
  ·simp only [zL,simprocAttr]
  ·simp only [zL,simprocAttr]
   all_goals (try (exact drows_nrow _))
  ·simp [rlook]
  ·first | (simp;done) | (intro k hk;simp [rlook];omega)
 rintro ⟨⟨k,m⟩,h1,h2,h3⟩
 simp only [keepS,keepE,lk_cons,List.cons_append,List.nil_append,simprocAttr]
 simp only [zX]
 simp only at h1 h2 h3
 refine aw_reg 320 (RG.go fun Q hQ=>?_)
 simp (disch:=intros;contradiction) only [zS,simprocAttr]
 refine hQ (RG.nil ?_)
 simp only [zX]
 refine aw_cond _ rfl trivial (fun ht=>?_) (fun hf=>?_)
 ·skip
  try simp at ht
  simp only [zX]
  obtain ⟨j,rfl⟩ : ∃ j,k = j + 1:=⟨k - 1,by omega⟩
  have e3 : ((j + 1 : Nat) : Int) - 1 = j:=by omega
  refine aw_reg 384 (RG.go fun Q hQ=>?_)
  simp (disch:=intros;contradiction) only [zS,e3,simprocAttr]
  refine hQ ?_
  refine RG.callo [0] [] (siftDown64_con a n j m (by omega) (by omega) (by omega)) (.mk (by (repeat' (first | exact tr_nil | refine tr_cons ?_ ?_ | exact tr_v | exact tr_osl rfl))) (by first | trivial | (simp only [zT,↓reduceIte];done) | (simp only [zT,↓reduceIte];trivial) | (simp only [zT,↓reduceIte];repeat' ((exact drows_nrow _)))) (by simp) (by simp) (trivial) (by first | (simp [lkE_cons,lkE_nil];done) | (intro j hj;simp at hj;simp only [setEs,setE_cons,setE_nil,lkE_cons,lkE_nil];repeat rw [if_neg (by omega)])) (by first | (simp [Ent.pure];done) | (simp [Ent.pure];repeat' ((exact drows_nrow _)))) (by simp) (by simp)) ?_
  refine RG.go fun Q hQ=>?_
  simp (disch:=intros;contradiction) only [zS,simprocAttr]
  refine hQ (RG.nil ?_)
  simp only [zX]
  refine aw_reg 496 (RG.go fun Q hQ=>?_)
  simp (disch:=first | (intros;contradiction) | omega | (simp only [zN];omega)) only [zS,zW,simprocAttr]
  refine hQ (RG.nil ?_)
  simp only [zX]
  refine ⟨⟨(j,sift a n m j),by simp only;rw [sift_len a n _ m j (Nat.le_refl _)];exact h1,h2,by simp only;omega⟩,?_,by first | omega | (simp only;omega)⟩
  refine Le.lit [] [] _ _ ?_ ?_ ?_ ?_
  ·simp only [zL,simprocAttr]
  ·simp only [zL,simprocAttr]
   all_goals (try (exact drows_nrow _))
  ·simp [rlook]
  ·first | (simp;done) | (intro k hk;simp [rlook];omega)
 try simp at hf
 simp only [zX,↓reduceIte]
 obtain rfl : k = 0:=by omega
 have h2' : m = H:=h2
 subst h2'
 refine aw_reg 576 (RG.go fun Q hQ=>?_)
 simp (disch:=first | (intros;contradiction) | omega | (simp only [zN];omega)) only [zS,zW,simprocAttr]
 refine hQ (RG.nil ?_)
 simp only [zX]
 refine aw_loopK (X:={ p : Nat × List Int // p.2.length = l.length∧heapP a p.1 p.2 = heapP a n m∧p.1≤n }) [0,6,7] (fun p=>[(10,I ((p.1.1 : Int) - 1))]) [] (fun p=>[(0,arrI 2 p.1.2)]) (fun p=>p.1.1) (⟨(n,m),h1,rfl,Nat.le_refl _⟩) ?_ ?_
 ·skip
  simp only [keepS,keepE,lk_cons,List.cons_append,List.nil_append,simprocAttr]
  refine Le.lit [] [] _ _ ?_ ?_ ?_ ?_
  ·simp only [zL,simprocAttr]
  ·simp only [zL,simprocAttr]
   all_goals (try (exact drows_nrow _))
  ·simp [rlook]
  ·first | (simp;done) | (intro k hk;simp [rlook];omega)
 rintro ⟨⟨k,q⟩,g1,g2,g3⟩
 simp only [keepS,keepE,lk_cons,List.cons_append,List.nil_append,simprocAttr]
 simp only [zX]
 simp only at g1 g2 g3
 refine aw_reg 656 (RG.go fun Q hQ=>?_)
 simp (disch:=intros;contradiction) only [zS,simprocAttr]
 refine hQ (RG.nil ?_)
 simp only [zX]
 refine aw_cond _ rfl trivial (fun ht=>?_) (fun hf=>?_)
 ·skip
  try simp at ht
  simp only [zX]
  obtain ⟨j,rfl⟩ : ∃ j,k = j + 1:=⟨k - 1,by omega⟩
  have e3 : ((j + 1 : Nat) : Int) - 1 = j:=by omega
  refine aw_draw 720 (RG.go fun Q hQ=>?_)
  simp (disch:=first | (intros;contradiction) | omega | (simp only [zN];omega)) only [zS,zW,nrow,gI_get',natAdd,set_nrow,swp_fold,e3,simprocAttr]
  repeat refine ⟨by (omega),?_⟩
  refine hQ (RG.nil ⟨by decide +kernel,?_⟩)
  simp only [zX]
  refine aw_reg 1072 (RG.go fun Q hQ=>?_)
  simp (disch:=intros;contradiction) only [zS,simprocAttr]
  refine hQ ?_
  refine RG.callo [0] [] (siftDown64_con a j 0 (swp q a (a + j)) (by rw [swp_len];omega) (by rw [swp_len];omega) (by omega)) (.mk (by (repeat' (first | exact tr_nil | refine tr_cons ?_ ?_ | exact tr_v | exact tr_osl rfl))) (by first | trivial | (simp only [zT,↓reduceIte];done) | (simp only [zT,↓reduceIte];trivial) | (simp only [zT,↓reduceIte];repeat' ((exact drows_nrow _)))) (by simp) (by simp) (trivial) (by first | (simp [lkE_cons,lkE_nil];done) | (intro j hj;simp at hj;simp only [setEs,setE_cons,setE_nil,lkE_cons,lkE_nil];repeat rw [if_neg (by omega)])) (by first | (simp [Ent.pure];done) | (simp [Ent.pure];repeat' ((exact drows_nrow _)))) (by simp) (by simp)) ?_
  refine RG.go fun Q hQ=>?_
  simp (disch:=intros;contradiction) only [zS,simprocAttr]
  refine hQ (RG.nil ?_)
  simp only [zX]
  refine aw_reg 1184 (RG.go fun Q hQ=>?_)
  simp (disch:=first | (intros;contradiction) | omega | (simp only [zN];omega)) only [zS,zW,simprocAttr]
  refine hQ (RG.nil ?_)
  simp only [zX]
  refine ⟨⟨(j,sift a j (swp q a (a + j)) 0),by simp only;rw [sift_len a j _ _ 0 (Nat.le_refl _),swp_len];exact g1,g2,by simp only;omega⟩,?_,by first | omega | (simp only;omega)⟩
  refine Le.lit [] [] _ _ ?_ ?_ ?_ ?_
  ·simp only [zL,simprocAttr]
  ·simp only [zL,simprocAttr]
   all_goals (try (exact drows_nrow _))
  ·simp [rlook]
  ·first | (simp;done) | (intro k hk;simp [rlook];omega)
 try simp at hf
 simp only [zX,↓reduceIte]
 obtain rfl : k = 0:=by omega
 rw [← g2]
 refine Fin.objs [] [] (.inl rfl) rfl (by first | exact trivial | exact ⟨trivial,trivial⟩ | exact ⟨trivial,trivial,trivial⟩) ?_ ?_ (by simp [objL,rlook]) (by first | (simp [objL,rlook];done) | (intro k hk;simp [objL,rlook];omega))
 ·simp only [zL]
 ·simp only [zL,simprocAttr]
  all_goals (try ((repeat' (first | (exact drows_nrow _) | rfl | refine ⟨?_,?_⟩))))

theorem ins_step {a i j : Nat} {q s : List Int} (hj : a < j) (gs : ∀ k,gI s k = if k = j - 1 then gI q j else if k = j then gI q (j - 1) else gI q k) (hlt : gI q j < gI q (j - 1)) (g4 : ∀ x y,a≤x→x < y→y < i + 1→y≠j→gI q x≤gI q y) :
  ∀ x y,a≤x→x < y→y < i + 1→y≠j - 1→gI s x≤gI s y:=by
 intro x y h1 h2 h3 h4
 rw [gs,gs,if_neg h4]
 by_cases e1 : y = j
 ·rw [if_pos e1]
  by_cases e2 : x = j - 1
  ·rw [if_pos e2];omega
  ·rw [if_neg e2,if_neg (by omega)]
   exact g4 x (j - 1) h1 (by omega) (by omega) (by omega)
 ·rw [if_neg e1]
  by_cases e2 : x = j - 1
  ·rw [if_pos e2]
   exact g4 j y (by omega) (by omega) h3 e1
  ·rw [if_neg e2]
   by_cases e3 : x = j
   ·rw [if_pos e3]
    exact g4 (j - 1) y (by omega) (by omega) h3 e1
   ·rw [if_neg e3];exact g4 x y h1 h2 h3 e1
theorem ins_stop {a i j : Nat} {q : List Int} (hj : j≤i) (hge : a < j→gI q (j - 1)≤gI q j) (g4 : ∀ x y,a≤x→x < y→y < i + 1→y≠j→gI q x≤gI q y) : sortedOn a (i + 1) q:=by
 intro x y h1 h2 h3
 rcases Nat.lt_or_ge x y with h | h
 ·by_cases e : y = j
  ·subst e
   have h5:=hge (by omega)
   by_cases e2 : x = y - 1
   ·rw [e2];exact h5
   ·have:=g4 x (y - 1) h1 (by omega) (by omega) (by omega);omega
  ·exact g4 x y h1 h h3 e
 ·rw [show x = y by omega];exact Int.le_refl _

theorem insert64_con (a b : Nat) (l : List Int) (hl : l.length≤1000000) (hab : a≤b) (hb : b≤l.length) :
  Con Try.prog 92 [.c (.osl 0),I a,I b] [arrI 2 l] (.tup []) [arrI 2 (srt a b l)]:=by
 refine C_slices_insertionSortOrdered_int64 (Nat.le_of_ble_eq_true rfl) (Nat.le_of_ble_eq_true rfl) ?_
 simp only [cz,A_slices_insertionSortOrdered_int64,argL,objL,List.length_nil,List.length_cons,Nat.zero_add,zX,simprocAttr]
 refine aw_reg 16 (RG.go fun Q hQ=>?_)
 simp (disch:=first | (intros;contradiction) | omega | (simp only [zN];omega)) only [zS,zW,simprocAttr]
 refine hQ (RG.nil ?_)
 simp only [zX]
 refine aw_loopK (X:={ p : List Int × Nat // PO a b l p.1∧a < p.2∧p.2≤max b (a + 1)∧sortedOn a p.2 p.1 }) [0,1,2] (fun p=>[(6,I p.1.2)]) [] (fun p=>[(0,arrI 2 p.1.1)]) (fun p=>b - p.1.2) (⟨(l,a + 1),PO.refl _ _ _,by simp only;omega,by simp only;omega,fun i k h1 h2 h3=>by rw [show i = k by omega];exact Int.le_refl _⟩) ?_ ?_
 ·skip
  simp only [keepS,keepE,lk_cons,List.cons_append,List.nil_append,simprocAttr]
  refine Le.lit [] [] _ _ ?_ ?_ ?_ ?_
  ·simp only [zL,simprocAttr]
   all_goals (try ((repeat' (rfl))))
  ·simp only [zL,simprocAttr]
   all_goals (try (exact drows_nrow _))
  ·simp [rlook]
  ·first | (simp;done) | (intro k hk;simp [rlook];omega)
 rintro ⟨⟨m,i⟩,h1,h2,h3,h4⟩
 simp only [keepS,keepE,lk_cons,List.cons_append,List.nil_append,simprocAttr]
 simp only [zX]
 simp only at h1 h2 h3 h4
 have hml:=h1.len
 refine aw_reg 96 (RG.go fun Q hQ=>?_)
 simp (disch:=intros;contradiction) only [zS,simprocAttr]
 refine hQ (RG.nil ?_)
 simp only [zX]
 refine aw_cond _ rfl trivial (fun ht=>?_) (fun hf=>?_)
 ·skip
  try simp at ht
  simp only [zX]
  refine aw_reg 176 (RG.go fun Q hQ=>?_)
  simp (disch:=intros;contradiction) only [zS,simprocAttr]
  refine hQ (RG.nil ?_)
  simp only [zX]
  refine aw_loopK (X:={ p : List Int × Nat // PO a b l p.1∧a≤p.2∧p.2≤i∧∀ x y,a≤x→x < y→y < i + 1→y≠p.2→gI p.1 x≤gI p.1 y }) [0,1,2,6] (fun p=>[(7,I p.1.2)]) [] (fun p=>[(0,arrI 2 p.1.1)]) (fun p=>p.1.2) (⟨(m,i),h1,by simp only;omega,by simp only;omega,fun x y g1 g2 g3 g4=>h4 x y g1 (by omega) (by simp only at g4;omega)⟩) ?_ ?_
  ·skip
   simp only [keepS,keepE,lk_cons,List.cons_append,List.nil_append,simprocAttr]
   refine Le.lit [] [] _ _ ?_ ?_ ?_ ?_
   ·simp only [zL,simprocAttr]
   ·simp only [zL,simprocAttr]
    all_goals (try (exact drows_nrow _))
   ·simp [rlook]
   ·first | (simp;done) | (intro k hk;simp [rlook];omega)
  rintro ⟨⟨q,j⟩,g1,g2,g3,g4⟩
  simp only [keepS,keepE,lk_cons,List.cons_append,List.nil_append,simprocAttr]
  simp only [zX]
  simp only at g1 g2 g3 g4
  have hql:=g1.len
  by_cases hj : a < j
  ·skip
   refine aw_draw 240 (RG.go fun Q hQ=>?_)
   simp (disch:=first | (intros;contradiction) | omega | (simp only [zN];omega)) only [zS,zW,nrow,gI_get',simprocAttr]
   repeat refine ⟨by ((simp;omega)),?_⟩
   refine hQ ?_
   refine RG.callg _ _ [] rfl (fun hg=>⟨_,(cmp_Less64_con _ _),by (repeat' (first | exact tr_nil | refine tr_cons ?_ ?_ | exact tr_opt (by simpa using hg) tr_v)),trivial,by (exact .inl trivial)⟩) ?_
   refine RG.go fun Q hQ=>?_
   simp (disch:=intros;contradiction) only [zS,simprocAttr]
   refine hQ (RG.nil ⟨by decide +kernel,?_⟩)
   simp only [zX]
   refine aw_cond _ rfl trivial (fun ht=>?_) (fun hf=>?_)
   ·skip
    try simp at ht
    simp only [zX]
    have gs : ∀ k,gI (swp q j (j - 1)) k = if k = j - 1 then gI q j else if k = j then gI q (j - 1) else gI q k:=fun k=>gI_swp (by omega) (by omega) k
    refine aw_draw 512 (RG.go fun Q hQ=>?_)
    simp (disch:=first | (intros;contradiction) | omega | (simp only [zN];omega)) only [zS,zW,nrow,gI_get',set_nrow,swp_fold,simprocAttr]
    repeat refine ⟨by (omega),?_⟩
    refine hQ (RG.nil ⟨by decide +kernel,?_⟩)
    simp only [zX]
    refine aw_reg 832 (RG.go fun Q hQ=>?_)
    simp (disch:=first | (intros;contradiction) | omega | (simp only [zN];omega)) only [zS,zW,simprocAttr]
    refine hQ (RG.nil ?_)
    simp only [zX]
    refine ⟨⟨(swp q j (j - 1),j - 1),g1.trans (PO.swp (by omega) (by omega) (by omega) (by omega) (by omega)),by simp only;omega,by simp only;omega,ins_step hj gs (by have:=ht.2;exact this) g4⟩,?_,by first | omega | (simp only;omega)⟩
    refine Le.lit [] [] _ _ ?_ ?_ ?_ ?_
    ·simp only [zL,simprocAttr]
     all_goals (try ((repeat' ((congr 1;omega)))))
    ·simp only [zL,simprocAttr]
     all_goals (try (exact drows_nrow _))
    ·simp [rlook]
    ·first | (simp;done) | (intro k hk;simp [rlook];omega)
   try simp at hf
   simp only [zX,↓reduceIte]
   refine aw_reg 912 (RG.go fun Q hQ=>?_)
   simp (disch:=first | (intros;contradiction) | omega | (simp only [zN];omega)) only [zS,zW,simprocAttr]
   refine hQ (RG.nil ?_)
   simp only [zX]
   refine ⟨⟨(q,i + 1),g1,by simp only;omega,by simp only;omega,ins_stop (j:=j) (by omega) (fun hh=>by have:=hf (by omega);omega) g4⟩,?_,by first | omega | (simp only;omega)⟩
   refine Le.lit [] [] _ _ ?_ ?_ ?_ ?_
   ·simp only [zL,simprocAttr]
    all_goals (try ((repeat' (rfl))))
   ·simp only [zL,simprocAttr]
    all_goals (try (exact drows_nrow _))
   ·simp [rlook]
   ·first | (simp;done) | (intro k hk;simp [rlook];omega)
  refine aw_draw 992 (RG.go fun Q hQ=>?_)
  simp (disch:=first | (intros;contradiction) | omega | (simp only [zN];omega)) only [zS,zW,nrow,gI_get',simprocAttr]
  repeat refine ⟨by ((simp;omega)),?_⟩
  refine hQ ?_
  refine RG.callg (res:=B false) _ _ [] rfl (fun hg=>by simp at hg;omega) ?_
  refine RG.go fun Q hQ=>?_
  simp (disch:=intros;contradiction) only [zS,simprocAttr]
  refine hQ (RG.nil ⟨by decide +kernel,?_⟩)
  simp only [zX]
  refine aw_cond _ rfl trivial (fun ht=>by simp at ht <;> omega) (fun hf=>?_)
  simp only [zX,↓reduceIte]
  refine aw_reg 1264 (RG.go fun Q hQ=>?_)
  simp (disch:=first | (intros;contradiction) | omega | (simp only [zN];omega)) only [zS,zW,simprocAttr]
  refine hQ (RG.nil ?_)
  simp only [zX]
  refine ⟨⟨(q,i + 1),g1,by simp only;omega,by simp only;omega,ins_stop (j:=j) (by omega) (fun hh=>by omega) g4⟩,?_,by first | omega | (simp only;omega)⟩
  refine Le.lit [] [] _ _ ?_ ?_ ?_ ?_
  ·simp only [zL,simprocAttr]
   all_goals (try ((repeat' (rfl))))
  ·simp only [zL,simprocAttr]
   all_goals (try (exact drows_nrow _))
  ·simp [rlook]
  ·first | (simp;done) | (intro k hk;simp [rlook];omega)
 try simp at hf
 simp only [zX,↓reduceIte]
 have hs : srt a b m = m:=srt_id hab (by omega) fun x y g1 g2 g3=>h4 x y g1 g2 (by omega)
 rw [← h1.srt hab,hs]
 refine Fin.objs [] [] (.inl rfl) rfl (by first | exact trivial | exact ⟨trivial,trivial⟩ | exact ⟨trivial,trivial,trivial⟩) ?_ ?_ (by simp [objL,rlook]) (by first | (simp [objL,rlook];done) | (intro k hk;simp [objL,rlook];omega))
 ·simp only [zL]
 ·simp only [zL,simprocAttr]
  all_goals (try (exact drows_nrow _))

end Go.Abs

namespace Go.Abs
open Go Go.Proofs
set_option maxRecDepth 100000
set_option linter.unusedSimpArgs false
set_option maxHeartbeats 4000000

theorem up_on {f : Nat→Bool} {i j : Nat} (h : i≤j) (hf : f i = true) : up f i j = up f (i + 1) j:=by rw [up,if_pos ⟨h,hf⟩]
theorem up_off {f : Nat→Bool} {i j : Nat} (h : i≤j→f i = false) : up f i j = i:=by
 rw [up,if_neg];rintro ⟨h1,h2⟩;rw [h h1] at h2;cases h2
theorem dn_on {f : Nat→Bool} {i j : Nat} (h : i≤j) (h0 : 0 < j) (hf : f j = true) : dn f i j = dn f i (j - 1):=by rw [dn,if_pos ⟨h,h0,hf⟩]
theorem dn_off {f : Nat→Bool} {i j : Nat} (h : i≤j→f j = false) : dn f i j = j:=by
 rw [dn,if_neg];rintro ⟨h1,_,h2⟩;rw [h h1] at h2;cases h2
theorem partL_yes {le : Bool} {a i j p q : Nat} {l : List Int} (hp : up (goL le l a) i j = p) (hq : dn (fun k=>!goL le l a k) p j = q) (h : p≤q) : partL le a l i j = partL le a (swp l p q) (p + 1) (q - 1):=by
 rw [partL,hp,hq,if_pos h]
theorem partL_no {le : Bool} {a i j p q : Nat} {l : List Int} (hp : up (goL le l a) i j = p) (hq : dn (fun k=>!goL le l a k) p j = q) (h : q < p) : partL le a l i j = (l,q):=by
 rw [partL,hp,hq,if_neg (by omega)]
theorem up_lt_dn {f : Nat→Bool} {i j p q : Nat} (h0 : 0 < i) (hi : i≤j + 1) (hp : up f i j = p) (hq : dn (fun k=>!f k) p j = q) (h : p≤q) : p < q:=by
 obtain ⟨u1,u2,_,u4⟩:=up_spec f j _ i (Nat.le_refl _) hi
 rw [hp] at u1 u2 u4
 obtain ⟨d1,_,_,d4⟩:=dn_spec (fun k=>!f k) p (by omega) j u2
 rw [hq] at d1 d4
 rcases Nat.lt_or_ge p q with h1 | h1
 ·exact h1
 ·have e : p = q:=by omega
  subst e
  have h2:=u4 (by omega)
  have h3:=d4 (Nat.le_refl _)
  simp only [Bool.not_eq_false'] at h3
  rw [h2] at h3;cases h3
def partB (l : List Int) (a b p : Nat) : Bool :=
 let m:=swp l a p
 decide (dn (fun k=>!goL false m a k) (up (goL false m a) (a + 1) (b - 1)) (b - 1) < up (goL false m a) (a + 1) (b - 1))
theorem goF {l : List Int} {a k : Nat} : goL false l a k = decide (gI l k < gI l a):=rfl
theorem goT {l : List Int} {a k : Nat} : goL true l a k = decide (gI l k≤gI l a):=rfl

theorem partition64_con (a b p : Nat) (l : List Int) (hl : l.length≤1000000) (hab : a + 1 < b) (hb : b≤l.length) (hp : a≤p∧p < b) :
  Con Try.prog 100 [.c (.osl 0),I a,I b,I p] [arrI 2 l] (.tup [I (partF l a b p).2,B (partB l a b p)]) [arrI 2 (partF l a b p).1]:=by
 obtain ⟨m,hm⟩ : ∃ m,m = swp l a p:=⟨_,rfl⟩
 have hml : m.length = l.length:=by rw [hm,swp_len]
 have e1 : (b : Int) - 1 = ((b - 1 : Nat) : Int):=by omega
 unfold partF partB
 simp only [← hm]
 refine C_slices_partitionOrdered_int64 (Nat.le_of_ble_eq_true rfl) (Nat.le_of_ble_eq_true rfl) ?_
 simp only [cz,A_slices_partitionOrdered_int64,argL,objL,List.length_nil,List.length_cons,Nat.zero_add,zX,simprocAttr]
 refine aw_reg 16 (RG.go fun Q hQ=>?_)
 simp (disch:=intros;contradiction) only [zS,simprocAttr]
 refine hQ (RG.nil ?_)
 simp only [zX]
 refine aw_draw 80 (RG.go fun Q hQ=>?_)
 simp (disch:=first | (intros;contradiction) | omega | (simp only [zN];omega)) only [zS,zW,nrow,gI_get',set_nrow,swp_fold,← hm,simprocAttr]
 repeat refine ⟨by (omega),?_⟩
 refine hQ (RG.nil ⟨by decide +kernel,?_⟩)
 simp only [zX]
 refine aw_reg 368 (RG.go fun Q hQ=>?_)
 simp (disch:=first | (intros;contradiction) | omega | (simp only [zN];omega)) only [zS,zW,e1,simprocAttr]
 refine hQ (RG.nil ?_)
 simp only [zY]
 refine aw_joinS (Y:={ i : Nat // a < i∧i≤b∧up (goL false m a) (a + 1) (b - 1) = i }) [0,1,11] (fun i=>[(10,I i.1)]) [0] (fun i=>[]) (by (repeat' (exact cl_fin))) ?_ ?_
 ·skip
  simp only [zX]
  refine aw_loopK (X:={ i : Nat // a < i∧i≤b∧up (goL false m a) (a + 1) (b - 1) = up (goL false m a) i (b - 1) }) [0,1,11] (fun i=>[(10,I i.1)]) [0] (fun i=>[]) (fun i=>b - i.1) (⟨a + 1,by omega,by omega,rfl⟩) ?_ ?_
  ·skip
   simp only [keepS,keepE,Option.getD_some,lk_cons,lkE_cons,List.cons_append,List.nil_append,simprocAttr]
   refine Le.lit [] [] _ _ ?_ ?_ ?_ ?_
   ·simp only [zL,simprocAttr]
    all_goals (try ((repeat' (rfl))))
   ·simp only [zL,simprocAttr]
    all_goals (try (exact drows_nrow _))
   ·simp [rlook]
   ·first | (simp;done) | (intro k hk;simp [rlook];omega)
  rintro ⟨i,h1,h2,h3⟩
  simp only [keepS,keepE,Option.getD_some,lk_cons,lkE_cons,List.cons_append,List.nil_append,simprocAttr]
  simp only [zX]
  by_cases hg0 : i≤b - 1
  ·skip
   refine aw_draw 496 (RG.go fun Q hQ=>?_)
   simp (disch:=first | (intros;contradiction) | omega | (simp only [zN];omega)) only [zS,zW,nrow,gI_get',simprocAttr]
   repeat refine ⟨by ((simp;omega)),?_⟩
   refine hQ ?_
   refine RG.callg _ _ [] rfl (fun hg=>⟨_,(cmp_Less64_con _ _),by (repeat' (first | exact tr_nil | refine tr_cons ?_ ?_ | exact tr_opt (by simpa using hg) tr_v)),trivial,by (exact .inl trivial)⟩) ?_
   refine RG.go fun Q hQ=>?_
   simp (disch:=intros;contradiction) only [zS,simprocAttr]
   refine hQ (RG.nil ⟨by decide +kernel,?_⟩)
   simp only [zX]
   refine aw_cond _ rfl trivial (fun ht=>?_) (fun hf=>?_)
   ·skip
    try simp at ht
    simp only [zX]
    refine aw_reg 752 (RG.go fun Q hQ=>?_)
    simp (disch:=first | (intros;contradiction) | omega | (simp only [zN];omega)) only [zS,zW,simprocAttr]
    refine hQ (RG.nil ?_)
    simp only [zX]
    refine ⟨⟨i + 1,by omega,by omega,by rw [h3,up_on hg0];rw [goF];have:=ht.2;simpa using this⟩,?_,by first | omega | (simp only;omega)⟩
    refine Le.lit [] [] _ _ ?_ ?_ ?_ ?_
    ·simp only [zL,simprocAttr]
     all_goals (try ((repeat' (rfl))))
    ·simp only [zL,simprocAttr]
     all_goals (try (exact drows_nrow _))
    ·simp [rlook]
    ·first | (simp;done) | (intro k hk;simp [rlook];omega)
   try simp at hf
   simp only [zX,↓reduceIte]
   refine ⟨⟨i,h1,h2,by rw [h3,up_off fun _=>by rw [goF];have:=hf (by omega);simpa using this]⟩,?_⟩
   simp only []
   refine Le.lit [] [] _ _ ?_ ?_ ?_ ?_
   ·simp only [zL,simprocAttr]
   ·simp only [zL,simprocAttr]
    all_goals (try (exact drows_nrow _))
   ·simp [rlook]
   ·first | (simp;done) | (intro k hk;simp [rlook];omega)
  refine aw_draw 832 (RG.go fun Q hQ=>?_)
  simp (disch:=first | (intros;contradiction) | omega | (simp only [zN];omega)) only [zS,zW,nrow,gI_get',simprocAttr]
  repeat refine ⟨by ((simp;omega)),?_⟩
  refine hQ ?_
  refine RG.callg (res:=B false) _ _ [] rfl (fun hg=>by simp at hg;omega) ?_
  refine RG.go fun Q hQ=>?_
  simp (disch:=intros;contradiction) only [zS,simprocAttr]
  refine hQ (RG.nil ⟨by decide +kernel,?_⟩)
  simp only [zX]
  refine aw_cond _ rfl trivial (fun ht=>by simp at ht <;> omega) (fun hf=>?_)
  simp only [zX,↓reduceIte]
  refine ⟨⟨i,h1,h2,by rw [h3,up_off fun h=>absurd h hg0]⟩,?_⟩
  simp only []
  refine Le.lit [] [] _ _ ?_ ?_ ?_ ?_
  ·simp only [zL,simprocAttr]
  ·simp only [zL,simprocAttr]
   all_goals (try (exact drows_nrow _))
  ·simp [rlook]
  ·first | (simp;done) | (intro k hk;simp [rlook];omega)
 rintro ⟨i,h1,h2,h3⟩
 simp only [keepS,keepE,Option.getD_some,lk_cons,lkE_cons,List.cons_append,List.nil_append,simprocAttr]
 refine aw_joinS (Y:={ j : Nat // a≤j∧j < b∧i≤j + 1∧dn (fun k=>!goL false m a k) i (b - 1) = j }) [0,1,10] (fun j=>[(11,I j.1)]) [0] (fun j=>[]) (by (repeat' (exact cl_fin))) ?_ ?_
 ·skip
  simp only [zX]
  refine aw_loopK (X:={ j : Nat // a≤j∧j < b∧i≤j + 1∧dn (fun k=>!goL false m a k) i (b - 1) = dn (fun k=>!goL false m a k) i j }) [0,1,10] (fun j=>[(11,I j.1)]) [0] (fun j=>[]) (fun j=>j.1) (⟨b - 1,by omega,by omega,by omega,rfl⟩) ?_ ?_
  ·skip
   simp only [keepS,keepE,Option.getD_some,lk_cons,lkE_cons,List.cons_append,List.nil_append,simprocAttr]
   refine Le.lit [] [] _ _ ?_ ?_ ?_ ?_
   ·simp only [zL,simprocAttr]
   ·simp only [zL,simprocAttr]
    all_goals (try (exact drows_nrow _))
   ·simp [rlook]
   ·first | (simp;done) | (intro k hk;simp [rlook];omega)
  rintro ⟨j,g1,g2,g3,g4⟩
  simp only [keepS,keepE,Option.getD_some,lk_cons,lkE_cons,List.cons_append,List.nil_append,simprocAttr]
  simp only [zX]
  refine aw_draw 1088 (RG.go fun Q hQ=>?_)
  simp (disch:=first | (intros;contradiction) | omega | (simp only [zN];omega)) only [zS,zW,nrow,gI_get',simprocAttr]
  repeat refine ⟨by ((simp;omega)),?_⟩
  refine hQ ?_
  refine RG.callg _ _ [] rfl (fun hg=>⟨_,(cmp_Less64_con _ _),by (repeat' (first | exact tr_nil | refine tr_cons ?_ ?_ | exact tr_opt (by simpa using hg) tr_v)),trivial,by (exact .inl trivial)⟩) ?_
  refine RG.go fun Q hQ=>?_
  simp (disch:=intros;contradiction) only [zS,simprocAttr]
  refine hQ (RG.nil ⟨by decide +kernel,?_⟩)
  simp only [zX]
  refine aw_cond _ rfl trivial (fun ht=>?_) (fun hf=>?_)
  ·skip
   try simp at ht
   simp only [zX]
   refine aw_reg 1360 (RG.go fun Q hQ=>?_)
   simp (disch:=first | (intros;contradiction) | omega | (simp only [zN];omega)) only [zS,zW,simprocAttr]
   refine hQ (RG.nil ?_)
   simp only [zX]
   refine ⟨⟨j - 1,by omega,by omega,by omega,by rw [g4,dn_on (by omega) (by omega)];rw [goF];have:=ht.2;simpa using this⟩,?_,by first | omega | (simp only;omega)⟩
   refine Le.lit [] [] _ _ ?_ ?_ ?_ ?_
   ·simp only [zL,simprocAttr]
    all_goals (try ((repeat' ((congr 1;omega)))))
   ·simp only [zL,simprocAttr]
    all_goals (try (exact drows_nrow _))
   ·simp [rlook]
   ·first | (simp;done) | (intro k hk;simp [rlook];omega)
  try simp at hf
  simp only [zX,↓reduceIte]
  refine ⟨⟨j,g1,g2,g3,by rw [g4,dn_off fun h=>by rw [goF];have:=hf (by omega);simpa using this]⟩,?_⟩
  simp only []
  refine Le.lit [] [] _ _ ?_ ?_ ?_ ?_
  ·simp only [zL,simprocAttr]
  ·simp only [zL,simprocAttr]
   all_goals (try (exact drows_nrow _))
  ·simp [rlook]
  ·first | (simp;done) | (intro k hk;simp [rlook];omega)
 rintro ⟨j,g1,g2,g3,g4⟩
 simp only [keepS,keepE,Option.getD_some,lk_cons,lkE_cons,List.cons_append,List.nil_append,simprocAttr]
 simp only [zX]
 rw [h3,g4]
 refine aw_reg 1440 (RG.go fun Q hQ=>?_)
 simp (disch:=intros;contradiction) only [zS,simprocAttr]
 refine hQ (RG.nil ?_)
 simp only [zX]
 refine aw_cond _ rfl trivial (fun ht=>?_) (fun hf=>?_)
 ·skip
  try simp at ht
  simp only [zX]
  have hji : j < i:=by omega
  rw [partL_no h3 g4 hji,decide_eq_true hji]
  refine aw_draw 1520 (RG.go fun Q hQ=>?_)
  simp (disch:=first | (intros;contradiction) | omega | (simp only [zN];omega)) only [zS,zW,nrow,gI_get',set_nrow,swp_fold,simprocAttr]
  repeat refine ⟨by (omega),?_⟩
  refine hQ (RG.nil ⟨by decide +kernel,?_⟩)
  simp only [zX]
  refine aw_reg 1808 (RG.go fun Q hQ=>?_)
  simp (disch:=intros;contradiction) only [zS,simprocAttr]
  refine hQ (RG.nil ?_)
  simp only [zX]
  refine Fin.objs [] [] (.inr rfl) rfl (by first | exact trivial | exact ⟨trivial,trivial⟩ | exact ⟨trivial,trivial,trivial⟩) ?_ ?_ (by simp [objL,rlook]) (by first | (simp [objL,rlook];done) | (intro k hk;simp [objL,rlook];omega))
  ·simp only [zL,simprocAttr]
  ·simp only [zL,simprocAttr]
   all_goals (try (exact drows_nrow _))
 try simp at hf
 simp only [zX]
 have hij : i≤j:=by omega
 have hij2:=up_lt_dn (by omega) (by omega) h3 g4 hij
 rw [partL_yes h3 g4 hij,decide_eq_false (show ¬ j < i by omega)]
 obtain ⟨L,hL⟩ : ∃ L,L = partL false a (swp m i j) (i + 1) (j - 1):=⟨_,rfl⟩
 rw [← hL]
 refine aw_draw 1888 (RG.go fun Q hQ=>?_)
 simp (disch:=first | (intros;contradiction) | omega | (simp only [zN];omega)) only [zS,zW,nrow,gI_get',set_nrow,swp_fold,simprocAttr]
 repeat refine ⟨by (omega),?_⟩
 refine hQ (RG.nil ⟨by decide +kernel,?_⟩)
 simp only [zX]
 refine aw_reg 2176 (RG.go fun Q hQ=>?_)
 simp (disch:=first | (intros;contradiction) | omega | (simp only [zN];omega)) only [zS,zW,simprocAttr]
 refine hQ (RG.nil ?_)
 simp only [zX]
 refine aw_reg 2256 (RG.go fun Q hQ=>?_)
 simp (disch:=first | (intros;contradiction) | omega | (simp only [zN];omega)) only [zS,zW,simprocAttr]
 refine hQ (RG.nil ?_)
 simp only [zX]
 refine aw_loopK (X:={ p : List Int × Nat × Nat // p.1.length = l.length∧partL false a p.1 p.2.1 p.2.2 = L∧a < p.2.1∧p.2.1≤p.2.2 + 1∧p.2.2 < b }) [0,1] (fun p=>[(10,I p.1.2.1),(11,I p.1.2.2)]) [] (fun p=>[(0,arrI 2 p.1.1)]) (fun p=>p.1.2.2 + 1 - p.1.2.1) (⟨(swp m i j,i + 1,j - 1),by rw [swp_len];exact hml,hL.symm,by simp only;omega,by simp only;omega,by simp only;omega⟩) ?_ ?_
 ·skip
  simp only [keepS,keepE,lk_cons,List.cons_append,List.nil_append,simprocAttr]
  refine Le.lit [] [] _ _ ?_ ?_ ?_ ?_
  ·simp only [zL,simprocAttr]
   all_goals (try ((repeat' (first | rfl | (congr 1;omega) | refine ⟨?_,?_⟩))))
  ·simp only [zL,simprocAttr]
   all_goals (try (exact drows_nrow _))
  ·simp [rlook]
  ·first | (simp;done) | (intro k hk;simp [rlook];omega)
 rintro ⟨⟨q,x,y⟩,k1,k2,k3,k4,k5⟩
 simp only [keepS,keepE,lk_cons,List.cons_append,List.nil_append,simprocAttr]
 simp only at k1 k2 k3 k4 k5
 refine aw_block ?_
 refine aw_joinS (Y:={ u : Nat // x≤u∧u≤y + 1∧up (goL false q a) x y = u }) [0,1,11] (fun u=>[(10,I u.1)]) [0] (fun u=>[]) (by (repeat' (first | exact cl_fin | refine cl_then ?_ ?_ | refine cl_block ?_ | refine cl_loop ?_))) ?_ ?_
 ·skip
  simp only [zX]
  refine aw_loopK (X:={ u : Nat // x≤u∧u≤y + 1∧up (goL false q a) x y = up (goL false q a) u y }) [0,1,11] (fun u=>[(10,I u.1)]) [0] (fun u=>[]) (fun u=>y + 1 - u.1) (⟨x,by omega,by omega,rfl⟩) ?_ ?_
  ·skip
   simp only [keepS,keepE,Option.getD_some,lk_cons,lkE_cons,List.cons_append,List.nil_append,simprocAttr]
   refine Le.lit [] [] _ _ ?_ ?_ ?_ ?_
   ·simp only [zL,simprocAttr]
   ·simp only [zL,simprocAttr]
    all_goals (try (exact drows_nrow _))
   ·simp [rlook]
   ·first | (simp;done) | (intro k hk;simp [rlook];omega)
  rintro ⟨u,h1,h2,h3⟩
  simp only [keepS,keepE,Option.getD_some,lk_cons,lkE_cons,List.cons_append,List.nil_append,simprocAttr]
  simp only [zX]
  by_cases hg0 : u≤y
  ·skip
   refine aw_draw 2336 (RG.go fun Q hQ=>?_)
   simp (disch:=first | (intros;contradiction) | omega | (simp only [zN];omega)) only [zS,zW,nrow,gI_get',simprocAttr]
   repeat refine ⟨by ((simp;omega)),?_⟩
   refine hQ ?_
   refine RG.callg _ _ [] rfl (fun hg=>⟨_,(cmp_Less64_con _ _),by (repeat' (first | exact tr_nil | refine tr_cons ?_ ?_ | exact tr_opt (by simpa using hg) tr_v)),trivial,by (exact .inl trivial)⟩) ?_
   refine RG.go fun Q hQ=>?_
   simp (disch:=intros;contradiction) only [zS,simprocAttr]
   refine hQ (RG.nil ⟨by decide +kernel,?_⟩)
   simp only [zX]
   refine aw_cond _ rfl trivial (fun ht=>?_) (fun hf=>?_)
   ·skip
    try simp at ht
    simp only [zX]
    refine aw_reg 2592 (RG.go fun Q hQ=>?_)
    simp (disch:=first | (intros;contradiction) | omega | (simp only [zN];omega)) only [zS,zW,simprocAttr]
    refine hQ (RG.nil ?_)
    simp only [zX]
    refine ⟨⟨u + 1,by omega,by omega,by rw [h3,up_on hg0];rw [goF];have:=ht.2;simpa using this⟩,?_,by first | omega | (simp only;omega)⟩
    refine Le.lit [] [] _ _ ?_ ?_ ?_ ?_
    ·simp only [zL,simprocAttr]
     all_goals (try ((repeat' (rfl))))
    ·simp only [zL,simprocAttr]
     all_goals (try (exact drows_nrow _))
    ·simp [rlook]
    ·first | (simp;done) | (intro k hk;simp [rlook];omega)
   try simp at hf
   simp only [zX,↓reduceIte]
   refine ⟨⟨u,h1,h2,by rw [h3,up_off fun _=>by rw [goF];have:=hf (by omega);simpa using this]⟩,?_⟩
   simp only []
   refine Le.lit [] [] _ _ ?_ ?_ ?_ ?_
   ·simp only [zL,simprocAttr]
   ·simp only [zL,simprocAttr]
    all_goals (try (exact drows_nrow _))
   ·simp [rlook]
   ·first | (simp;done) | (intro k hk;simp [rlook];omega)
  refine aw_draw 2672 (RG.go fun Q hQ=>?_)
  simp (disch:=first | (intros;contradiction) | omega | (simp only [zN];omega)) only [zS,zW,nrow,gI_get',simprocAttr]
  repeat refine ⟨by ((simp;omega)),?_⟩
  refine hQ ?_
  refine RG.callg (res:=B false) _ _ [] rfl (fun hg=>by simp at hg;omega) ?_
  refine RG.go fun Q hQ=>?_
  simp (disch:=intros;contradiction) only [zS,simprocAttr]
  refine hQ (RG.nil ⟨by decide +kernel,?_⟩)
  simp only [zX]
  refine aw_cond _ rfl trivial (fun ht=>by simp at ht <;> omega) (fun hf=>?_)
  simp only [zX,↓reduceIte]
  refine ⟨⟨u,h1,h2,by rw [h3,up_off fun h=>absurd h hg0]⟩,?_⟩
  simp only []
  refine Le.lit [] [] _ _ ?_ ?_ ?_ ?_
  ·simp only [zL,simprocAttr]
  ·simp only [zL,simprocAttr]
   all_goals (try (exact drows_nrow _))
  ·simp [rlook]
  ·first | (simp;done) | (intro k hk;simp [rlook];omega)
 rintro ⟨u,u1,u2,u3⟩
 simp only [keepS,keepE,Option.getD_some,lk_cons,lkE_cons,List.cons_append,List.nil_append,simprocAttr]
 refine aw_joinS (Y:={ v : Nat // v≤y∧u≤v + 1∧dn (fun k=>!goL false q a k) u y = v }) [0,1,10] (fun v=>[(11,I v.1)]) [0] (fun v=>[]) (by (repeat' (first | exact cl_fin | refine cl_then ?_ ?_ | refine cl_block ?_ | refine cl_loop ?_))) ?_ ?_
 ·skip
  simp only [zX]
  refine aw_loopK (X:={ v : Nat // v≤y∧u≤v + 1∧dn (fun k=>!goL false q a k) u y = dn (fun k=>!goL false q a k) u v }) [0,1,10] (fun v=>[(11,I v.1)]) [0] (fun v=>[]) (fun v=>v.1) (⟨y,by omega,by omega,rfl⟩) ?_ ?_
  ·skip
   simp only [keepS,keepE,Option.getD_some,lk_cons,lkE_cons,List.cons_append,List.nil_append,simprocAttr]
   refine Le.lit [] [] _ _ ?_ ?_ ?_ ?_
   ·simp only [zL,simprocAttr]
   ·simp only [zL,simprocAttr]
    all_goals (try (exact drows_nrow _))
   ·simp [rlook]
   ·first | (simp;done) | (intro k hk;simp [rlook];omega)
  rintro ⟨v,g1,g3,g4⟩
  simp only [keepS,keepE,Option.getD_some,lk_cons,lkE_cons,List.cons_append,List.nil_append,simprocAttr]
  simp only [zX]
  refine aw_draw 2928 (RG.go fun Q hQ=>?_)
  simp (disch:=first | (intros;contradiction) | omega | (simp only [zN];omega)) only [zS,zW,nrow,gI_get',simprocAttr]
  repeat refine ⟨by ((simp;omega)),?_⟩
  refine hQ ?_
  refine RG.callg _ _ [] rfl (fun hg=>⟨_,(cmp_Less64_con _ _),by (repeat' (first | exact tr_nil | refine tr_cons ?_ ?_ | exact tr_opt (by simpa using hg) tr_v)),trivial,by (exact .inl trivial)⟩) ?_
  refine RG.go fun Q hQ=>?_
  simp (disch:=intros;contradiction) only [zS,simprocAttr]
  refine hQ (RG.nil ⟨by decide +kernel,?_⟩)
  simp only [zX]
  refine aw_cond _ rfl trivial (fun ht=>?_) (fun hf=>?_)
  ·skip
   try simp at ht
   simp only [zX]
   refine aw_reg 3200 (RG.go fun Q hQ=>?_)
   simp (disch:=first | (intros;contradiction) | omega | (simp only [zN];omega)) only [zS,zW,simprocAttr]
   refine hQ (RG.nil ?_)
   simp only [zX]
   refine ⟨⟨v - 1,by omega,by omega,by rw [g4,dn_on (by omega) (by omega)];rw [goF];have:=ht.2;simpa using this⟩,?_,by first | omega | (simp only;omega)⟩
   refine Le.lit [] [] _ _ ?_ ?_ ?_ ?_
   ·simp only [zL,simprocAttr]
    all_goals (try ((repeat' ((congr 1;omega)))))
   ·simp only [zL,simprocAttr]
    all_goals (try (exact drows_nrow _))
   ·simp [rlook]
   ·first | (simp;done) | (intro k hk;simp [rlook];omega)
  try simp at hf
  simp only [zX,↓reduceIte]
  refine ⟨⟨v,g1,g3,by rw [g4,dn_off fun h=>by rw [goF];have:=hf (by omega);simpa using this]⟩,?_⟩
  simp only []
  refine Le.lit [] [] _ _ ?_ ?_ ?_ ?_
  ·simp only [zL,simprocAttr]
  ·simp only [zL,simprocAttr]
   all_goals (try (exact drows_nrow _))
  ·simp [rlook]
  ·first | (simp;done) | (intro k hk;simp [rlook];omega)
 rintro ⟨v,v1,v3,v4⟩
 simp only [keepS,keepE,Option.getD_some,lk_cons,lkE_cons,List.cons_append,List.nil_append,simprocAttr]
 simp only [zX]
 refine aw_reg 3280 (RG.go fun Q hQ=>?_)
 simp (disch:=intros;contradiction) only [zS,simprocAttr]
 refine hQ (RG.nil ?_)
 simp only [zX]
 refine aw_cond _ rfl trivial (fun ht=>?_) (fun hf=>?_)
 ·skip
  try simp at ht
  simp only [zX,simprocAttr]
  have hji : v < u:=by omega
  rw [partL_no u3 v4 hji] at k2
  rw [← k2]
  refine aw_draw 3360 (RG.go fun Q hQ=>?_)
  simp (disch:=first | (intros;contradiction) | omega | (simp only [zN];omega)) only [zS,zW,nrow,gI_get',set_nrow,swp_fold,simprocAttr]
  repeat refine ⟨by (omega),?_⟩
  refine hQ (RG.nil ⟨by decide +kernel,?_⟩)
  simp only [zX]
  refine aw_reg 3648 (RG.go fun Q hQ=>?_)
  simp (disch:=intros;contradiction) only [zS,simprocAttr]
  refine hQ (RG.nil ?_)
  simp only [zX]
  refine Fin.objs [] [] (.inr rfl) rfl (by first | exact trivial | exact ⟨trivial,trivial⟩ | exact ⟨trivial,trivial,trivial⟩) ?_ ?_ (by simp [objL,rlook]) (by first | (simp [objL,rlook];done) | (intro k hk;simp [objL,rlook];omega))
  ·simp only [zL,simprocAttr]
  ·simp only [zL,simprocAttr]
   all_goals (try (exact drows_nrow _))
 try simp at hf
 simp only [zX]
 have hij : u≤v:=by omega
 have hij2:=up_lt_dn (by omega) k4 u3 v4 hij
 rw [partL_yes u3 v4 hij] at k2
 refine aw_draw 3728 (RG.go fun Q hQ=>?_)
 simp (disch:=first | (intros;contradiction) | omega | (simp only [zN];omega)) only [zS,zW,nrow,gI_get',set_nrow,swp_fold,simprocAttr]
 repeat refine ⟨by (omega),?_⟩
 refine hQ (RG.nil ⟨by decide +kernel,?_⟩)
 simp only [zX]
 refine aw_reg 4016 (RG.go fun Q hQ=>?_)
 simp (disch:=first | (intros;contradiction) | omega | (simp only [zN];omega)) only [zS,zW,simprocAttr]
 refine hQ (RG.nil ?_)
 simp only [zX]
 refine aw_reg 4096 (RG.go fun Q hQ=>?_)
 simp (disch:=first | (intros;contradiction) | omega | (simp only [zN];omega)) only [zS,zW,simprocAttr]
 refine hQ (RG.nil ?_)
 simp only [zX]
 refine ⟨⟨(swp q u v,u + 1,v - 1),by rw [swp_len];exact k1,k2,by simp only;omega,by simp only;omega,by simp only;omega⟩,?_,by first | omega | (simp only;omega)⟩
 refine Le.lit [] [] _ _ ?_ ?_ ?_ ?_
 ·simp only [zL,simprocAttr]
  all_goals (try ((repeat' (first | rfl | (congr 1;omega) | refine ⟨?_,?_⟩))))
 ·simp only [zL,simprocAttr]
  all_goals (try (exact drows_nrow _))
 ·simp [rlook]
 ·first | (simp;done) | (intro k hk;simp [rlook];omega)

theorem partEqual64_con (a b p : Nat) (l : List Int) (hl : l.length≤1000000) (hab : a + 1 < b) (hb : b≤l.length) (hp : a≤p∧p < b) :
  Con Try.prog 99 [.c (.osl 0),I a,I b,I p] [arrI 2 l] (I ((partE l a b p).2 + 1)) [arrI 2 (partE l a b p).1]:=by
 obtain ⟨m,hm⟩ : ∃ m,m = swp l a p:=⟨_,rfl⟩
 have hml : m.length = l.length:=by rw [hm,swp_len]
 have e1 : (b : Int) - 1 = ((b - 1 : Nat) : Int):=by omega
 unfold partE
 rw [← hm]
 obtain ⟨L,hL⟩ : ∃ L,L = partL true a m (a + 1) (b - 1):=⟨_,rfl⟩
 rw [← hL]
 refine C_slices_partitionEqualOrdered_int64 (Nat.le_of_ble_eq_true rfl) (Nat.le_of_ble_eq_true rfl) ?_
 simp only [cz,A_slices_partitionEqualOrdered_int64,argL,objL,List.length_nil,List.length_cons,Nat.zero_add,zX,simprocAttr]
 refine aw_reg 16 (RG.go fun Q hQ=>?_)
 simp (disch:=intros;contradiction) only [zS,simprocAttr]
 refine hQ (RG.nil ?_)
 simp only [zX]
 refine aw_draw 64 (RG.go fun Q hQ=>?_)
 simp (disch:=first | (intros;contradiction) | omega | (simp only [zN];omega)) only [zS,zW,nrow,gI_get',set_nrow,swp_fold,← hm,simprocAttr]
 repeat refine ⟨by (omega),?_⟩
 refine hQ (RG.nil ⟨by decide +kernel,?_⟩)
 simp only [zX]
 refine aw_reg 352 (RG.go fun Q hQ=>?_)
 simp (disch:=first | (intros;contradiction) | omega | (simp only [zN];omega)) only [zS,zW,e1,simprocAttr]
 refine hQ (RG.nil ?_)
 simp only [zX]
 refine aw_loopK (X:={ p : List Int × Nat × Nat // p.1.length = l.length∧partL true a p.1 p.2.1 p.2.2 = L∧a < p.2.1∧p.2.1≤p.2.2 + 1∧p.2.2 < b }) [0,1] (fun p=>[(9,I p.1.2.1),(10,I p.1.2.2)]) [] (fun p=>[(0,arrI 2 p.1.1)]) (fun p=>p.1.2.2 + 1 - p.1.2.1) (⟨(m,a + 1,b - 1),hml,hL.symm,by simp only;omega,by simp only;omega,by simp only;omega⟩) ?_ ?_
 ·skip
  simp only [keepS,keepE,lk_cons,List.cons_append,List.nil_append,simprocAttr]
  refine Le.lit [] [] _ _ ?_ ?_ ?_ ?_
  ·simp only [zL,simprocAttr]
   all_goals (try ((repeat' (rfl))))
  ·simp only [zL,simprocAttr]
   all_goals (try (exact drows_nrow _))
  ·simp [rlook]
  ·first | (simp;done) | (intro k hk;simp [rlook];omega)
 rintro ⟨⟨q,x,y⟩,k1,k2,k3,k4,k5⟩
 simp only [keepS,keepE,lk_cons,List.cons_append,List.nil_append,simprocAttr]
 simp only at k1 k2 k3 k4 k5
 refine aw_block ?_
 refine aw_joinS (Y:={ u : Nat // x≤u∧u≤y + 1∧up (goL true q a) x y = u }) [0,1,10] (fun u=>[(9,I u.1)]) [0] (fun u=>[]) (by (repeat' (first | exact cl_fin | refine cl_then ?_ ?_ | refine cl_block ?_ | refine cl_loop ?_))) ?_ ?_
 ·skip
  simp only [zX]
  refine aw_loopK (X:={ u : Nat // x≤u∧u≤y + 1∧up (goL true q a) x y = up (goL true q a) u y }) [0,1,10] (fun u=>[(9,I u.1)]) [0] (fun u=>[]) (fun u=>y + 1 - u.1) (⟨x,by omega,by omega,rfl⟩) ?_ ?_
  ·skip
   simp only [keepS,keepE,Option.getD_some,lk_cons,lkE_cons,List.cons_append,List.nil_append,simprocAttr]
   refine Le.lit [] [] _ _ ?_ ?_ ?_ ?_
   ·simp only [zL,simprocAttr]
   ·simp only [zL,simprocAttr]
    all_goals (try (exact drows_nrow _))
   ·simp [rlook]
   ·first | (simp;done) | (intro k hk;simp [rlook];omega)
  rintro ⟨u,h1,h2,h3⟩
  simp only [keepS,keepE,Option.getD_some,lk_cons,lkE_cons,List.cons_append,List.nil_append,simprocAttr]
  simp only [zX]
  by_cases hg0 : u≤y
  ·skip
   refine aw_draw 480 (RG.go fun Q hQ=>?_)
   simp (disch:=first | (intros;contradiction) | omega | (simp only [zN];omega)) only [zS,zW,nrow,gI_get',simprocAttr]
   repeat refine ⟨by ((simp;omega)),?_⟩
   refine hQ ?_
   refine RG.callg _ _ [] rfl (fun hg=>⟨_,(cmp_Less64_con _ _),by (repeat' (first | exact tr_nil | refine tr_cons ?_ ?_ | exact tr_opt (by simpa using hg) tr_v)),trivial,by (exact .inl trivial)⟩) ?_
   refine RG.go fun Q hQ=>?_
   simp (disch:=intros;contradiction) only [zS,simprocAttr]
   refine hQ (RG.nil ⟨by decide +kernel,?_⟩)
   simp only [zX]
   refine aw_cond _ rfl trivial (fun ht=>?_) (fun hf=>?_)
   ·skip
    try simp at ht
    simp only [zX]
    refine aw_reg 752 (RG.go fun Q hQ=>?_)
    simp (disch:=first | (intros;contradiction) | omega | (simp only [zN];omega)) only [zS,zW,simprocAttr]
    refine hQ (RG.nil ?_)
    simp only [zX]
    refine ⟨⟨u + 1,by omega,by omega,by rw [h3,up_on hg0];rw [goT];have:=ht.2;simpa using this⟩,?_,by first | omega | (simp only;omega)⟩
    refine Le.lit [] [] _ _ ?_ ?_ ?_ ?_
    ·simp only [zL,simprocAttr]
     all_goals (try ((repeat' (rfl))))
    ·simp only [zL,simprocAttr]
     all_goals (try (exact drows_nrow _))
    ·simp [rlook]
    ·first | (simp;done) | (intro k hk;simp [rlook];omega)
   try simp at hf
   simp only [zX,↓reduceIte]
   refine ⟨⟨u,h1,h2,by rw [h3,up_off fun _=>by rw [goT];have:=hf (by omega);simpa using this]⟩,?_⟩
   simp only []
   refine Le.lit [] [] _ _ ?_ ?_ ?_ ?_
   ·simp only [zL,simprocAttr]
   ·simp only [zL,simprocAttr]
    all_goals (try (exact drows_nrow _))
   ·simp [rlook]
   ·first | (simp;done) | (intro k hk;simp [rlook];omega)
  refine aw_draw 832 (RG.go fun Q hQ=>?_)
  simp (disch:=first | (intros;contradiction) | omega | (simp only [zN];omega)) only [zS,zW,nrow,gI_get',simprocAttr]
  repeat refine ⟨by ((simp;omega)),?_⟩
  refine hQ ?_
  refine RG.callg (res:=B false) _ _ [] rfl (fun hg=>by simp at hg;omega) ?_
  refine RG.go fun Q hQ=>?_
  simp (disch:=intros;contradiction) only [zS,simprocAttr]
  refine hQ (RG.nil ⟨by decide +kernel,?_⟩)
  simp only [zX]
  refine aw_cond _ rfl trivial (fun ht=>by simp at ht <;> omega) (fun hf=>?_)
  simp only [zX,↓reduceIte]
  refine ⟨⟨u,h1,h2,by rw [h3,up_off fun h=>absurd h hg0]⟩,?_⟩
  simp only []
  refine Le.lit [] [] _ _ ?_ ?_ ?_ ?_
  ·simp only [zL,simprocAttr]
  ·simp only [zL,simprocAttr]
   all_goals (try (exact drows_nrow _))
  ·simp [rlook]
  ·first | (simp;done) | (intro k hk;simp [rlook];omega)
 rintro ⟨u,u1,u2,u3⟩
 simp only [keepS,keepE,Option.getD_some,lk_cons,lkE_cons,List.cons_append,List.nil_append,simprocAttr]
 refine aw_joinS (Y:={ v : Nat // v≤y∧u≤v + 1∧dn (fun k=>!goL true q a k) u y = v }) [0,1,9] (fun v=>[(10,I v.1)]) [0] (fun v=>[]) (by (repeat' (first | exact cl_fin | refine cl_then ?_ ?_ | refine cl_block ?_ | refine cl_loop ?_))) ?_ ?_
 ·skip
  simp only [zX]
  refine aw_loopK (X:={ v : Nat // v≤y∧u≤v + 1∧dn (fun k=>!goL true q a k) u y = dn (fun k=>!goL true q a k) u v }) [0,1,9] (fun v=>[(10,I v.1)]) [0] (fun v=>[]) (fun v=>v.1) (⟨y,by omega,by omega,rfl⟩) ?_ ?_
  ·skip
   simp only [keepS,keepE,Option.getD_some,lk_cons,lkE_cons,List.cons_append,List.nil_append,simprocAttr]
   refine Le.lit [] [] _ _ ?_ ?_ ?_ ?_
   ·simp only [zL,simprocAttr]
   ·simp only [zL,simprocAttr]
    all_goals (try (exact drows_nrow _))
   ·simp [rlook]
   ·first | (simp;done) | (intro k hk;simp [rlook];omega)
  rintro ⟨v,g1,g3,g4⟩
  simp only [keepS,keepE,Option.getD_some,lk_cons,lkE_cons,List.cons_append,List.nil_append,simprocAttr]
  simp only [zX]
  refine aw_draw 1104 (RG.go fun Q hQ=>?_)
  simp (disch:=first | (intros;contradiction) | omega | (simp only [zN];omega)) only [zS,zW,nrow,gI_get',simprocAttr]
  repeat refine ⟨by ((simp;omega)),?_⟩
  refine hQ ?_
  refine RG.callg _ _ [] rfl (fun hg=>⟨_,(cmp_Less64_con _ _),by (repeat' (first | exact tr_nil | refine tr_cons ?_ ?_ | exact tr_opt (by simpa using hg) tr_v)),trivial,by (exact .inl trivial)⟩) ?_
  refine RG.go fun Q hQ=>?_
  simp (disch:=intros;contradiction) only [zS,simprocAttr]
  refine hQ (RG.nil ⟨by decide +kernel,?_⟩)
  simp only [zX]
  refine aw_cond _ rfl trivial (fun ht=>?_) (fun hf=>?_)
  ·skip
   try simp at ht
   simp only [zX]
   refine aw_reg 1360 (RG.go fun Q hQ=>?_)
   simp (disch:=first | (intros;contradiction) | omega | (simp only [zN];omega)) only [zS,zW,simprocAttr]
   refine hQ (RG.nil ?_)
   simp only [zX]
   refine ⟨⟨v - 1,by omega,by omega,by rw [g4,dn_on (by omega) (by omega)];rw [goT];have:=ht.2;simpa using this⟩,?_,by first | omega | (simp only;omega)⟩
   refine Le.lit [] [] _ _ ?_ ?_ ?_ ?_
   ·simp only [zL,simprocAttr]
    all_goals (try ((repeat' ((congr 1;omega)))))
   ·simp only [zL,simprocAttr]
    all_goals (try (exact drows_nrow _))
   ·simp [rlook]
   ·first | (simp;done) | (intro k hk;simp [rlook];omega)
  try simp at hf
  simp only [zX,↓reduceIte]
  refine ⟨⟨v,g1,g3,by rw [g4,dn_off fun h=>by rw [goT];have:=hf (by omega);simpa using this]⟩,?_⟩
  simp only []
  refine Le.lit [] [] _ _ ?_ ?_ ?_ ?_
  ·simp only [zL,simprocAttr]
  ·simp only [zL,simprocAttr]
   all_goals (try (exact drows_nrow _))
  ·simp [rlook]
  ·first | (simp;done) | (intro k hk;simp [rlook];omega)
 rintro ⟨v,v1,v3,v4⟩
 simp only [keepS,keepE,Option.getD_some,lk_cons,lkE_cons,List.cons_append,List.nil_append,simprocAttr]
 simp only [zX]
 refine aw_reg 1440 (RG.go fun Q hQ=>?_)
 simp (disch:=intros;contradiction) only [zS,simprocAttr]
 refine hQ (RG.nil ?_)
 simp only [zX]
 refine aw_cond _ rfl trivial (fun ht=>?_) (fun hf=>?_)
 ·skip
  try simp at ht
  simp only [zX,simprocAttr]
  have hji : v < u:=by omega
  rw [partL_no u3 v4 hji] at k2
  rw [← k2]
  have huv : (u : Int) = (v : Int) + 1:=by omega
  rw [← huv]
  refine aw_reg 1520 (RG.go fun Q hQ=>?_)
  simp (disch:=intros;contradiction) only [zS,simprocAttr]
  refine hQ (RG.nil ?_)
  simp only [zX]
  refine Fin.objs [] [] (.inr rfl) rfl (by first | exact trivial | exact ⟨trivial,trivial⟩ | exact ⟨trivial,trivial,trivial⟩) ?_ ?_ (by simp [objL,rlook]) (by first | (simp [objL,rlook];done) | (intro k hk;simp [objL,rlook];omega))
  ·simp only [zL,simprocAttr]
  ·simp only [zL,simprocAttr]
   all_goals (try (exact drows_nrow _))
 try simp at hf
 simp only [zX]
 have hij : u≤v:=by omega
 have hij2:=up_lt_dn (by omega) k4 u3 v4 hij
 rw [partL_yes u3 v4 hij] at k2
 refine aw_draw 1584 (RG.go fun Q hQ=>?_)
 simp (disch:=first | (intros;contradiction) | omega | (simp only [zN];omega)) only [zS,zW,nrow,gI_get',set_nrow,swp_fold,simprocAttr]
 repeat refine ⟨by (omega),?_⟩
 refine hQ (RG.nil ⟨by decide +kernel,?_⟩)
 simp only [zX]
 refine aw_reg 1872 (RG.go fun Q hQ=>?_)
 simp (disch:=first | (intros;contradiction) | omega | (simp only [zN];omega)) only [zS,zW,simprocAttr]
 refine hQ (RG.nil ?_)
 simp only [zX]
 refine aw_reg 1952 (RG.go fun Q hQ=>?_)
 simp (disch:=first | (intros;contradiction) | omega | (simp only [zN];omega)) only [zS,zW,simprocAttr]
 refine hQ (RG.nil ?_)
 simp only [zX]
 refine ⟨⟨(swp q u v,u + 1,v - 1),by rw [swp_len];exact k1,k2,by simp only;omega,by simp only;omega,by simp only;omega⟩,?_,by first | omega | (simp only;omega)⟩
 refine Le.lit [] [] _ _ ?_ ?_ ?_ ?_
 ·simp only [zL,simprocAttr]
  all_goals (try ((repeat' (first | rfl | (congr 1;omega) | refine ⟨?_,?_⟩))))
 ·simp only [zL,simprocAttr]
  all_goals (try (exact drows_nrow _))
 ·simp [rlook]
 ·first | (simp;done) | (intro k hk;simp [rlook];omega)

end Go.Abs

namespace Go.Abs
open Go Go.Proofs
set_option maxRecDepth 100000
set_option linter.unusedSimpArgs false
set_option maxHeartbeats 4000000

theorem nextI_on {l : List Int} {i b : Nat} (h : i < b) (hf : ¬ gI l i < gI l (i - 1)) : nextI l i b = nextI l (i + 1) b:=by
 unfold nextI;exact up_on (by omega) (by simpa using hf)
theorem nextI_off {l : List Int} {i b : Nat} (hb : 0 < b) (h : i < b→gI l i < gI l (i - 1)) : nextI l i b = i:=by
 unfold nextI;exact up_off fun hh=>by simpa using h (by omega)
theorem shL_len : ∀ (j : Nat) (l : List Int),(shL l j).length = l.length
 | 0,l=>rfl
 | j + 1,l=>by unfold shL;split;rw [shL_len j,swp_len];rfl
theorem pis64_con (a b : Nat) (l : List Int) (hl : l.length≤1000000) (hab : a + 1 < b) (hb : b≤l.length) :
  Con Try.prog 97 [.c (.osl 0),I a,I b] [arrI 2 l] (B (pis a b 5 l (a + 1)).2) [arrI 2 (pis a b 5 l (a + 1)).1]:=by
 obtain ⟨R,hR⟩ : ∃ R,R = pis a b 5 l (a + 1):=⟨_,rfl⟩
 rw [← hR]
 refine C_slices_partialInsertionSortOrdered_int64 (Nat.le_of_ble_eq_true rfl) (Nat.le_of_ble_eq_true rfl) ?_
 simp only [cz,A_slices_partialInsertionSortOrdered_int64,argL,objL,List.length_nil,List.length_cons,Nat.zero_add,zX,simprocAttr]
 refine aw_reg 16 (RG.go fun Q hQ=>?_)
 simp (disch:=intros;contradiction) only [zS,simprocAttr]
 refine hQ (RG.nil ?_)
 simp only [zX]
 refine aw_reg 64 (RG.go fun Q hQ=>?_)
 simp (disch:=first | (intros;contradiction) | omega | (simp only [zN];omega)) only [zS,zW,simprocAttr]
 refine hQ (RG.nil ?_)
 simp only [zX]
 refine aw_reg 144 (RG.go fun Q hQ=>?_)
 simp (disch:=intros;contradiction) only [zS,simprocAttr]
 refine hQ (RG.nil ?_)
 simp only [zX]
 refine aw_loopK (X:={ p : List Int × Nat × Nat // p.1.length = l.length∧pis a b p.2.2 p.1 p.2.1 = R∧a < p.2.1∧p.2.1≤b∧p.2.2≤5 }) [0,1,2] (fun p=>[(7,I p.1.2.1),(8,I (5 - (p.1.2.2 : Int)))]) [] (fun p=>[(0,arrI 2 p.1.1)]) (fun p=>p.1.2.2) (⟨(l,a + 1,5),rfl,hR.symm,by simp only;omega,by simp only;omega,by simp only;omega⟩) ?_ ?_
 ·skip
  simp only [keepS,keepE,lk_cons,List.cons_append,List.nil_append,simprocAttr]
  refine Le.lit [] [] _ _ ?_ ?_ ?_ ?_
  ·simp only [zL,simprocAttr]
   all_goals (try ((repeat' ((simp;done)))))
  ·simp only [zL,simprocAttr]
   all_goals (try (exact drows_nrow _))
  ·simp [rlook]
  ·first | (simp;done) | (intro k hk;simp [rlook];omega)
 rintro ⟨⟨m,i,n⟩,h1,h2,h3,h4,h5⟩
 simp only [keepS,keepE,lk_cons,List.cons_append,List.nil_append,simprocAttr]
 simp only [zX]
 simp only at h1 h2 h3 h4 h5
 refine aw_reg 192 (RG.go fun Q hQ=>?_)
 simp (disch:=intros;contradiction) only [zS,simprocAttr]
 refine hQ (RG.nil ?_)
 simp only [zX]
 refine aw_cond _ rfl trivial (fun ht=>?_) (fun hf=>?_)
 rotate_left
 ·skip
  try simp at hf
  simp only [zX,↓reduceIte]
  obtain rfl : n = 0:=by omega
  refine aw_reg 256 (RG.go fun Q hQ=>?_)
  simp (disch:=intros;contradiction) only [zS,simprocAttr]
  refine hQ (RG.nil ?_)
  simp only [zX]
  rw [← h2]
  unfold pis
  refine Fin.objs [] [] (.inr rfl) rfl (by first | exact trivial | exact ⟨trivial,trivial⟩ | exact ⟨trivial,trivial,trivial⟩) ?_ ?_ (by simp [objL,rlook]) (by first | (simp [objL,rlook];done) | (intro k hk;simp [objL,rlook];omega))
  ·simp only [zL,simprocAttr]
  ·simp only [zL,simprocAttr]
   all_goals (try (exact drows_nrow _))
 try simp at ht
 simp only [zY]
 obtain ⟨n,rfl⟩ : ∃ k,n = k + 1:=⟨n - 1,by omega⟩
 refine aw_seq ?_
 refine aw_block ?_
 refine aw_joinS (Y:={ u : Nat // i≤u∧u≤b∧nextI m i b = u∧(u < b→gI m u < gI m (u - 1)) }) [0,1,2,8] (fun u=>[(7,I u.1)]) [0] (fun u=>[]) (by (repeat' (first | exact cl_fin | refine cl_then ?_ ?_ | refine cl_block ?_ | refine cl_loop ?_))) ?_ ?_
 ·skip
  simp only [zX]
  refine aw_loopK (X:={ u : Nat // i≤u∧u≤b∧nextI m i b = nextI m u b }) [0,1,2,8] (fun u=>[(7,I u.1)]) [0] (fun u=>[]) (fun u=>b - u.1) (⟨i,by omega,h4,rfl⟩) ?_ ?_
  ·skip
   simp only [keepS,keepE,Option.getD_some,lk_cons,lkE_cons,List.cons_append,List.nil_append,simprocAttr]
   refine Le.lit [] [] _ _ ?_ ?_ ?_ ?_
   ·simp only [zL,simprocAttr]
   ·simp only [zL,simprocAttr]
    all_goals (try (exact drows_nrow _))
   ·simp [rlook]
   ·first | (simp;done) | (intro k hk;simp [rlook];omega)
  rintro ⟨u,g1,g2,g3⟩
  simp only [keepS,keepE,Option.getD_some,lk_cons,lkE_cons,List.cons_append,List.nil_append,simprocAttr]
  simp only [zX]
  by_cases hg0 : u < b
  ·skip
   refine aw_draw 304 (RG.go fun Q hQ=>?_)
   simp (disch:=first | (intros;contradiction) | omega | (simp only [zN];omega)) only [zS,zW,nrow,gI_get',simprocAttr]
   repeat refine ⟨by ((simp;omega)),?_⟩
   refine hQ ?_
   refine RG.callg _ _ [] rfl (fun hg=>⟨_,(cmp_Less64_con _ _),by (repeat' (first | exact tr_nil | refine tr_cons ?_ ?_ | exact tr_opt (by simpa using hg) tr_v)),trivial,by (exact .inl trivial)⟩) ?_
   refine RG.go fun Q hQ=>?_
   simp (disch:=intros;contradiction) only [zS,simprocAttr]
   refine hQ (RG.nil ⟨by decide +kernel,?_⟩)
   simp only [zX]
   refine aw_cond _ rfl trivial (fun ht=>?_) (fun hf=>?_)
   ·skip
    try simp at ht
    simp only [zX]
    refine aw_reg 592 (RG.go fun Q hQ=>?_)
    simp (disch:=first | (intros;contradiction) | omega | (simp only [zN];omega)) only [zS,zW,simprocAttr]
    refine hQ (RG.nil ?_)
    simp only [zX]
    refine ⟨⟨u + 1,by omega,by omega,by rw [g3,nextI_on hg0];have:=ht.2;omega⟩,?_,by first | omega | (simp only;omega)⟩
    refine Le.lit [] [] _ _ ?_ ?_ ?_ ?_
    ·simp only [zL,simprocAttr]
     all_goals (try ((repeat' (rfl))))
    ·simp only [zL,simprocAttr]
     all_goals (try (exact drows_nrow _))
    ·simp [rlook]
    ·first | (simp;done) | (intro k hk;simp [rlook];omega)
   try simp at hf
   simp only [zX,↓reduceIte]
   have hlt:=hf (by omega)
   refine ⟨⟨u,g1,g2,by rw [g3,nextI_off (by omega) fun _=>hlt],fun _=>hlt⟩,?_⟩
   simp only []
   refine Le.lit [] [] _ _ ?_ ?_ ?_ ?_
   ·simp only [zL,simprocAttr]
   ·simp only [zL,simprocAttr]
    all_goals (try (exact drows_nrow _))
   ·simp [rlook]
   ·first | (simp;done) | (intro k hk;simp [rlook];omega)
  refine aw_draw 672 (RG.go fun Q hQ=>?_)
  simp (disch:=first | (intros;contradiction) | omega | (simp only [zN];omega)) only [zS,zW,nrow,gI_get',simprocAttr]
  repeat refine ⟨by ((simp;omega)),?_⟩
  refine hQ ?_
  refine RG.callg (res:=B false) _ _ [] rfl (fun hg=>by simp at hg;omega) ?_
  refine RG.go fun Q hQ=>?_
  simp (disch:=intros;contradiction) only [zS,simprocAttr]
  refine hQ (RG.nil ⟨by decide +kernel,?_⟩)
  simp only [zX]
  refine aw_cond _ rfl trivial (fun ht=>by simp at ht <;> omega) (fun hf=>?_)
  simp only [zX,↓reduceIte]
  refine ⟨⟨u,g1,g2,by rw [g3,nextI_off (by omega) fun h=>absurd h hg0],fun h=>absurd h hg0⟩,?_⟩
  simp only []
  refine Le.lit [] [] _ _ ?_ ?_ ?_ ?_
  ·simp only [zL,simprocAttr]
  ·simp only [zL,simprocAttr]
   all_goals (try (exact drows_nrow _))
  ·simp [rlook]
  ·first | (simp;done) | (intro k hk;simp [rlook];omega)
 rintro ⟨u,g1,g2,g3,g4⟩
 simp only [keepS,keepE,Option.getD_some,lk_cons,lkE_cons,List.cons_append,List.nil_append,simprocAttr]
 simp only [zX]
 unfold pis at h2
 rw [g3] at h2
 refine aw_reg 960 (RG.go fun Q hQ=>?_)
 simp (disch:=intros;contradiction) only [zS,simprocAttr]
 refine hQ (RG.nil ?_)
 simp only [zX]
 refine aw_cond _ rfl trivial (fun ht=>?_) (fun hf=>?_)
 ·skip
  try simp at ht
  simp only [zX]
  obtain rfl : u = b:=by omega
  rw [if_pos rfl] at h2
  refine aw_reg 1040 (RG.go fun Q hQ=>?_)
  simp (disch:=intros;contradiction) only [zS,simprocAttr]
  refine hQ (RG.nil ?_)
  simp only [zX]
  rw [← h2]
  refine Fin.objs [] [] (.inr rfl) rfl (by first | exact trivial | exact ⟨trivial,trivial⟩ | exact ⟨trivial,trivial,trivial⟩) ?_ ?_ (by simp [objL,rlook]) (by first | (simp [objL,rlook];done) | (intro k hk;simp [objL,rlook];omega))
  ·simp only [zL,simprocAttr]
  ·simp only [zL,simprocAttr]
   all_goals (try (exact drows_nrow _))
 try simp at hf
 simp only [zX]
 rw [if_neg (by omega)] at h2
 refine aw_reg 1088 (RG.go fun Q hQ=>?_)
 simp (disch:=first | (intros;contradiction) | omega | (simp only [zN];omega)) only [zS,zW,simprocAttr]
 refine hQ (RG.nil ?_)
 simp only [zX]
 refine aw_cond _ rfl trivial (fun ht=>?_) (fun hf=>?_)
 ·skip
  try simp at ht
  simp only [zX]
  rw [if_pos (by omega)] at h2
  refine aw_reg 1184 (RG.go fun Q hQ=>?_)
  simp (disch:=intros;contradiction) only [zS,simprocAttr]
  refine hQ (RG.nil ?_)
  simp only [zX]
  rw [← h2]
  refine Fin.objs [] [] (.inr rfl) rfl (by first | exact trivial | exact ⟨trivial,trivial⟩ | exact ⟨trivial,trivial,trivial⟩) ?_ ?_ (by simp [objL,rlook]) (by first | (simp [objL,rlook];done) | (intro k hk;simp [objL,rlook];omega))
  ·simp only [zL,simprocAttr]
  ·simp only [zL,simprocAttr]
   all_goals (try (exact drows_nrow _))
 try simp at hf
 simp only [zX]
 rw [if_neg (by omega)] at h2
 refine aw_draw 1232 (RG.go fun Q hQ=>?_)
 simp (disch:=first | (intros;contradiction) | omega | (simp only [zN];omega)) only [zS,zW,nrow,gI_get',set_nrow,swp_fold,simprocAttr]
 repeat refine ⟨by (omega),?_⟩
 refine hQ (RG.nil ⟨by decide +kernel,?_⟩)
 simp only [zY]
 refine aw_joinS (Y:=Unit) [0,1,2,7,8] (fun z=>[]) [] (fun z=>[(0,arrI 2 (pisL a b m u))]) (by (repeat' (first | exact cl_fin | refine cl_then ?_ ?_ | refine cl_block ?_ | refine cl_loop ?_))) ?_ ?_
 ·skip
  simp only [zX]
  refine aw_reg 1552 (RG.go fun Q hQ=>?_)
  simp (disch:=first | (intros;contradiction) | omega | (simp only [zN];omega)) only [zS,zW,simprocAttr]
  refine hQ (RG.nil ?_)
  simp only [zX]
  refine aw_cond _ rfl trivial (fun ht=>?_) (fun hf=>?_)
  ·skip
   try simp at ht
   simp only [zX]
   have hp : pisL a b m u = shL (swp m u (u - 1)) (u - 1):=by unfold pisL;rw [if_pos (by omega)]
   rw [hp]
   refine aw_reg 1648 (RG.go fun Q hQ=>?_)
   simp (disch:=first | (intros;contradiction) | omega | (simp only [zN];omega)) only [zS,zW,simprocAttr]
   refine hQ (RG.nil ?_)
   simp only [zX]
   refine aw_loopK (X:={ p : List Int × Nat // p.1.length = l.length∧shL p.1 p.2 = shL (swp m u (u - 1)) (u - 1)∧p.2 < b }) [0,1,2,7,8] (fun p=>[(9,I p.1.2)]) [] (fun p=>[(0,arrI 2 p.1.1)]) (fun p=>p.1.2) (⟨(swp m u (u - 1),u - 1),by simp only;rw [swp_len];exact h1,rfl,by simp only;omega⟩) ?_ ?_
   ·skip
    simp only [keepS,keepE,lk_cons,List.cons_append,List.nil_append,simprocAttr]
    refine Le.lit [] [] _ _ ?_ ?_ ?_ ?_
    ·simp only [zL,simprocAttr]
     all_goals (try ((repeat' ((congr 1;omega)))))
    ·simp only [zL,simprocAttr]
     all_goals (try (exact drows_nrow _))
    ·simp [rlook]
    ·first | (simp;done) | (intro k hk;simp [rlook];omega)
   rintro ⟨⟨q,j⟩,k1,k2,k3⟩
   simp only [keepS,keepE,lk_cons,List.cons_append,List.nil_append,simprocAttr]
   simp only [zX]
   simp only at k1 k2 k3
   refine aw_reg 1728 (RG.go fun Q hQ=>?_)
   simp (disch:=intros;contradiction) only [zS,simprocAttr]
   refine hQ (RG.nil ?_)
   simp only [zX]
   refine aw_cond _ rfl trivial (fun ht=>?_) (fun hf=>?_)
   rotate_left
   ·skip
    try simp at hf
    simp only [zX,↓reduceIte]
    obtain rfl : j = 0:=by omega
    rw [← k2]
    refine ⟨(),?_⟩
    refine Le.lit [] [] _ _ ?_ ?_ ?_ ?_
    ·simp only [zL,simprocAttr]
    ·simp only [zL,simprocAttr]
     all_goals (try ((repeat' (first | (exact drows_nrow _) | rfl | refine ⟨?_,?_⟩))))
    ·simp [rlook]
    ·first | (simp;done) | (intro k hk;simp [rlook];omega)
   try simp at ht
   simp only [zX]
   obtain ⟨j,rfl⟩ : ∃ k,j = k + 1:=⟨j - 1,by omega⟩
   refine aw_draw 1792 (RG.go fun Q hQ=>?_)
   simp (disch:=first | (intros;contradiction) | omega | (simp only [zN];omega)) only [zS,zW,nrow,gI_get',simprocAttr]
   repeat refine ⟨by (omega),?_⟩
   refine hQ ?_
   refine RG.call [] (cmp_Less64_con _ _) (by (repeat' (first | exact tr_nil | refine tr_cons ?_ ?_ | exact tr_v))) trivial (by (exact .inl trivial)) ?_
   refine RG.go fun Q hQ=>?_
   simp (disch:=intros;contradiction) only [zS,simprocAttr]
   refine hQ (RG.nil ⟨by decide +kernel,?_⟩)
   simp only [zX]
   refine aw_cond _ rfl trivial (fun ht=>?_) (fun hf=>?_)
   ·skip
    try simp at ht
    simp only [zX,simprocAttr]
    rw [← k2,show shL q (j + 1) = q from by unfold shL;rw [if_neg (by simpa using ht)]]
    refine ⟨(),?_⟩
    refine Le.lit [] [] _ _ ?_ ?_ ?_ ?_
    ·simp only [zL,simprocAttr]
    ·simp only [zL,simprocAttr]
     all_goals (try (exact drows_nrow _))
    ·simp [rlook]
    ·first | (simp;done) | (intro k hk;simp [rlook];omega)
   try simp at hf
   simp only [zX]
   have hk : shL q (j + 1) = shL (swp q (j + 1) j) j:=by rw [shL,if_pos (by simpa using hf)]
   refine aw_draw 2000 (RG.go fun Q hQ=>?_)
   simp (disch:=first | (intros;contradiction) | omega | (simp only [zN];omega)) only [zS,zW,nrow,gI_get',set_nrow,swp_fold,simprocAttr]
   repeat refine ⟨by (omega),?_⟩
   refine hQ (RG.nil ⟨by decide +kernel,?_⟩)
   simp only [zX]
   refine aw_reg 2320 (RG.go fun Q hQ=>?_)
   simp (disch:=first | (intros;contradiction) | omega | (simp only [zN];omega)) only [zS,zW,simprocAttr]
   refine hQ (RG.nil ?_)
   simp only [zX]
   refine ⟨⟨(swp q (j + 1) j,j),by simp only;rw [swp_len];exact k1,by rw [← k2,hk],by simp only;omega⟩,?_,by first | omega | (simp only;omega)⟩
   refine Le.lit [] [] _ _ ?_ ?_ ?_ ?_
   ·simp only [zL,simprocAttr]
    all_goals (try ((repeat' ((congr 1;omega)))))
   ·simp only [zL,simprocAttr]
    all_goals (try ((repeat' (first | (first | exact drows_nrow _ | (simp [C.isD];done)) | refine ⟨?_,?_⟩))))
   ·simp [rlook]
   ·first | (simp;done) | (intro k hk;simp [rlook];omega)
  try simp at hf
  simp only [zX]
  have hp : pisL a b m u = swp m u (u - 1):=by unfold pisL;rw [if_neg (by omega)]
  rw [hp]
  refine ⟨(),?_⟩
  simp only [keepS,keepE,lk_cons,List.cons_append,List.nil_append,simprocAttr]
  refine Le.lit [] [] _ _ ?_ ?_ ?_ ?_
  ·simp only [zL,simprocAttr]
  ·simp only [zL,simprocAttr]
   all_goals (try (exact drows_nrow _))
  ·simp [rlook]
  ·first | (simp;done) | (intro k hk;simp [rlook];omega)
 rintro ⟨⟩
 simp only [keepS,keepE,lk_cons,List.cons_append,List.nil_append,simprocAttr]
 simp only [zX]
 have hLl : (pisL a b m u).length = l.length:=by unfold pisL;split <;> simp [shL_len,swp_len,h1]
 refine aw_reg 2400 (RG.go fun Q hQ=>?_)
 simp (disch:=first | (intros;contradiction) | omega | (simp only [zN];omega)) only [zS,zW,simprocAttr]
 refine hQ (RG.nil ?_)
 simp only [zX]
 refine aw_cond _ rfl trivial (fun ht=>?_) (fun hf=>?_)
 ·skip
  try simp at ht
  simp only [zX]
  have hp : pisR a b m u = shR b (pisL a b m u) (u + 1):=by unfold pisR;rw [if_pos (by omega)]
  refine aw_reg 2496 (RG.go fun Q hQ=>?_)
  simp (disch:=first | (intros;contradiction) | omega | (simp only [zN];omega)) only [zS,zW,simprocAttr]
  refine hQ (RG.nil ?_)
  simp only [zX]
  refine aw_loopK (X:={ p : List Int × Nat // p.1.length = l.length∧shR b p.1 p.2 = pisR a b m u∧0 < p.2∧p.2≤b }) [0,1,2,7,8] (fun p=>[(10,I p.1.2)]) [] (fun p=>[(0,arrI 2 p.1.1)]) (fun p=>b - p.1.2) (⟨(pisL a b m u,u + 1),hLl,hp.symm,by simp only;omega,by simp only;omega⟩) ?_ ?_
  ·skip
   simp only [keepS,keepE,lk_cons,List.cons_append,List.nil_append,simprocAttr]
   refine Le.lit [] [] _ _ ?_ ?_ ?_ ?_
   ·simp only [zL,simprocAttr]
    all_goals (try ((repeat' (rfl))))
   ·simp only [zL,simprocAttr]
    all_goals (try (exact drows_nrow _))
   ·simp [rlook]
   ·first | (simp;done) | (intro k hk;simp [rlook];omega)
  rintro ⟨⟨q,j⟩,k1,k2,k3,k4⟩
  simp only [keepS,keepE,lk_cons,List.cons_append,List.nil_append,simprocAttr]
  simp only [zX]
  simp only at k1 k2 k3 k4
  refine aw_reg 2576 (RG.go fun Q hQ=>?_)
  simp (disch:=intros;contradiction) only [zS,simprocAttr]
  refine hQ (RG.nil ?_)
  simp only [zX]
  refine aw_cond _ rfl trivial (fun ht=>?_) (fun hf=>?_)
  rotate_left
  ·skip
   try simp at hf
   simp only [zX,↓reduceIte]
   rw [show shR b q j = q from by rw [shR,if_neg (by omega)]] at k2
   refine aw_reg 2656 (RG.go fun Q hQ=>?_)
   simp (disch:=first | (intros;contradiction) | omega | (simp only [zN];omega)) only [zS,zW,simprocAttr]
   refine hQ (RG.nil ?_)
   simp only [zX]
   refine ⟨⟨(q,u,n),by simp only;exact k1,by rw [← h2,k2],by simp only;omega,by simp only;omega,by simp only;omega⟩,?_,by first | omega | (simp only;omega)⟩
   refine Le.lit [] [] _ _ ?_ ?_ ?_ ?_
   ·simp only [zL,simprocAttr]
    all_goals (try ((repeat' ((congr 1;omega)))))
   ·simp only [zL,simprocAttr]
    all_goals (try (exact drows_nrow _))
   ·simp [rlook]
   ·first | (simp;done) | (intro k hk;simp [rlook];omega)
  try simp at ht
  simp only [zX]
  refine aw_draw 2736 (RG.go fun Q hQ=>?_)
  simp (disch:=first | (intros;contradiction) | omega | (simp only [zN];omega)) only [zS,zW,nrow,gI_get',simprocAttr]
  repeat refine ⟨by (omega),?_⟩
  refine hQ ?_
  refine RG.call [] (cmp_Less64_con _ _) (by (repeat' (first | exact tr_nil | refine tr_cons ?_ ?_ | exact tr_v))) trivial (by (exact .inl trivial)) ?_
  refine RG.go fun Q hQ=>?_
  simp (disch:=intros;contradiction) only [zS,simprocAttr]
  refine hQ (RG.nil ⟨by decide +kernel,?_⟩)
  simp only [zX]
  refine aw_cond _ rfl trivial (fun ht=>?_) (fun hf=>?_)
  ·skip
   try simp at ht
   simp only [zX,simprocAttr]
   rw [show shR b q j = q from by rw [shR,if_neg (by omega)]] at k2
   refine aw_reg 2944 (RG.go fun Q hQ=>?_)
   simp (disch:=first | (intros;contradiction) | omega | (simp only [zN];omega)) only [zS,zW,simprocAttr]
   refine hQ (RG.nil ?_)
   simp only [zX]
   refine ⟨⟨(q,u,n),by simp only;exact k1,by rw [← h2,k2],by simp only;omega,by simp only;omega,by simp only;omega⟩,?_,by first | omega | (simp only;omega)⟩
   refine Le.lit [] [] _ _ ?_ ?_ ?_ ?_
   ·simp only [zL,simprocAttr]
    all_goals (try ((repeat' ((congr 1;omega)))))
   ·simp only [zL,simprocAttr]
    all_goals (try (exact drows_nrow _))
   ·simp [rlook]
   ·first | (simp;done) | (intro k hk;simp [rlook];omega)
  try simp at hf
  simp only [zX]
  have hk : shR b q j = shR b (swp q j (j - 1)) (j + 1):=by rw [shR,if_pos ⟨by omega,hf⟩]
  refine aw_draw 3024 (RG.go fun Q hQ=>?_)
  simp (disch:=first | (intros;contradiction) | omega | (simp only [zN];omega)) only [zS,zW,nrow,gI_get',set_nrow,swp_fold,simprocAttr]
  repeat refine ⟨by (omega),?_⟩
  refine hQ (RG.nil ⟨by decide +kernel,?_⟩)
  simp only [zX]
  refine aw_reg 3344 (RG.go fun Q hQ=>?_)
  simp (disch:=first | (intros;contradiction) | omega | (simp only [zN];omega)) only [zS,zW,simprocAttr]
  refine hQ (RG.nil ?_)
  simp only [zX]
  refine ⟨⟨(swp q j (j - 1),j + 1),by simp only;rw [swp_len];exact k1,by rw [← k2,hk],by simp only;omega,by simp only;omega⟩,?_,by first | omega | (simp only;omega)⟩
  refine Le.lit [] [] _ _ ?_ ?_ ?_ ?_
  ·simp only [zL,simprocAttr]
   all_goals (try ((repeat' (rfl))))
  ·simp only [zL,simprocAttr]
   all_goals (try (exact drows_nrow _))
  ·simp [rlook]
  ·first | (simp;done) | (intro k hk;simp [rlook];omega)
 try simp at hf
 simp only [zX]
 have hp : pisR a b m u = pisL a b m u:=by unfold pisR;rw [if_neg (by omega)]
 rw [hp] at h2
 refine aw_reg 3424 (RG.go fun Q hQ=>?_)
 simp (disch:=first | (intros;contradiction) | omega | (simp only [zN];omega)) only [zS,zW,simprocAttr]
 refine hQ (RG.nil ?_)
 simp only [zX]
 refine ⟨⟨(pisL a b m u,u,n),by simp only;exact hLl,h2,by simp only;omega,by simp only;omega,by simp only;omega⟩,?_,by first | omega | (simp only;omega)⟩
 refine Le.lit [] [] _ _ ?_ ?_ ?_ ?_
 ·simp only [zL,simprocAttr]
  all_goals (try ((repeat' ((congr 1;omega)))))
 ·simp only [zL,simprocAttr]
  all_goals (try (exact drows_nrow _))
 ·simp [rlook]
 ·first | (simp;done) | (intro k hk;simp [rlook];omega)

theorem rev64_con (a b : Nat) (l : List Int) (hl : l.length≤1000000) (hab : a < b) (hb : b≤l.length) :
  Con Try.prog 96 [.c (.osl 0),I a,I b] [arrI 2 l] (.tup []) [arrI 2 (revL l a (b - 1))]:=by
 have e1 : (b : Int) - 1 = ((b - 1 : Nat) : Int):=by omega
 refine C_slices_reverseRangeOrdered_int64 (Nat.le_of_ble_eq_true rfl) (Nat.le_of_ble_eq_true rfl) ?_
 simp only [cz,A_slices_reverseRangeOrdered_int64,argL,objL,List.length_nil,List.length_cons,Nat.zero_add,zX,simprocAttr]
 refine aw_reg 16 (RG.go fun Q hQ=>?_)
 simp (disch:=intros;contradiction) only [zS,simprocAttr]
 refine hQ (RG.nil ?_)
 simp only [zX]
 refine aw_reg 80 (RG.go fun Q hQ=>?_)
 simp (disch:=first | (intros;contradiction) | omega | (simp only [zN];omega)) only [zS,zW,e1,simprocAttr]
 refine hQ (RG.nil ?_)
 simp only [zX]
 refine aw_loopK (X:={ p : List Int × Nat × Nat // p.1.length = l.length∧revL p.1 p.2.1 p.2.2 = revL l a (b - 1)∧p.2.1 < b∧p.2.2 < b }) [0] (fun p=>[(6,I p.1.2.1),(7,I p.1.2.2)]) [] (fun p=>[(0,arrI 2 p.1.1)]) (fun p=>p.1.2.2 - p.1.2.1) (⟨(l,a,b - 1),rfl,rfl,hab,by simp only;omega⟩) ?_ ?_
 ·skip
  simp only [keepS,keepE,lk_cons,List.cons_append,List.nil_append,↓reduceIte]
  refine Le.lit [] [] _ _ ?_ ?_ ?_ ?_
  ·simp only [zL,simprocAttr]
  ·simp only [zL,simprocAttr]
   all_goals (try (exact drows_nrow _))
  ·simp [rlook]
  ·first | (simp;done) | (intro k hk;simp [rlook];omega)
 rintro ⟨⟨m,i,j⟩,h1,h2,h3,h4⟩
 simp only [keepS,keepE,lk_cons,List.cons_append,List.nil_append,↓reduceIte]
 simp only [zX]
 simp only at h1 h2 h3 h4
 refine aw_reg 160 (RG.go fun Q hQ=>?_)
 simp (disch:=intros;contradiction) only [zS,simprocAttr]
 refine hQ (RG.nil ?_)
 simp only [zX]
 refine aw_cond _ rfl trivial (fun ht=>?_) (fun hf=>?_)
 ·skip
  try simp at ht
  simp only [zX]
  have hk : revL m i j = revL (swp m i j) (i + 1) (j - 1):=by rw [revL,if_pos (by omega)]
  refine aw_draw 240 (RG.go fun Q hQ=>?_)
  simp (disch:=first | (intros;contradiction) | omega | (simp only [zN];omega)) only [zS,zW,nrow,gI_get',set_nrow,swp_fold,simprocAttr]
  repeat refine ⟨by (omega),?_⟩
  refine hQ (RG.nil ⟨by decide +kernel,?_⟩)
  simp only [zX]
  refine aw_reg 528 (RG.go fun Q hQ=>?_)
  simp (disch:=first | (intros;contradiction) | omega | (simp only [zN];omega)) only [zS,zW,simprocAttr]
  refine hQ (RG.nil ?_)
  simp only [zX]
  refine aw_reg 608 (RG.go fun Q hQ=>?_)
  simp (disch:=first | (intros;contradiction) | omega | (simp only [zN];omega)) only [zS,zW,simprocAttr]
  refine hQ (RG.nil ?_)
  simp only [zX]
  refine ⟨⟨(swp m i j,i + 1,j - 1),by simp only;rw [swp_len];exact h1,by rw [← h2,hk],by simp only;omega,by simp only;omega⟩,?_,by first | omega | (simp only;omega)⟩
  refine Le.lit [] [] _ _ ?_ ?_ ?_ ?_
  ·simp only [zL,simprocAttr]
   all_goals (try ((repeat' (first | rfl | (congr 1;omega) | refine ⟨?_,?_⟩))))
  ·simp only [zL,simprocAttr]
   all_goals (try (exact drows_nrow _))
  ·simp [rlook]
  ·first | (simp;done) | (intro k hk;simp [rlook];omega)
 try simp at hf
 simp only [zX,↓reduceIte]
 rw [← h2,revL,if_neg (by omega)]
 refine Fin.objs [] [] (.inl rfl) rfl (by first | exact trivial | exact ⟨trivial,trivial⟩ | exact ⟨trivial,trivial,trivial⟩) ?_ ?_ (by simp [objL,rlook]) (by first | (simp [objL,rlook];done) | (intro k hk;simp [objL,rlook];omega))
 ·simp only [zL]
 ·simp only [zL,simprocAttr]
  all_goals (try (exact drows_nrow _))

theorem ord264_con (l : List Int) (a b s : Nat) (hl : l.length≤1000000) (ha : a < l.length) (hb : b < l.length) (hs : s≤1000) :
  Con Try.prog 111 [.c (.osl 0),I a,I b,.c (.bp 1 0)] [arrI 2 l,.box [.v (.int .i64 s)]] (.tup [I (ord2 l a b s).1,I (ord2 l a b s).2.1]) [arrI 2 l,.box [.v (.int .i64 (ord2 l a b s).2.2)]]:=by
 refine C_slices_order2Ordered_int64 (Nat.le_of_ble_eq_true rfl) (Nat.le_of_ble_eq_true rfl) ?_
 simp only [cz,A_slices_order2Ordered_int64,argL,objL,List.length_nil,List.length_cons,Nat.zero_add,zX,simprocAttr]
 refine aw_reg 16 (RG.go fun Q hQ=>?_)
 simp (disch:=intros;contradiction) only [zS,simprocAttr]
 refine hQ (RG.nil ?_)
 simp only [zX]
 refine aw_draw 80 (RG.go fun Q hQ=>?_)
 simp (disch:=first | (intros;contradiction) | omega | (simp only [zN];omega)) only [zS,zW,nrow,gI_get',simprocAttr]
 repeat refine ⟨by (omega),?_⟩
 refine hQ ?_
 refine RG.call [] (cmp_Less64_con _ _) (by (repeat' (first | exact tr_nil | refine tr_cons ?_ ?_ | exact tr_v))) trivial (by (exact .inl trivial)) ?_
 refine RG.go fun Q hQ=>?_
 simp (disch:=intros;contradiction) only [zS,simprocAttr]
 refine hQ (RG.nil ⟨by decide +kernel,?_⟩)
 simp only [zX]
 refine aw_cond _ rfl trivial (fun ht=>?_) (fun hf=>?_)
 ·skip
  try simp at ht
  simp only [zX]
  rw [show ord2 l a b s = (b,a,s + 1) from by unfold ord2;rw [if_pos ht]]
  refine aw_reg 256 (RG.go fun Q hQ=>?_)
  simp (disch:=first | (intros;contradiction) | omega | (simp only [zN];omega)) only [zS,zW,simprocAttr]
  refine hQ (RG.nil ?_)
  simp only [zX]
  refine aw_reg 384 (RG.go fun Q hQ=>?_)
  simp (disch:=intros;contradiction) only [zS,simprocAttr]
  refine hQ (RG.nil ?_)
  simp only [zX]
  refine Fin.objs [] [] (.inr rfl) rfl (by first | exact trivial | exact ⟨trivial,trivial⟩ | exact ⟨trivial,trivial,trivial⟩) ?_ ?_ (by simp [objL,rlook]) (by first | (simp [objL,rlook];done) | (intro k hk;simp [objL,rlook];omega))
  ·simp only [zL,simprocAttr]
  ·simp only [zL,simprocAttr]
   all_goals (try ((repeat' (first | (first | exact drows_nrow _ | (simp [C.isD];done)) | refine ⟨?_,?_⟩))))
 try simp at hf
 simp only [zX]
 rw [show ord2 l a b s = (a,b,s) from by unfold ord2;rw [if_neg (by omega)]]
 refine aw_reg 480 (RG.go fun Q hQ=>?_)
 simp (disch:=intros;contradiction) only [zS,simprocAttr]
 refine hQ (RG.nil ?_)
 simp only [zX]
 refine Fin.objs [] [] (.inr rfl) rfl (by first | exact trivial | exact ⟨trivial,trivial⟩ | exact ⟨trivial,trivial,trivial⟩) ?_ ?_ (by simp [objL,rlook]) (by first | (simp [objL,rlook];done) | (intro k hk;simp [objL,rlook];omega))
 ·simp only [zL,simprocAttr]
 ·simp only [zL,simprocAttr]
  all_goals (try (exact drows_nrow _))

theorem med64_con (l : List Int) (a b c s : Nat) (hl : l.length≤1000000) (ha : a < l.length) (hb : b < l.length) (hc : c < l.length) (hs : s≤900) :
  Con Try.prog 109 [.c (.osl 0),I a,I b,I c,.c (.bp 1 0)] [arrI 2 l,.box [.v (.int .i64 s)]] (I (med3 l a b c s).1) [arrI 2 l,.box [.v (.int .i64 (med3 l a b c s).2)]]:=by
 obtain ⟨x,hx⟩ : ∃ x,x = ord2 l a b s:=⟨_,rfl⟩
 obtain ⟨y,hy⟩ : ∃ y,y = ord2 l x.2.1 c x.2.2:=⟨_,rfl⟩
 obtain ⟨z,hz⟩ : ∃ z,z = ord2 l x.1 y.1 y.2.2:=⟨_,rfl⟩
 have x1:=ord2_in l a b s (p:=fun k=>k < l.length) ha hb
 have x2:=ord2_s l a b s
 rw [← hx] at x1 x2
 have y1:=ord2_in l x.2.1 c x.2.2 (p:=fun k=>k < l.length) x1.2 hc
 have y2:=ord2_s l x.2.1 c x.2.2
 rw [← hy] at y1 y2
 have hm : med3 l a b c s = (z.2.1,z.2.2):=by unfold med3;simp only [← hx,← hy,← hz]
 rw [hm]
 have c1:=ord264_con l a b s hl ha hb (by omega)
 have c2:=ord264_con l x.2.1 c x.2.2 hl x1.2 hc (by omega)
 have c3:=ord264_con l x.1 y.1 y.2.2 hl x1.1 y1.1 (by omega)
 rw [← hx] at c1;rw [← hy] at c2;rw [← hz] at c3
 refine C_slices_medianOrdered_int64 (Nat.le_of_ble_eq_true rfl) (Nat.le_of_ble_eq_true rfl) ?_
 simp only [cz,A_slices_medianOrdered_int64,argL,objL,List.length_nil,List.length_cons,Nat.zero_add,zX,simprocAttr]
 refine aw_reg 16 (RG.go fun Q hQ=>?_)
 simp (disch:=intros;contradiction) only [zS,simprocAttr]
 refine hQ (RG.nil ?_)
 simp only [zX]
 refine aw_reg 64 (RG.go fun Q hQ=>?_)
 simp (disch:=intros;contradiction) only [zS,simprocAttr]
 refine hQ ?_
 refine RG.callo [0,1] [] (c1) (.mk (by (repeat' (first | exact tr_nil | refine tr_cons ?_ ?_ | exact tr_v | exact tr_bp rfl | exact tr_osl rfl))) (by first | trivial | (simp only [zT,simprocAttr];done) | (simp only [zT,simprocAttr];trivial) | (simp only [zT,simprocAttr];repeat' ((exact drows_nrow _)))) (by simp) (by simp) (trivial) (by first | (simp [lkE_cons,lkE_nil];done) | (intro j hj;simp at hj;simp only [setEs,setE_cons,setE_nil,lkE_cons,lkE_nil];repeat rw [if_neg (by omega)])) (by first | (simp [Ent.pure];done) | (simp [Ent.pure];repeat' ((exact drows_nrow _)))) (by simp) (by simp)) ?_
 refine RG.go fun Q hQ=>?_
 simp (disch:=intros;contradiction) only [zS,simprocAttr]
 refine hQ (RG.nil ?_)
 simp only [zX]
 refine aw_reg 256 (RG.go fun Q hQ=>?_)
 simp (disch:=intros;contradiction) only [zS,simprocAttr]
 refine hQ ?_
 refine RG.callo [0,1] [] (c2) (.mk (by (repeat' (first | exact tr_nil | refine tr_cons ?_ ?_ | exact tr_v | exact tr_bp rfl | exact tr_osl rfl))) (by first | trivial | (simp only [zT,simprocAttr];done) | (simp only [zT,simprocAttr];trivial) | (simp only [zT,simprocAttr];repeat' ((exact drows_nrow _)))) (by simp) (by simp) (trivial) (by first | (simp [lkE_cons,lkE_nil];done) | (intro j hj;simp at hj;simp only [setEs,setE_cons,setE_nil,lkE_cons,lkE_nil];repeat rw [if_neg (by omega)])) (by first | (simp [Ent.pure];done) | (simp [Ent.pure];repeat' ((exact drows_nrow _)))) (by simp) (by simp)) ?_
 refine RG.go fun Q hQ=>?_
 simp (disch:=intros;contradiction) only [zS,simprocAttr]
 refine hQ (RG.nil ?_)
 simp only [zX]
 refine aw_reg 448 (RG.go fun Q hQ=>?_)
 simp (disch:=intros;contradiction) only [zS,simprocAttr]
 refine hQ ?_
 refine RG.callo [0,1] [] (c3) (.mk (by (repeat' (first | exact tr_nil | refine tr_cons ?_ ?_ | exact tr_v | exact tr_bp rfl | exact tr_osl rfl))) (by first | trivial | (simp only [zT,simprocAttr];done) | (simp only [zT,simprocAttr];trivial) | (simp only [zT,simprocAttr];repeat' ((exact drows_nrow _)))) (by simp) (by simp) (trivial) (by first | (simp [lkE_cons,lkE_nil];done) | (intro j hj;simp at hj;simp only [setEs,setE_cons,setE_nil,lkE_cons,lkE_nil];repeat rw [if_neg (by omega)])) (by first | (simp [Ent.pure];done) | (simp [Ent.pure];repeat' ((exact drows_nrow _)))) (by simp) (by simp)) ?_
 refine RG.go fun Q hQ=>?_
 simp (disch:=intros;contradiction) only [zS,simprocAttr]
 refine hQ (RG.nil ?_)
 simp only [zX]
 refine aw_reg 640 (RG.go fun Q hQ=>?_)
 simp (disch:=intros;contradiction) only [zS,simprocAttr]
 refine hQ (RG.nil ?_)
 simp only [zX]
 refine Fin.objs [] [] (.inr rfl) rfl (by first | exact trivial | exact ⟨trivial,trivial⟩ | exact ⟨trivial,trivial,trivial⟩) ?_ ?_ (by simp [objL,rlook]) (by first | (simp [objL,rlook];done) | (intro k hk;simp [objL,rlook];omega))
 ·simp only [zL,simprocAttr]
 ·simp only [zL,simprocAttr]
  all_goals (try (exact drows_nrow _))

theorem medA64_con (l : List Int) (a s : Nat) (hl : l.length≤1000000) (h0 : 0 < a) (ha : a + 1 < l.length) (hs : s≤900) :
  Con Try.prog 108 [.c (.osl 0),I a,.c (.bp 1 0)] [arrI 2 l,.box [.v (.int .i64 s)]] (I (med3 l (a - 1) a (a + 1) s).1) [arrI 2 l,.box [.v (.int .i64 (med3 l (a - 1) a (a + 1) s).2)]]:=by
 have c1:=med64_con l (a - 1) a (a + 1) s hl (by omega) (by omega) ha hs
 have e1 : (a : Int) - 1 = ((a - 1 : Nat) : Int):=by omega
 have e2 : (a : Int) + 1 = ((a + 1 : Nat) : Int):=by omega
 refine C_slices_medianAdjacentOrdered_int64 (Nat.le_of_ble_eq_true rfl) (Nat.le_of_ble_eq_true rfl) ?_
 simp only [cz,A_slices_medianAdjacentOrdered_int64,argL,objL,List.length_nil,List.length_cons,Nat.zero_add,zX,simprocAttr]
 refine aw_reg 16 (RG.go fun Q hQ=>?_)
 simp (disch:=intros;contradiction) only [zS,simprocAttr]
 refine hQ (RG.nil ?_)
 simp only [zX]
 refine aw_reg 64 (RG.go fun Q hQ=>?_)
 simp (disch:=first | (intros;contradiction) | omega | (simp only [zN];omega)) only [zS,zW,e1,e2,simprocAttr]
 refine hQ ?_
 refine RG.callo [0,1] [] (c1) (.mk (by (repeat' (first | exact tr_nil | refine tr_cons ?_ ?_ | exact tr_v | exact tr_bp rfl | exact tr_osl rfl))) (by first | trivial | (simp only [zT,simprocAttr];done) | (simp only [zT,simprocAttr];trivial) | (simp only [zT,simprocAttr];repeat' ((exact drows_nrow _)))) (by simp) (by simp) (trivial) (by first | (simp [lkE_cons,lkE_nil];done) | (intro j hj;simp at hj;simp only [setEs,setE_cons,setE_nil,lkE_cons,lkE_nil];repeat rw [if_neg (by omega)])) (by first | (simp [Ent.pure];done) | (simp [Ent.pure];repeat' ((exact drows_nrow _)))) (by simp) (by simp)) ?_
 refine RG.go fun Q hQ=>?_
 simp (disch:=intros;contradiction) only [zS,simprocAttr]
 refine hQ (RG.nil ?_)
 simp only [zX]
 refine Fin.objs [] [] (.inr rfl) rfl (by first | exact trivial | exact ⟨trivial,trivial⟩ | exact ⟨trivial,trivial,trivial⟩) ?_ ?_ (by simp [objL,rlook]) (by first | (simp [objL,rlook];done) | (intro k hk;simp [objL,rlook];omega))
 ·simp only [zL,simprocAttr]
 ·simp only [zL,simprocAttr]
  all_goals (try (exact drows_nrow _))

def cpF (l : List Int) (a b : Nat) : Nat × Nat :=
 if 50≤b - a then
  let x:=med3 l (a + (b - a) / 4 - 1) (a + (b - a) / 4) (a + (b - a) / 4 + 1) 0
  let y:=med3 l (a + (b - a) / 4 * 2 - 1) (a + (b - a) / 4 * 2) (a + (b - a) / 4 * 2 + 1) x.2
  let z:=med3 l (a + (b - a) / 4 * 3 - 1) (a + (b - a) / 4 * 3) (a + (b - a) / 4 * 3 + 1) y.2
  med3 l x.1 y.1 z.1 z.2
 else med3 l (a + (b - a) / 4) (a + (b - a) / 4 * 2) (a + (b - a) / 4 * 3) 0
def hintF (s : Nat) : Int:=if s = 0 then 1 else if s = 12 then 2 else 0
theorem cpF_in {l : List Int} {a b : Nat} (h : 8≤b - a) (hb : b≤l.length) : a≤(cpF l a b).1∧(cpF l a b).1 < b:=by
 unfold cpF
 split
 ·exact med3_in l _ _ _ _ (p:=fun k=>a≤k∧k < b) (med3_in l _ _ _ _ (p:=fun k=>a≤k∧k < b) (by omega) (by omega) (by omega)) (med3_in l _ _ _ _ (p:=fun k=>a≤k∧k < b) (by omega) (by omega) (by omega)) (med3_in l _ _ _ _ (p:=fun k=>a≤k∧k < b) (by omega) (by omega) (by omega))
 ·exact med3_in l _ _ _ _ (p:=fun k=>a≤k∧k < b) (by omega) (by omega) (by omega)

end Go.Abs

namespace Go.Abs
open Go Go.Proofs
set_option maxRecDepth 100000
set_option linter.unusedSimpArgs false
set_option maxHeartbeats 4000000

theorem choose64_con (a b : Nat) (l : List Int) (hl : l.length≤1000000) (hab : 8≤b - a) (hb : b≤l.length) :
  Con Try.prog 95 [.c (.osl 0),I a,I b] [arrI 2 l] (.tup [I (cpF l a b).1,I (hintF (cpF l a b).2)]) [arrI 2 l]:=by
 obtain ⟨n,hn⟩ : ∃ n,n = b - a:=⟨_,rfl⟩
 have e1 : (b : Int) - a = (n : Int):=by omega
 have e2 : (n : Int) / 4 = ((n / 4 : Nat) : Int):=by omega
 have e3 : ((n / 4 : Nat) : Int) * 1 = ((n / 4 : Nat) : Int):=by omega
 have e4 : ((n / 4 : Nat) : Int) * 2 = ((n / 4 * 2 : Nat) : Int):=by omega
 have e5 : ((n / 4 : Nat) : Int) * 3 = ((n / 4 * 3 : Nat) : Int):=by omega
 have e6 : (a : Int) + ((n / 4 : Nat) : Int) = ((a + n / 4 : Nat) : Int):=by omega
 have e7 : (a : Int) + ((n / 4 * 2 : Nat) : Int) = ((a + n / 4 * 2 : Nat) : Int):=by omega
 have e8 : (a : Int) + ((n / 4 * 3 : Nat) : Int) = ((a + n / 4 * 3 : Nat) : Int):=by omega
 obtain ⟨r,hr⟩ : ∃ r,r = cpF l a b:=⟨_,rfl⟩
 rw [← hr]
 unfold cpF at hr
 rw [← hn] at hr
 refine C_slices_choosePivotOrdered_int64 (Nat.le_of_ble_eq_true rfl) (Nat.le_of_ble_eq_true rfl) ?_
 simp only [cz,A_slices_choosePivotOrdered_int64,argL,objL,List.length_nil,List.length_cons,Nat.zero_add,zX,simprocAttr]
 refine aw_reg 16 (RG.go fun Q hQ=>?_)
 simp (disch:=intros;contradiction) only [zS,simprocAttr]
 refine hQ (RG.nil ?_)
 simp only [zX]
 refine aw_reg 80 (RG.go fun Q hQ=>?_)
 simp (disch:=first | (intros;contradiction) | omega | (simp only [zN];omega)) only [zS,zW,e1,simprocAttr]
 refine hQ (RG.nil ?_)
 simp only [zX]
 refine aw_reg 176 (RG.go fun Q hQ=>?_)
 simp (disch:=intros;contradiction) only [zS,simprocAttr]
 refine hQ (RG.nil ?_)
 simp only [zX]
 refine aw_reg 224 (RG.go fun Q hQ=>?_)
 simp (disch:=first | (intros;contradiction) | omega | (simp only [zN];omega)) only [zS,zW,e2,e3,e6,simprocAttr]
 repeat refine ⟨by (omega),?_⟩
 refine hQ (RG.nil ?_)
 simp only [zX]
 refine aw_reg 352 (RG.go fun Q hQ=>?_)
 simp (disch:=first | (intros;contradiction) | omega | (simp only [zN];omega)) only [zS,zW,e2,e4,e7,simprocAttr]
 repeat refine ⟨by (omega),?_⟩
 refine hQ (RG.nil ?_)
 simp only [zX]
 refine aw_reg 480 (RG.go fun Q hQ=>?_)
 simp (disch:=first | (intros;contradiction) | omega | (simp only [zN];omega)) only [zS,zW,e2,e5,e8,simprocAttr]
 repeat refine ⟨by (omega),?_⟩
 refine hQ (RG.nil ?_)
 simp only [zX]
 refine aw_reg 608 (RG.go fun Q hQ=>?_)
 simp (disch:=intros;contradiction) only [zS,simprocAttr]
 refine hQ (RG.nil ?_)
 simp only [zX]
 refine aw_cond _ rfl trivial (fun ht=>?_) (fun hf=>by simp at hf;omega)
 simp only [zX]
 refine aw_reg 672 (RG.go fun Q hQ=>?_)
 simp (disch:=intros;contradiction) only [zS,simprocAttr]
 refine hQ (RG.nil ?_)
 simp only [zX]
 refine aw_cond _ rfl trivial (fun ht=>?_) (fun hf=>?_)
 ·skip
  try simp at ht
  simp only [zX]
  rw [if_pos (by omega)] at hr
  obtain ⟨x,hx⟩ : ∃ x,x = med3 l (a + n / 4 - 1) (a + n / 4) (a + n / 4 + 1) 0:=⟨_,rfl⟩
  obtain ⟨y,hy⟩ : ∃ y,y = med3 l (a + n / 4 * 2 - 1) (a + n / 4 * 2) (a + n / 4 * 2 + 1) x.2:=⟨_,rfl⟩
  obtain ⟨z,hz⟩ : ∃ z,z = med3 l (a + n / 4 * 3 - 1) (a + n / 4 * 3) (a + n / 4 * 3 + 1) y.2:=⟨_,rfl⟩
  simp only [← hx,← hy,← hz] at hr
  have sx:=med3_s l (a + n / 4 - 1) (a + n / 4) (a + n / 4 + 1) 0
  have sy:=med3_s l (a + n / 4 * 2 - 1) (a + n / 4 * 2) (a + n / 4 * 2 + 1) x.2
  have sz:=med3_s l (a + n / 4 * 3 - 1) (a + n / 4 * 3) (a + n / 4 * 3 + 1) y.2
  have ix:=med3_in l (a + n / 4 - 1) (a + n / 4) (a + n / 4 + 1) 0 (p:=fun k=>a≤k∧k < b) (by omega) (by omega) (by omega)
  have iy:=med3_in l (a + n / 4 * 2 - 1) (a + n / 4 * 2) (a + n / 4 * 2 + 1) x.2 (p:=fun k=>a≤k∧k < b) (by omega) (by omega) (by omega)
  have iz:=med3_in l (a + n / 4 * 3 - 1) (a + n / 4 * 3) (a + n / 4 * 3 + 1) y.2 (p:=fun k=>a≤k∧k < b) (by omega) (by omega) (by omega)
  rw [← hx] at sx ix;rw [← hy] at sy iy;rw [← hz] at sz iz
  have cx:=medA64_con l (a + n / 4) 0 hl (by omega) (by omega) (by omega)
  have cy:=medA64_con l (a + n / 4 * 2) x.2 hl (by omega) (by omega) (by omega)
  have cz:=medA64_con l (a + n / 4 * 3) y.2 hl (by omega) (by omega) (by omega)
  rw [← hx] at cx;rw [← hy] at cy;rw [← hz] at cz
  have cr:=med64_con l x.1 y.1 z.1 z.2 hl (by omega) (by omega) (by omega) (by omega)
  rw [← hr] at cr
  refine aw_reg 736 (RG.go fun Q hQ=>?_)
  simp (disch:=intros;contradiction) only [zS,simprocAttr]
  refine hQ ?_
  refine RG.callo [0,176] [] (cx) (.mk (by (repeat' (first | exact tr_nil | refine tr_cons ?_ ?_ | exact tr_v | exact tr_bp rfl | exact tr_osl rfl))) (by first | trivial | (simp only [zT,simprocAttr];done) | (simp only [zT,simprocAttr];trivial) | (simp only [zT,simprocAttr];repeat' ((exact drows_nrow _)))) (by simp) (by simp) (trivial) (by first | (simp [lkE_cons,lkE_nil];done) | (intro j hj;simp at hj;simp only [setEs,setE_cons,setE_nil,lkE_cons,lkE_nil];repeat rw [if_neg (by omega)])) (by first | (simp [Ent.pure];done) | (simp [Ent.pure];repeat' ((exact drows_nrow _)))) (by simp) (by simp)) ?_
  refine RG.go fun Q hQ=>?_
  simp (disch:=intros;contradiction) only [zS,simprocAttr]
  refine hQ (RG.nil ?_)
  simp only [zX]
  refine aw_reg 832 (RG.go fun Q hQ=>?_)
  simp (disch:=intros;contradiction) only [zS,simprocAttr]
  refine hQ ?_
  refine RG.callo [0,176] [] (cy) (.mk (by (repeat' (first | exact tr_nil | refine tr_cons ?_ ?_ | exact tr_v | exact tr_bp rfl | exact tr_osl rfl))) (by first | trivial | (simp only [zT,simprocAttr];done) | (simp only [zT,simprocAttr];trivial) | (simp only [zT,simprocAttr];repeat' ((exact drows_nrow _)))) (by simp) (by simp) (trivial) (by first | (simp [lkE_cons,lkE_nil];done) | (intro j hj;simp at hj;simp only [setEs,setE_cons,setE_nil,lkE_cons,lkE_nil];repeat rw [if_neg (by omega)])) (by first | (simp [Ent.pure];done) | (simp [Ent.pure];repeat' ((exact drows_nrow _)))) (by simp) (by simp)) ?_
  refine RG.go fun Q hQ=>?_
  simp (disch:=intros;contradiction) only [zS,simprocAttr]
  refine hQ (RG.nil ?_)
  simp only [zX]
  refine aw_reg 928 (RG.go fun Q hQ=>?_)
  simp (disch:=intros;contradiction) only [zS,simprocAttr]
  refine hQ ?_
  refine RG.callo [0,176] [] (cz) (.mk (by (repeat' (first | exact tr_nil | refine tr_cons ?_ ?_ | exact tr_v | exact tr_bp rfl | exact tr_osl rfl))) (by first | trivial | (simp only [zT,simprocAttr];done) | (simp only [zT,simprocAttr];trivial) | (simp only [zT,simprocAttr];repeat' ((exact drows_nrow _)))) (by simp) (by simp) (trivial) (by first | (simp [lkE_cons,lkE_nil];done) | (intro j hj;simp at hj;simp only [setEs,setE_cons,setE_nil,lkE_cons,lkE_nil];repeat rw [if_neg (by omega)])) (by first | (simp [Ent.pure];done) | (simp [Ent.pure];repeat' ((exact drows_nrow _)))) (by simp) (by simp)) ?_
  refine RG.go fun Q hQ=>?_
  simp (disch:=intros;contradiction) only [zS,simprocAttr]
  refine hQ (RG.nil ?_)
  simp only [zX]
  refine aw_reg 1024 (RG.go fun Q hQ=>?_)
  simp (disch:=intros;contradiction) only [zS,simprocAttr]
  refine hQ ?_
  refine RG.callo [0,176] [] (cr) (.mk (by (repeat' (first | exact tr_nil | refine tr_cons ?_ ?_ | exact tr_v | exact tr_bp rfl | exact tr_osl rfl))) (by first | trivial | (simp only [zT,simprocAttr];done) | (simp only [zT,simprocAttr];trivial) | (simp only [zT,simprocAttr];repeat' ((exact drows_nrow _)))) (by simp) (by simp) (trivial) (by first | (simp [lkE_cons,lkE_nil];done) | (intro j hj;simp at hj;simp only [setEs,setE_cons,setE_nil,lkE_cons,lkE_nil];repeat rw [if_neg (by omega)])) (by first | (simp [Ent.pure];done) | (simp [Ent.pure];repeat' ((exact drows_nrow _)))) (by simp) (by simp)) ?_
  refine RG.go fun Q hQ=>?_
  simp (disch:=intros;contradiction) only [zS,simprocAttr]
  refine hQ (RG.nil ?_)
  simp only [zX]
  have hsr : r.2≤12:=by rw [hr];have:=med3_s l x.1 y.1 z.1 z.2;omega
  refine aw_reg 1152 (RG.go fun Q hQ=>?_)
  simp (disch:=intros;contradiction) only [zS,simprocAttr]
  refine hQ (RG.nil ?_)
  simp only [zX]
  refine aw_reg 1200 (RG.go fun Q hQ=>?_)
  simp (disch:=intros;contradiction) only [zS,simprocAttr]
  refine hQ (RG.nil ?_)
  simp only [zX]
  refine aw_cond _ rfl trivial (fun ht=>?_) (fun hf=>?_)
  ·skip
   try simp at ht
   simp only [zX]
   rw [show hintF r.2 = 1 from by unfold hintF;rw [if_pos (by omega)]]
   refine aw_reg 1264 (RG.go fun Q hQ=>?_)
   simp (disch:=intros;contradiction) only [zS,simprocAttr]
   refine hQ (RG.nil ?_)
   simp only [zX]
   refine Fin.objs [] [] (.inr rfl) rfl (by first | exact trivial | exact ⟨trivial,trivial⟩ | exact ⟨trivial,trivial,trivial⟩) ?_ ?_ (by simp [objL,rlook]) (by first | (simp [objL,rlook];done) | (intro k hk;simp [objL,rlook];omega))
   ·simp only [zL,simprocAttr]
   ·simp only [zL,simprocAttr]
    all_goals (try (exact drows_nrow _))
  try simp at hf
  simp only [zX]
  refine aw_reg 1344 (RG.go fun Q hQ=>?_)
  simp (disch:=intros;contradiction) only [zS,simprocAttr]
  refine hQ (RG.nil ?_)
  simp only [zX]
  refine aw_cond _ rfl trivial (fun ht=>?_) (fun hf=>?_)
  ·skip
   try simp at ht
   simp only [zX]
   rw [show hintF r.2 = 2 from by unfold hintF;rw [if_neg (by omega),if_pos (by omega)]]
   refine aw_reg 1408 (RG.go fun Q hQ=>?_)
   simp (disch:=intros;contradiction) only [zS,simprocAttr]
   refine hQ (RG.nil ?_)
   simp only [zX]
   refine Fin.objs [] [] (.inr rfl) rfl (by first | exact trivial | exact ⟨trivial,trivial⟩ | exact ⟨trivial,trivial,trivial⟩) ?_ ?_ (by simp [objL,rlook]) (by first | (simp [objL,rlook];done) | (intro k hk;simp [objL,rlook];omega))
   ·simp only [zL,simprocAttr]
   ·simp only [zL,simprocAttr]
    all_goals (try (exact drows_nrow _))
  try simp at hf
  simp only [zX]
  rw [show hintF r.2 = 0 from by unfold hintF;rw [if_neg (by omega),if_neg (by omega)]]
  refine aw_reg 1488 (RG.go fun Q hQ=>?_)
  simp (disch:=intros;contradiction) only [zS,simprocAttr]
  refine hQ (RG.nil ?_)
  simp only [zX]
  refine Fin.objs [] [] (.inr rfl) rfl (by first | exact trivial | exact ⟨trivial,trivial⟩ | exact ⟨trivial,trivial,trivial⟩) ?_ ?_ (by simp [objL,rlook]) (by first | (simp [objL,rlook];done) | (intro k hk;simp [objL,rlook];omega))
  ·simp only [zL,simprocAttr]
  ·simp only [zL,simprocAttr]
   all_goals (try (exact drows_nrow _))
 try simp at hf
 simp only [zX]
 rw [if_neg (by omega)] at hr
 have cr:=med64_con l (a + n / 4) (a + n / 4 * 2) (a + n / 4 * 3) 0 hl (by omega) (by omega) (by omega) (by omega)
 rw [← hr] at cr
 refine aw_reg 1568 (RG.go fun Q hQ=>?_)
 simp (disch:=intros;contradiction) only [zS,simprocAttr]
 refine hQ ?_
 refine RG.callo [0,176] [] (cr) (.mk (by (repeat' (first | exact tr_nil | refine tr_cons ?_ ?_ | exact tr_v | exact tr_bp rfl | exact tr_osl rfl))) (by first | trivial | (simp only [zT,simprocAttr];done) | (simp only [zT,simprocAttr];trivial) | (simp only [zT,simprocAttr];repeat' ((exact drows_nrow _)))) (by simp) (by simp) (trivial) (by first | (simp [lkE_cons,lkE_nil];done) | (intro j hj;simp at hj;simp only [setEs,setE_cons,setE_nil,lkE_cons,lkE_nil];repeat rw [if_neg (by omega)])) (by first | (simp [Ent.pure];done) | (simp [Ent.pure];repeat' ((exact drows_nrow _)))) (by simp) (by simp)) ?_
 refine RG.go fun Q hQ=>?_
 simp (disch:=intros;contradiction) only [zS,simprocAttr]
 refine hQ (RG.nil ?_)
 simp only [zX]
 refine aw_reg 1696 (RG.go fun Q hQ=>?_)
 simp (disch:=intros;contradiction) only [zS,simprocAttr]
 refine hQ (RG.nil ?_)
 simp only [zX]
 refine aw_reg 1744 (RG.go fun Q hQ=>?_)
 simp (disch:=intros;contradiction) only [zS,simprocAttr]
 refine hQ (RG.nil ?_)
 simp only [zX]
 refine aw_cond _ rfl trivial (fun ht=>?_) (fun hf=>?_)
 ·skip
  try simp at ht
  simp only [zX]
  rw [show hintF r.2 = 1 from by unfold hintF;rw [if_pos (by omega)]]
  refine aw_reg 1808 (RG.go fun Q hQ=>?_)
  simp (disch:=intros;contradiction) only [zS,simprocAttr]
  refine hQ (RG.nil ?_)
  simp only [zX]
  refine Fin.objs [] [] (.inr rfl) rfl (by first | exact trivial | exact ⟨trivial,trivial⟩ | exact ⟨trivial,trivial,trivial⟩) ?_ ?_ (by simp [objL,rlook]) (by first | (simp [objL,rlook];done) | (intro k hk;simp [objL,rlook];omega))
  ·simp only [zL,simprocAttr]
  ·simp only [zL,simprocAttr]
   all_goals (try (exact drows_nrow _))
 try simp at hf
 simp only [zX]
 refine aw_reg 1888 (RG.go fun Q hQ=>?_)
 simp (disch:=intros;contradiction) only [zS,simprocAttr]
 refine hQ (RG.nil ?_)
 simp only [zX]
 refine aw_cond _ rfl trivial (fun ht=>?_) (fun hf=>?_)
 ·skip
  try simp at ht
  simp only [zX]
  rw [show hintF r.2 = 2 from by unfold hintF;rw [if_neg (by omega),if_pos (by omega)]]
  refine aw_reg 1952 (RG.go fun Q hQ=>?_)
  simp (disch:=intros;contradiction) only [zS,simprocAttr]
  refine hQ (RG.nil ?_)
  simp only [zX]
  refine Fin.objs [] [] (.inr rfl) rfl (by first | exact trivial | exact ⟨trivial,trivial⟩ | exact ⟨trivial,trivial,trivial⟩) ?_ ?_ (by simp [objL,rlook]) (by first | (simp [objL,rlook];done) | (intro k hk;simp [objL,rlook];omega))
  ·simp only [zL,simprocAttr]
  ·simp only [zL,simprocAttr]
   all_goals (try (exact drows_nrow _))
 try simp at hf
 simp only [zX]
 rw [show hintF r.2 = 0 from by unfold hintF;rw [if_neg (by omega),if_neg (by omega)]]
 refine aw_reg 2032 (RG.go fun Q hQ=>?_)
 simp (disch:=intros;contradiction) only [zS,simprocAttr]
 refine hQ (RG.nil ?_)
 simp only [zX]
 refine Fin.objs [] [] (.inr rfl) rfl (by first | exact trivial | exact ⟨trivial,trivial⟩ | exact ⟨trivial,trivial,trivial⟩) ?_ ?_ (by simp [objL,rlook]) (by first | (simp [objL,rlook];done) | (intro k hk;simp [objL,rlook];omega))
 ·simp only [zL,simprocAttr]
 ·simp only [zL,simprocAttr]
  all_goals (try (exact drows_nrow _))

def tab8 : ByteArray:=⟨#[0,1,2,2,3,3,3,3,4,4,4,4,4,4,4,4,5,5,5,5,5,5,5,5,5,5,5,5,5,5,5,5,6,6,6,6,6,6,6,6,6,6,6,6,6,6,6,6,6,6,6,6,6,6,6,6,6,6,6,6,6,6,6,6,7,7,7,7,7,7,7,7,7,7,7,7,7,7,7,7,7,7,7,7,7,7,7,7,7,7,7,7,7,7,7,7,7,7,7,7,7,7,7,7,7,7,7,7,7,7,7,7,7,7,7,7,7,7,7,7,7,7,7,7,7,7,7,7,8,8,8,8,8,8,8,8,8,8,8,8,8,8,8,8,8,8,8,8,8,8,8,8,8,8,8,8,8,8,8,8,8,8,8,8,8,8,8,8,8,8,8,8,8,8,8,8,8,8,8,8,8,8,8,8,8,8,8,8,8,8,8,8,8,8,8,8,8,8,8,8,8,8,8,8,8,8,8,8,8,8,8,8,8,8,8,8,8,8,8,8,8,8,8,8,8,8,8,8,8,8,8,8,8,8,8,8,8,8,8,8,8,8,8,8,8,8,8,8,8,8,8,8,8,8,8,8]⟩
theorem tab8_def : (⟨#[0,1,2,2,3,3,3,3,4,4,4,4,4,4,4,4,5,5,5,5,5,5,5,5,5,5,5,5,5,5,5,5,6,6,6,6,6,6,6,6,6,6,6,6,6,6,6,6,6,6,6,6,6,6,6,6,6,6,6,6,6,6,6,6,7,7,7,7,7,7,7,7,7,7,7,7,7,7,7,7,7,7,7,7,7,7,7,7,7,7,7,7,7,7,7,7,7,7,7,7,7,7,7,7,7,7,7,7,7,7,7,7,7,7,7,7,7,7,7,7,7,7,7,7,7,7,7,7,8,8,8,8,8,8,8,8,8,8,8,8,8,8,8,8,8,8,8,8,8,8,8,8,8,8,8,8,8,8,8,8,8,8,8,8,8,8,8,8,8,8,8,8,8,8,8,8,8,8,8,8,8,8,8,8,8,8,8,8,8,8,8,8,8,8,8,8,8,8,8,8,8,8,8,8,8,8,8,8,8,8,8,8,8,8,8,8,8,8,8,8,8,8,8,8,8,8,8,8,8,8,8,8,8,8,8,8,8,8,8,8,8,8,8,8,8,8,8,8,8,8,8,8,8,8,8,8]⟩ : ByteArray) = tab8:=rfl
def bitLen (n : Nat) : Nat:=if n = 0 then 0 else Nat.log2 n + 1
theorem tab8_eq : ∀ x : Fin 256,((tab8.data[x.1]?).getD 0).toNat = bitLen x.1:=by decide +kernel
theorem tab8_get {x : Nat} (h : x < 256) : ((tab8.data[x]?).getD 0).toNat = bitLen x:=tab8_eq ⟨x,h⟩
theorem tab8_size : tab8.size = 256:=by decide +kernel
theorem bitLen_lt (n : Nat) : n < 2 ^ bitLen n:=by
 unfold bitLen
 split
 ·omega
 ·exact Nat.lt_log2_self
theorem bitLen_le {n : Nat} (h : n≠0) : 2 ^ bitLen n≤2 * n:=by
 unfold bitLen
 rw [if_neg h,Nat.pow_succ]
 have:=Nat.log2_self_le h
 omega
theorem bitLen_small {n k : Nat} (h : n < 2 ^ k) : bitLen n≤k:=by
 unfold bitLen
 split
 ·omega
 ·rename_i h0
  have:=(Nat.log2_lt h0).2 h
  omega
theorem bitLen_256 {n : Nat} (h : 256≤n) : bitLen n = 8 + bitLen (n / 256):=by
 unfold bitLen
 rw [if_neg (by omega),if_neg (by omega)]
 have h1:=Nat.log2_self_le (show n≠0 by omega)
 have h2 : n < 2 ^ (Nat.log2 n + 1):=Nat.lt_log2_self
 have h3:=Nat.log2_self_le (show n / 256≠0 by omega)
 have h4 : n / 256 < 2 ^ (Nat.log2 (n / 256) + 1):=Nat.lt_log2_self
 have h5 : n < 2 ^ (8 + Nat.log2 (n / 256) + 1):=by
  rw [show 8 + Nat.log2 (n / 256) + 1 = 8 + (Nat.log2 (n / 256) + 1) by omega,Nat.pow_add]
  omega
 have h6 : 2 ^ (8 + Nat.log2 (n / 256))≤n:=by
  rw [Nat.pow_add]
  omega
 have h7 : Nat.log2 n < 8 + Nat.log2 (n / 256) + 1:=(Nat.log2_lt (by omega)).2 h5
 have h8 : ¬ Nat.log2 n < 8 + Nat.log2 (n / 256):=fun h=>by
  have:=(Nat.log2_lt (by omega)).1 h;omega
 omega

theorem len64_con (n : Nat) (hn : n < 65536) : Con Try.prog 102 [.c (.v (.int .u64 n))] [] (I (bitLen n)) []:=by
 have e1 : (n : Int).fdiv (2 ^ min 8 IntKind.u64.bits) = ((n / 256 : Nat) : Int):=by
  rw [show (2 : Int) ^ min 8 IntKind.u64.bits = 256 from rfl,Int.fdiv_eq_ediv_of_nonneg _ (by omega)];omega
 have hs:=tab8_size
 refine C_math_bits_Len64 (Nat.le_of_ble_eq_true rfl) (Nat.le_of_ble_eq_true rfl) ?_
 simp only [cz,A_math_bits_Len64,argL,objL,List.length_nil,zX]
 simp only [tab8_def]
 refine aw_reg 16 (RG.go fun Q hQ=>?_)
 simp (disch:=intros;contradiction) only [zS,simprocAttr]
 refine hQ (RG.nil ?_)
 simp only [zX]
 refine aw_reg 64 (RG.go fun Q hQ=>?_)
 simp (disch:=intros;contradiction) only [zS,simprocAttr]
 refine hQ (RG.nil ?_)
 simp only [zX]
 refine aw_cond _ rfl trivial (fun ht=>by simp at ht;omega) (fun hf=>?_)
 simp only [zX]
 refine aw_reg 128 (RG.go fun Q hQ=>?_)
 simp (disch:=intros;contradiction) only [zS,simprocAttr]
 refine hQ (RG.nil ?_)
 simp only [zX]
 refine aw_cond _ rfl trivial (fun ht=>by simp at ht;omega) (fun hf=>?_)
 simp only [zX]
 refine aw_reg 192 (RG.go fun Q hQ=>?_)
 simp (disch:=intros;contradiction) only [zS,simprocAttr]
 refine hQ (RG.nil ?_)
 simp only [zX]
 refine aw_cond _ rfl trivial (fun ht=>?_) (fun hf=>?_)
 ·skip
  try simp at ht
  simp only [zX]
  have hb:=bitLen_small (n:=n / 256) (k:=8) (by omega)
  refine aw_reg 256 (RG.go fun Q hQ=>?_)
  simp (disch:=intros;contradiction) only [zS,e1,simprocAttr]
  refine hQ (RG.nil ?_)
  simp only [zX]
  refine aw_reg 336 (RG.go fun Q hQ=>?_)
  simp (disch:=first | (intros;contradiction) | omega | (simp only [zN];omega)) only [zS,zW,simprocAttr]
  refine hQ (RG.nil ?_)
  simp only [zX]
  refine aw_reg 416 (RG.go fun Q hQ=>?_)
  simp (disch:=first | (intros;contradiction) | omega | (simp only [zN];omega)) only [zS,zW,tab8_get,hs,simprocAttr]
  repeat refine ⟨by (omega),?_⟩
  refine hQ (RG.nil ?_)
  simp only [zX]
  refine Fin.i (.inr rfl) rfl trivial ?_
  rw [bitLen_256 (n:=n) (by omega)];omega
 try simp at hf
 simp only [zX]
 have hb:=bitLen_small (n:=n) (k:=8) (by omega)
 refine aw_reg 560 (RG.go fun Q hQ=>?_)
 simp (disch:=first | (intros;contradiction) | omega | (simp only [zN];omega)) only [zS,zW,tab8_get,hs,simprocAttr]
 repeat refine ⟨by (omega),?_⟩
 refine hQ (RG.nil ?_)
 simp only [zX]
 refine Fin.i (.inr rfl) rfl trivial ?_
 omega

theorem len_con (n : Nat) (hn : n < 65536) : Con Try.prog 81 [.c (.v (.int .u64 n))] [] (I (bitLen n)) []:=by
 refine C_math_bits_Len (Nat.le_of_ble_eq_true rfl) (Nat.le_of_ble_eq_true rfl) ?_
 simp only [cz,A_math_bits_Len,argL,objL,List.length_nil,zX]
 refine aw_reg 16 (RG.go fun Q hQ=>?_)
 simp (disch:=intros;contradiction) only [zS,simprocAttr]
 refine hQ (RG.nil ?_)
 simp only [zX]
 refine aw_cond _ rfl trivial (fun ht=>by cases ht) (fun hf=>?_)
 simp only [zX]
 refine aw_reg 64 (RG.go fun Q hQ=>?_)
 simp (disch:=intros;contradiction) only [zS,simprocAttr]
 refine hQ ?_
 refine RG.call [] (len64_con n hn) (by (repeat' (first | exact tr_nil | refine tr_cons ?_ ?_ | exact tr_v))) trivial (by (exact .inl trivial)) ?_
 refine RG.go fun Q hQ=>?_
 simp (disch:=intros;contradiction) only [zS,simprocAttr]
 refine hQ (RG.nil ?_)
 simp only [zX]
 exact Fin.scalar (.inr rfl) rfl trivial rfl trivial

theorem pow2_con (n : Nat) (hn : n < 65536) : Con Try.prog 106 [I n] [] (.c (.v (.int .u64 (2 ^ bitLen n : Nat)))) []:=by
 have hb:=bitLen_small (n:=n) (k:=16) (by omega)
 have hp : 2 ^ bitLen n≤65536:=by have:=Nat.pow_le_pow_right (n:=2) (by omega) hb;simpa using this
 have e2 : IntKind.u64.wrap (1 * 2 ^ (min (bitLen n) IntKind.u64.bits)) = ((2 ^ bitLen n : Nat) : Int):=by
  rw [show IntKind.u64.bits = 64 from rfl,Nat.min_eq_left (by omega)]
  have h1 : (1 : Int) * 2 ^ bitLen n = ((2 ^ bitLen n : Nat) : Int):=by simp
  rw [h1,w_u64]
  generalize 2 ^ bitLen n = q at hp
  omega
 refine C_slices_nextPowerOfTwo (Nat.le_of_ble_eq_true rfl) (Nat.le_of_ble_eq_true rfl) ?_
 simp only [cz,A_slices_nextPowerOfTwo,argL,objL,List.length_nil,zX]
 refine aw_reg 16 (RG.go fun Q hQ=>?_)
 simp (disch:=intros;contradiction) only [zS,simprocAttr]
 refine hQ (RG.nil ?_)
 simp only [zX]
 refine aw_reg 64 (RG.go fun Q hQ=>?_)
 simp (disch:=first | (intros;contradiction) | omega | (simp only [zN];omega)) only [zS,zW,simprocAttr]
 refine hQ ?_
 refine RG.call [] (len_con n hn) (by (repeat' (first | exact tr_nil | refine tr_cons ?_ ?_ | exact tr_v))) trivial (by (exact .inl trivial)) ?_
 refine RG.go fun Q hQ=>?_
 simp (disch:=intros;contradiction) only [zS,zW,e2,simprocAttr]
 repeat refine ⟨by (omega),?_⟩
 refine hQ (RG.nil ?_)
 simp only [zX]
 exact Fin.scalar (.inr rfl) rfl trivial rfl trivial

def nx1 (r : Int) : Int:=bitsI .xor .u64 r (IntKind.u64.wrap (r * 2 ^ min 13 IntKind.u64.bits))
def nx2 (r : Int) : Int:=bitsI .xor .u64 (nx1 r) ((nx1 r).fdiv (2 ^ min 7 IntKind.u64.bits))
def nx3 (r : Int) : Int:=bitsI .xor .u64 (nx2 r) (IntKind.u64.wrap (nx2 r * 2 ^ min 17 IntKind.u64.bits))

theorem next_con (r : Int) : Con Try.prog 107 [.c (.bp 0 0)] [.box [.v (.int .u64 r)]] (.c (.v (.int .u64 (nx3 r)))) [.box [.v (.int .u64 (nx3 r))]]:=by
 refine C_slices_xorshift_Next (Nat.le_of_ble_eq_true rfl) (Nat.le_of_ble_eq_true rfl) ?_
 simp only [cz,A_slices_xorshift_Next,argL,objL,List.length_nil,List.length_cons,Nat.zero_add,zX]
 refine aw_reg 16 (RG.go fun Q hQ=>?_)
 simp (disch:=intros;contradiction) only [zS,simprocAttr]
 refine hQ (RG.nil ?_)
 simp only [zX]
 refine aw_draw 64 (RG.go fun Q hQ=>?_)
 simp (disch:=intros;contradiction) only [zS,simprocAttr]
 refine hQ (RG.nil ⟨by decide +kernel,?_⟩)
 simp only [zX]
 refine aw_draw 256 (RG.go fun Q hQ=>?_)
 simp (disch:=intros;contradiction) only [zS,simprocAttr]
 refine hQ (RG.nil ⟨by decide +kernel,?_⟩)
 simp only [zX]
 refine aw_draw 448 (RG.go fun Q hQ=>?_)
 simp (disch:=intros;contradiction) only [zS,simprocAttr]
 refine hQ (RG.nil ⟨by decide +kernel,?_⟩)
 simp only [zX]
 refine aw_reg 640 (RG.go fun Q hQ=>?_)
 simp (disch:=intros;contradiction) only [zS,simprocAttr]
 refine hQ (RG.nil ?_)
 simp only [zX]
 refine Fin.objs [] [] (.inr rfl) rfl (by first | exact trivial | exact ⟨trivial,trivial⟩ | exact ⟨trivial,trivial,trivial⟩) ?_ ?_ (by simp [objL,rlook]) (by first | (simp [objL,rlook];done) | (intro k hk;simp [objL,rlook];omega))
 ·simp only [zL,simprocAttr]
  all_goals (try ((repeat' (rfl))))
 ·simp only [zL,↓reduceIte]
  all_goals (try ((repeat' (rfl))))

end Go.Abs

namespace Go.Abs
open Go Go.Proofs
set_option maxRecDepth 100000
set_option linter.unusedSimpArgs false
set_option maxHeartbeats 8000000

theorem and_le {x m : Int} (h : 0≤m) (h' : m < 18446744073709551616) : 0≤bitsI .and .u64 x m∧bitsI .and .u64 x m≤m:=by
 have h1 : (BitVec.ofInt 64 x &&& BitVec.ofInt 64 m).toNat≤m.toNat:=by
  rw [BitVec.toNat_and]
  have : (BitVec.ofInt 64 m).toNat = m.toNat:=by simp [BitVec.toNat_ofInt];omega
  rw [this]
  exact Nat.and_le_right
 have h2 : bitsI .and .u64 x m = IntKind.u64.wrap (((BitVec.ofInt 64 x &&& BitVec.ofInt 64 m).toNat : Nat) : Int):=rfl
 rw [h2,wc_u64 (by omega) (by omega)]
 omega

def othA (n : Nat) (r : Int) : Int:=bitsI .and .u64 r (((2 ^ bitLen n : Nat) : Int) - 1)
def oth (n : Nat) (r : Int) : Nat:=if (n : Int)≤othA n r then (othA n r).toNat - n else (othA n r).toNat
def brk (a n : Nat) : Nat→List Int→Nat→Int→List Int
 | 0,l,_,_=>l
 | k + 1,l,i,r=>brk a n k (swp l i (a + oth n (nx3 r))) (i + 1) (nx3 r)
theorem othA_in {n : Nat} (h0 : 8≤n) (hn : n < 65536) (r : Int) : 0≤othA n r∧othA n r < 2 * n:=by
 have h1:=bitLen_le (n:=n) (by omega)
 have h2:=bitLen_lt n
 generalize hq : 2 ^ bitLen n = q at h1 h2
 have:=and_le (x:=r) (m:=(q : Int) - 1) (by omega) (by omega)
 unfold othA
 rw [hq]
 omega
theorem oth_in {n : Nat} (h0 : 8≤n) (hn : n < 65536) (r : Int) : oth n r < n:=by
 have:=othA_in h0 hn r
 unfold oth
 split <;> omega
theorem brk_PO {a n b : Nat} (h0 : 8≤n) (hn : n < 65536) (hb : b = a + n) : ∀ (k : Nat) (l : List Int) (i : Nat) (r : Int),b≤l.length→a≤i→i + k≤b→PO a b l (brk a n k l i r)
 | 0,l,i,r,_,_,_=>PO.refl _ _ _
 | k + 1,l,i,r,hl,hi,hk=>by
  have ho:=oth_in h0 hn (nx3 r)
  exact (PO.swp hl hi (by omega) (by omega) (by omega)).trans (brk_PO h0 hn hb k _ (i + 1) (nx3 r) (by rw [swp_len];exact hl) (by omega) (by omega))

theorem break64_con (a b : Nat) (l : List Int) (hl : l.length≤60000) (hab : 8≤b - a) (hb : b≤l.length) :
  Con Try.prog 94 [.c (.osl 0),I a,I b] [arrI 2 l] (.tup []) [arrI 2 (brk a (b - a) 3 l (a + (b - a) / 4 * 2 - 1) (b - a : Nat))]:=by
 obtain ⟨n,hn⟩ : ∃ n,n = b - a:=⟨_,rfl⟩
 rw [← hn]
 have e1 : (b : Int) - a = (n : Int):=by omega
 have e2 : (n : Int) / 4 = ((n / 4 : Nat) : Int):=by omega
 have e4 : ((n / 4 : Nat) : Int) * 2 = ((n / 4 * 2 : Nat) : Int):=by omega
 have e7 : (a : Int) + ((n / 4 * 2 : Nat) : Int) = ((a + n / 4 * 2 : Nat) : Int):=by omega
 obtain ⟨c,hc⟩ : ∃ c,c + 1 = a + n / 4 * 2:=⟨a + n / 4 * 2 - 1,by omega⟩
 have e8 : ((a + n / 4 * 2 : Nat) : Int) - 1 = (c : Int):=by omega
 have e9 : ((a + n / 4 * 2 : Nat) : Int) + 1 = (c : Int) + 2:=by omega
 rw [show a + n / 4 * 2 - 1 = c by omega]
 have h1:=bitLen_le (n:=n) (by omega)
 have h2:=bitLen_lt n
 have h3 : ∀ r,bitsI .and .u64 r (((2 ^ bitLen n : Nat) : Int) - 1) = othA n r:=fun r=>rfl
 obtain ⟨R,hR⟩ : ∃ R,R = brk a n 3 l c n:=⟨_,rfl⟩
 rw [← hR]
 have cP:=pow2_con n (by omega)
 generalize 2 ^ bitLen n = q at h1 h2 h3 cP
 refine C_slices_breakPatternsOrdered_int64 (Nat.le_of_ble_eq_true rfl) (Nat.le_of_ble_eq_true rfl) ?_
 simp only [cz,A_slices_breakPatternsOrdered_int64,argL,objL,List.length_nil,List.length_cons,Nat.zero_add,zX,simprocAttr]
 refine aw_reg 16 (RG.go fun Q hQ=>?_)
 simp (disch:=first | (intros;contradiction) | omega | (simp only [zN];omega)) only [zS,zW,e1,simprocAttr]
 refine hQ (RG.nil ?_)
 simp only [zX]
 refine aw_reg 112 (RG.go fun Q hQ=>?_)
 simp (disch:=intros;contradiction) only [zS,simprocAttr]
 refine hQ (RG.nil ?_)
 simp only [zX]
 refine aw_cond _ rfl trivial (fun ht=>?_) (fun hf=>by simp at hf;omega)
 simp only [zX]
 refine aw_reg 176 (RG.go fun Q hQ=>?_)
 simp (disch:=first | (intros;contradiction) | omega | (simp only [zN];omega)) only [zS,zW,simprocAttr]
 refine hQ (RG.nil ?_)
 simp only [zX]
 refine aw_reg 272 (RG.go fun Q hQ=>?_)
 simp (disch:=intros;contradiction) only [zS,simprocAttr]
 refine hQ ?_
 refine RG.call [] (cP) (by (repeat' (first | exact tr_nil | refine tr_cons ?_ ?_ | exact tr_v))) trivial (by (exact .inl trivial)) ?_
 refine RG.go fun Q hQ=>?_
 simp (disch:=intros;contradiction) only [zS,simprocAttr]
 refine hQ (RG.nil ?_)
 simp only [zX]
 refine aw_reg 352 (RG.go fun Q hQ=>?_)
 simp (disch:=first | (intros;contradiction) | omega | (simp only [zN];omega)) only [zS,zW,e2,e4,e7,e8,simprocAttr]
 repeat refine ⟨by (omega),?_⟩
 refine hQ (RG.nil ?_)
 simp only [zX]
 refine aw_loopK (X:={ p : List Int × Nat × Int // p.1.length = l.length∧p.2.1≤3∧brk a n p.2.1 p.1 (c + 3 - p.2.1) p.2.2 = R }) [0,1,6,7,8] (fun p=>[(9,I (c + 3 - p.1.2.1 : Nat))]) [] (fun p=>[(0,arrI 2 p.1.1),(208,.box [.v (.int .u64 p.1.2.2)])]) (fun p=>p.1.2.1) (⟨(l,3,n),rfl,by simp only;omega,hR.symm⟩) ?_ ?_
 ·skip
  simp only [keepS,keepE,lk_cons,List.cons_append,List.nil_append,simprocAttr]
  refine Le.lit [] [] _ _ ?_ ?_ ?_ ?_
  ·simp only [zL,simprocAttr]
   all_goals (try ((repeat' (rfl))))
  ·simp only [zL,simprocAttr]
   all_goals (try (exact drows_nrow _))
  ·simp [rlook]
  ·first | (simp;done) | (intro k hk;simp [rlook];omega)
 rintro ⟨⟨m,k,r⟩,g1,g2,g3⟩
 simp only [keepS,keepE,lk_cons,List.cons_append,List.nil_append,simprocAttr]
 simp only [zX]
 simp only at g1 g2 g3
 refine aw_reg 496 (RG.go fun Q hQ=>?_)
 simp (disch:=first | (intros;contradiction) | omega | (simp only [zN];omega)) only [zS,zW,e2,e4,e7,e9,simprocAttr]
 repeat refine ⟨by (omega),?_⟩
 refine hQ (RG.nil ?_)
 simp only [zX]
 refine aw_cond _ rfl trivial (fun ht=>?_) (fun hf=>?_)
 rotate_left
 ·skip
  try simp at hf
  simp only [zX,↓reduceIte]
  obtain rfl : k = 0:=by omega
  have hm : m = R:=g3
  rw [hm]
  refine Fin.objs [] [] (.inl rfl) rfl (by first | exact trivial | exact ⟨trivial,trivial⟩ | exact ⟨trivial,trivial,trivial⟩) ?_ ?_ (by simp [objL,rlook]) (by first | (simp [objL,rlook];done) | (intro k hk;simp [objL,rlook];omega))
  ·simp only [zL]
  ·simp only [zL,simprocAttr]
   all_goals (try (exact drows_nrow _))
 try simp at ht
 simp only [zX]
 obtain ⟨k,rfl⟩ : ∃ j,k = j + 1:=⟨k - 1,by omega⟩
 have ho:=othA_in (n:=n) (by omega) (by omega) (nx3 r)
 obtain ⟨o,ho2⟩ : ∃ o : Nat,othA n (nx3 r) = o:=⟨(othA n (nx3 r)).toNat,by omega⟩
 rw [ho2] at ho
 unfold brk at g3
 have ec : c + 3 - (k + 1) = c + 2 - k:=by omega
 rw [ec] at g3
 rw [show c + 2 - k + 1 = c + 3 - k by omega] at g3
 refine aw_reg 656 (RG.go fun Q hQ=>?_)
 simp (disch:=intros;contradiction) only [zS,↓reduceIte,ec]
 refine hQ ?_
 refine RG.callo [208] [] (next_con r) (.mk (by (repeat' (first | exact tr_nil | refine tr_cons ?_ ?_ | exact tr_bp rfl))) (by first | trivial | (simp only [zT,simprocAttr];done) | (simp only [zT,simprocAttr];trivial) | (simp only [zT,simprocAttr];repeat' (fail))) (by simp) (by simp) (trivial) (by first | (simp [lkE_cons,lkE_nil];done) | (intro j hj;simp at hj;simp only [setEs,setE_cons,setE_nil,lkE_cons,lkE_nil];repeat rw [if_neg (by omega)])) (by first | (simp [Ent.pure];done) | (simp [Ent.pure];repeat' (fail))) (by simp) (by simp)) ?_
 refine RG.go fun Q hQ=>?_
 simp (disch:=first | (intros;contradiction) | omega | (simp only [zN];omega)) only [zS,zW,h3,ho2,simprocAttr]
 refine hQ (RG.nil ?_)
 simp only [zX]
 refine aw_reg 784 (RG.go fun Q hQ=>?_)
 simp (disch:=intros;contradiction) only [zS,simprocAttr]
 refine hQ (RG.nil ?_)
 simp only [zX]
 refine aw_cond _ rfl trivial (fun ht=>?_) (fun hf=>?_)
 ·skip
  try simp at ht
  have e : (o : Int) - n = ((o - n : Nat) : Int):=by omega
  have hoth : oth n (nx3 r) = o - n:=by unfold oth;rw [ho2,if_pos (by omega),Int.toNat_natCast]
  rw [hoth] at g3
  refine aw_reg 864 (RG.go fun Q hQ=>?_)
  simp (disch:=first | (intros;contradiction) | omega | (simp only [zN];omega)) only [zS,zW,e,simprocAttr]
  refine hQ (RG.nil ?_)
  simp only [zX]
  refine aw_draw 960 (RG.go fun Q hQ=>?_)
  simp (disch:=first | (intros;contradiction) | omega | (simp only [zN];omega)) only [zS,zW,nrow,gI_get',set_nrow,swp_fold,natAdd,simprocAttr]
  repeat refine ⟨by (omega),?_⟩
  refine hQ (RG.nil ⟨by decide +kernel,?_⟩)
  simp only [zX]
  refine aw_reg 1312 (RG.go fun Q hQ=>?_)
  simp (disch:=first | (intros;contradiction) | omega | (simp only [zN];omega)) only [zS,zW,simprocAttr]
  refine hQ (RG.nil ?_)
  simp only [zX]
  refine ⟨⟨(swp m (c + 2 - k) (a + (o - n)),k,nx3 r),by simp only;rw [swp_len];exact g1,by simp only;omega,g3⟩,?_,by first | omega | (simp only;omega)⟩
  refine Le.lit [] [] _ _ ?_ ?_ ?_ ?_
  ·simp only [zL,simprocAttr]
   all_goals (try ((repeat' ((congr 1;omega)))))
  ·simp only [zL,simprocAttr]
   all_goals (try (exact drows_nrow _))
  ·simp [rlook]
  ·first | (simp;done) | (intro k hk;simp [rlook];omega)
 try simp at hf
 simp only [zX]
 have hoth : oth n (nx3 r) = o:=by unfold oth;rw [ho2,if_neg (by omega),Int.toNat_natCast]
 rw [hoth] at g3
 refine aw_draw 1392 (RG.go fun Q hQ=>?_)
 simp (disch:=first | (intros;contradiction) | omega | (simp only [zN];omega)) only [zS,zW,nrow,gI_get',set_nrow,swp_fold,natAdd,simprocAttr]
 repeat refine ⟨by (omega),?_⟩
 refine hQ (RG.nil ⟨by decide +kernel,?_⟩)
 simp only [zX]
 refine aw_reg 1744 (RG.go fun Q hQ=>?_)
 simp (disch:=first | (intros;contradiction) | omega | (simp only [zN];omega)) only [zS,zW,simprocAttr]
 refine hQ (RG.nil ?_)
 simp only [zX]
 refine ⟨⟨(swp m (c + 2 - k) (a + o),k,nx3 r),by simp only;rw [swp_len];exact g1,by simp only;omega,g3⟩,?_,by first | omega | (simp only;omega)⟩
 refine Le.lit [] [] _ _ ?_ ?_ ?_ ?_
 ·simp only [zL,simprocAttr]
  all_goals (try ((repeat' ((congr 1;omega)))))
 ·simp only [zL,simprocAttr]
  all_goals (try (exact drows_nrow _))
 ·simp [rlook]
 ·first | (simp;done) | (intro k hk;simp [rlook];omega)

end Go.Abs

namespace Go.Abs
open Go Go.Proofs
set_option maxRecDepth 100000
set_option linter.unusedSimpArgs false
set_option maxHeartbeats 8000000

theorem srt_sorted {a b : Nat} {l : List Int} (hab : a≤b) (hb : b≤l.length) : sortedOn a b (srt a b l):=by
 intro i k h1 h2 h3
 have hs : (isort (seg a b l)).length = b - a:=by rw [isort_len,seg_len hb]
 have hla : (l.take a).length = a:=by simp;omega
 have g : ∀ j,a≤j→j < b→gI (srt a b l) j = gI (isort (seg a b l)) (j - a):=fun j j1 j2=>by
  unfold srt
  rw [gI_app_l (by simp [hs];omega),gI_app_r (by rw [hla];exact j1),hla]
 rw [g i h1 (by omega),g k (by omega) h3]
 rcases Nat.lt_or_ge i k with h | h
 ·have:=List.pairwise_iff_getElem.1 (isort_sorted (seg a b l)) (i - a) (k - a) (by omega) (by omega) (by omega)
  rwa [gI_get,gI_get] at this
 ·rw [show i = k by omega];exact Int.le_refl _

theorem srt_comb {x y mid : Nat} {q r : List Int} (hm : x≤mid) (hy : mid < y) (hq : y≤q.length) (hr : PO x y q r) (hp : gI r mid = gI q mid) (h1 : sortedOn x mid r) (h2 : sortedOn (mid + 1) y r)
  (h3 : ∀ k,x≤k→k < mid→gI r k≤gI q mid) (h4 : ∀ k,mid < k→k < y→gI q mid≤gI r k) : srt x y q = r:=by
 rw [← hr.srt (by omega)]
 refine srt_id (by omega) (by rw [hr.len];exact hq) fun i k i1 i2 i3=>?_
 rcases Nat.lt_or_ge k mid with hk | hk
 ·exact h1 i k i1 i2 hk
 ·have hk2 : gI q mid≤gI r k:=by
   rcases Nat.lt_or_ge mid k with h | h
   ·exact h4 k h i3
   ·rw [show k = mid by omega,hp];exact Int.le_refl _
  rcases Nat.lt_or_ge i mid with hi | hi
  ·exact Int.le_trans (h3 i i1 hi) hk2
  ·rcases Nat.lt_or_ge mid i with hi' | hi'
   ·exact h2 i k (by omega) i2 i3
   ·rw [show i = mid by omega,hp];exact hk2

theorem pdq_left {x y mid : Nat} {q : List Int} (hm : x≤mid) (hy : mid < y) (hq : y≤q.length) (h3 : ∀ k,x≤k→k < mid→gI q k < gI q mid) (h4 : ∀ k,mid < k→k < y→gI q mid≤gI q k) : srt (mid + 1) y (srt x mid q) = srt x y q:=by
 symm
 have p1:=srt_PO hm (show mid≤q.length by omega)
 have p2:=srt_PO (l:=srt x mid q) (show mid + 1≤y by omega) (by rw [p1.len];exact hq)
 refine srt_comb hm hy hq ((p1.wide (Nat.le_refl _) (by omega)).trans (p2.wide (by omega) (Nat.le_refl _))) ?_ ?_ (srt_sorted (by omega) (by rw [p1.len];exact hq)) ?_ ?_
 ·rw [p2.out mid (.inl (by omega)),p1.out mid (.inr (by omega))]
 ·intro i k i1 i2 i3
  rw [p2.out i (.inl (by omega)),p2.out k (.inl (by omega))]
  exact srt_sorted hm (by omega) i k i1 i2 i3
 ·intro k k1 k2
  rw [p2.out k (.inl (by omega))]
  exact p1.all (p:=fun v=>v≤gI q mid) hm (by omega) (fun k k1 k2=>Int.le_of_lt (h3 k k1 k2)) k k1 k2
 ·intro k k1 k2
  refine p2.all (p:=fun v=>gI q mid≤v) (by omega) (by rw [p1.len];exact hq) (fun k k1 k2=>?_) k (by omega) k2
  rw [p1.out k (.inr (by omega))];exact h4 k (by omega) k2
theorem pdq_right {x y mid : Nat} {q : List Int} (hm : x≤mid) (hy : mid < y) (hq : y≤q.length) (h3 : ∀ k,x≤k→k < mid→gI q k < gI q mid) (h4 : ∀ k,mid < k→k < y→gI q mid≤gI q k) : srt x mid (srt (mid + 1) y q) = srt x y q:=by
 symm
 have p1:=srt_PO (l:=q) (show mid + 1≤y by omega) hq
 have p2:=srt_PO (l:=srt (mid + 1) y q) hm (by rw [p1.len];omega)
 refine srt_comb hm hy hq ((p1.wide (by omega) (Nat.le_refl _)).trans (p2.wide (Nat.le_refl _) (by omega))) ?_ (srt_sorted hm (by rw [p1.len];omega)) ?_ ?_ ?_
 ·rw [p2.out mid (.inr (by omega)),p1.out mid (.inl (by omega))]
 ·intro i k i1 i2 i3
  rw [p2.out i (.inr (by omega)),p2.out k (.inr (by omega))]
  exact srt_sorted (by omega) hq i k i1 i2 i3
 ·intro k k1 k2
  refine p2.all (p:=fun v=>v≤gI q mid) hm (by rw [p1.len];omega) (fun k k1 k2=>?_) k k1 k2
  rw [p1.out k (.inl (by omega))];exact Int.le_of_lt (h3 k k1 k2)
 ·intro k k1 k2
  rw [p2.out k (.inr (by omega))]
  exact p1.all (p:=fun v=>gI q mid≤v) (by omega) hq (fun k k1 k2=>h4 k (by omega) k2) k (by omega) k2

def lowOk (a b : Nat) (l : List Int) : Prop:=∀ k,a≤k→k < b→0 < a→gI l (a - 1)≤gI l k
theorem lowOk_PO {a b : Nat} {l m : List Int} (h : PO a b l m) (hab : a≤b) (hb : b≤l.length) (hl : lowOk a b l) : lowOk a b m:=fun k k1 k2 k3=>by
 rw [h.out (a - 1) (.inl (by omega))]
 exact h.all (p:=fun v=>gI l (a - 1)≤v) hab hb (fun k k1 k2=>hl k k1 k2 k3) k k1 k2

theorem pdq_equal {x y : Nat} {R : List Int} {q : List Int} {pv v : Nat} {q' : List Int} (hxy : x≤y) (hy : y≤q.length) (r1 : PO x y q q') (r2 : x≤v) (r3 : v < y) (r4 : ∀ k,x≤k→k≤v→gI q' k = gI q pv) (hmin : ∀ k,x≤k→k < y→gI q pv≤gI q k)
  (h : srt x y q = R) : srt (v + 1) y q' = R:=by
 have hall:=r1.all (p:=fun w=>gI q pv≤w) hxy hy hmin
 have t1 : srt x y q' = srt (v + 1) y (srt x (v + 1) q'):=srt_two (by omega) (by omega) (by rw [r1.len];exact hy) (fun i j i1 i2 j1 j2=>by rw [r4 i i1 (by omega)];exact hall j (by omega) j2)
 have t2 : srt x (v + 1) q' = q':=srt_id (by omega) (by rw [r1.len];omega) (fun i j i1 i2 i3=>by rw [r4 i i1 (by omega),r4 j (by omega) (by omega)];exact Int.le_refl _)
 rw [← h,← r1.srt hxy,t1,t2]
theorem pdq_equal_low {x y : Nat} {q : List Int} {pv v : Nat} {q' : List Int} (hxy : x≤y) (hy : y≤q.length) (r1 : PO x y q q') (r2 : x≤v) (r3 : v < y) (r4 : ∀ k,x≤k→k≤v→gI q' k = gI q pv) (hmin : ∀ k,x≤k→k < y→gI q pv≤gI q k) : lowOk (v + 1) y q':=fun k k1 k2 _=>by
 rw [show v + 1 - 1 = v by omega,r4 v r2 (Nat.le_refl _)]
 exact r1.all (p:=fun w=>gI q pv≤w) hxy hy hmin k (by omega) k2

theorem pdq64_con : ∀ (N a b : Nat) (l : List Int) (lim : Nat),b - a = N→l.length≤60000→a≤b→b≤l.length→lim≤64→lowOk a b l →
  Con Try.prog 80 [.c (.osl 0),I a,I b,I lim] [arrI 2 l] (.tup []) [arrI 2 (srt a b l)]:=by
 intro N
 induction N using Nat.strongRecOn with
 | _ N ih =>
 intro a b l lim hN hl hab hb hlim hlow
 obtain ⟨R,hR⟩ : ∃ R,R = srt a b l:=⟨_,rfl⟩
 rw [← hR]
 refine C_slices_pdqsortOrdered_int64 (Nat.le_of_ble_eq_true rfl) (Nat.le_of_ble_eq_true rfl) ?_
 simp only [cz,A_slices_pdqsortOrdered_int64,argL,objL,List.length_nil,List.length_cons,Nat.zero_add,zX,simprocAttr]
 refine aw_reg 16 (RG.go fun Q hQ=>?_)
 simp (disch:=intros;contradiction) only [zS,simprocAttr]
 refine hQ (RG.nil ?_)
 simp only [zX]
 refine aw_reg 64 (RG.go fun Q hQ=>?_)
 simp (disch:=intros;contradiction) only [zS,simprocAttr]
 refine hQ (RG.nil ?_)
 simp only [zX]
 refine aw_loopK (X:={ p : List Int × Nat × Nat × Nat × Bool × Bool // p.1.length = l.length∧srt p.2.1 p.2.2.1 p.1 = R∧a≤p.2.1∧p.2.1≤p.2.2.1∧p.2.2.1≤b∧p.2.2.2.1≤64∧lowOk p.2.1 p.2.2.1 p.1 }) [0] (fun p=>[(1,I p.1.2.1),(2,I p.1.2.2.1),(3,I p.1.2.2.2.1),(8,B p.1.2.2.2.2.1),(9,B p.1.2.2.2.2.2)]) [] (fun p=>[(0,arrI 2 p.1.1)]) (fun p=>p.1.2.2.1 - p.1.2.1) (⟨(l,a,b,lim,true,true),rfl,hR.symm,by simp only;omega,hab,by simp only;omega,hlim,hlow⟩) ?_ ?_
 ·skip
  simp only [keepS,keepE,lk_cons,List.cons_append,List.nil_append,↓reduceIte]
  refine Le.lit [] [] _ _ ?_ ?_ ?_ ?_
  ·simp only [zL,simprocAttr]
  ·simp only [zL,simprocAttr]
   all_goals (try (exact drows_nrow _))
  ·simp [rlook]
  ·first | (simp;done) | (intro k hk;simp [rlook];omega)
 rintro ⟨⟨m,x,y,t,wb,wp⟩,h1,h2,h3,h4,h5,h6,h7⟩
 simp only [keepS,keepE,lk_cons,List.cons_append,List.nil_append,↓reduceIte]
 simp only [zX]
 simp only at h1 h2 h3 h4 h5 h6 h7
 have e1 : (y : Int) - x = ((y - x : Nat) : Int):=by omega
 refine aw_reg 112 (RG.go fun Q hQ=>?_)
 simp (disch:=first | (intros;contradiction) | omega | (simp only [zN];omega)) only [zS,zW,e1,simprocAttr]
 refine hQ (RG.nil ?_)
 simp only [zX]
 refine aw_reg 208 (RG.go fun Q hQ=>?_)
 simp (disch:=intros;contradiction) only [zS,simprocAttr]
 refine hQ (RG.nil ?_)
 simp only [zX]
 refine aw_cond _ rfl trivial (fun ht=>?_) (fun hf=>?_)
 ·skip
  try simp at ht
  simp only [zX]
  refine aw_reg 272 (RG.go fun Q hQ=>?_)
  simp (disch:=intros;contradiction) only [zS,simprocAttr]
  refine hQ ?_
  refine RG.callo [0] [] (insert64_con x y m (by omega) h4 (by omega)) (.mk (by (repeat' (first | exact tr_nil | refine tr_cons ?_ ?_ | exact tr_v | exact tr_osl rfl))) (by first | trivial | (simp only [zT,↓reduceIte];done) | (simp only [zT,↓reduceIte];trivial) | (simp only [zT,↓reduceIte];repeat' ((exact drows_nrow _)))) (by simp) (by simp) (trivial) (by first | (simp [lkE_cons,lkE_nil];done) | (intro j hj;simp at hj;simp only [setEs,setE_cons,setE_nil,lkE_cons,lkE_nil];repeat rw [if_neg (by omega)])) (by first | (simp [Ent.pure];done) | (simp [Ent.pure];repeat' ((exact drows_nrow _)))) (by simp) (by simp)) ?_
  refine RG.go fun Q hQ=>?_
  simp (disch:=intros;contradiction) only [zS,simprocAttr]
  refine hQ (RG.nil ?_)
  simp only [zX]
  rw [← h2]
  refine Fin.objs [] [] (.inr rfl) rfl (by first | exact trivial | exact ⟨trivial,trivial⟩ | exact ⟨trivial,trivial,trivial⟩) ?_ ?_ (by simp [objL,rlook]) (by first | (simp [objL,rlook];done) | (intro k hk;simp [objL,rlook];omega))
  ·simp only [zL]
  ·simp only [zL,simprocAttr]
   all_goals (try (exact drows_nrow _))
 try simp at hf
 simp only [zX]
 refine aw_reg 368 (RG.go fun Q hQ=>?_)
 simp (disch:=intros;contradiction) only [zS,simprocAttr]
 refine hQ (RG.nil ?_)
 simp only [zX]
 refine aw_cond _ rfl trivial (fun ht=>?_) (fun hf=>?_)
 ·skip
  try simp at ht
  simp only [zX]
  refine aw_reg 432 (RG.go fun Q hQ=>?_)
  simp (disch:=intros;contradiction) only [zS,simprocAttr]
  refine hQ ?_
  refine RG.callo [0] [] (heapSort64_con x y m (by omega) (by omega) (by omega)) (.mk (by (repeat' (first | exact tr_nil | refine tr_cons ?_ ?_ | exact tr_v | exact tr_osl rfl))) (by first | trivial | (simp only [zT,↓reduceIte];done) | (simp only [zT,↓reduceIte];trivial) | (simp only [zT,↓reduceIte];repeat' ((exact drows_nrow _)))) (by simp) (by simp) (trivial) (by first | (simp [lkE_cons,lkE_nil];done) | (intro j hj;simp at hj;simp only [setEs,setE_cons,setE_nil,lkE_cons,lkE_nil];repeat rw [if_neg (by omega)])) (by first | (simp [Ent.pure];done) | (simp [Ent.pure];repeat' ((exact drows_nrow _)))) (by simp) (by simp)) ?_
  refine RG.go fun Q hQ=>?_
  simp (disch:=intros;contradiction) only [zS,simprocAttr]
  refine hQ (RG.nil ?_)
  simp only [zX]
  rw [← h2]
  refine Fin.objs [] [] (.inr rfl) rfl (by first | exact trivial | exact ⟨trivial,trivial⟩ | exact ⟨trivial,trivial,trivial⟩) ?_ ?_ (by simp [objL,rlook]) (by first | (simp [objL,rlook];done) | (intro k hk;simp [objL,rlook];omega))
  ·simp only [zL]
  ·simp only [zL,simprocAttr]
   all_goals (try (exact drows_nrow _))
 try simp at hf
 simp only [zY]
 refine aw_joinS (Y:={ p : List Int × Nat // PO x y m p.1∧p.2≤64 }) [0,1,2,8,9,10] (fun p=>[(3,I p.1.2)]) [] (fun p=>[(0,arrI 2 p.1.1)]) (by (repeat' (first | exact cl_fin | refine cl_block ?_ | refine cl_loop ?_))) ?_ ?_
 ·skip
  simp only [zX]
  refine aw_reg 528 (RG.go fun Q hQ=>?_)
  simp (disch:=intros;contradiction) only [zS,simprocAttr]
  refine hQ (RG.nil ?_)
  simp only [zX]
  refine aw_cond _ rfl trivial (fun ht=>?_) (fun hf=>?_)
  ·skip
   try simp at ht
   simp only [zX]
   refine aw_reg 592 (RG.go fun Q hQ=>?_)
   simp (disch:=intros;contradiction) only [zS,simprocAttr]
   refine hQ ?_
   refine RG.callo [0] [] (break64_con x y m (by omega) (by omega) (by omega)) (.mk (by (repeat' (first | exact tr_nil | refine tr_cons ?_ ?_ | exact tr_v | exact tr_osl rfl))) (by first | trivial | (simp only [zT,↓reduceIte];done) | (simp only [zT,↓reduceIte];trivial) | (simp only [zT,↓reduceIte];repeat' ((exact drows_nrow _)))) (by simp) (by simp) (trivial) (by first | (simp [lkE_cons,lkE_nil];done) | (intro j hj;simp at hj;simp only [setEs,setE_cons,setE_nil,lkE_cons,lkE_nil];repeat rw [if_neg (by omega)])) (by first | (simp [Ent.pure];done) | (simp [Ent.pure];repeat' ((exact drows_nrow _)))) (by simp) (by simp)) ?_
   refine RG.go fun Q hQ=>?_
   simp (disch:=intros;contradiction) only [zS,simprocAttr]
   refine hQ (RG.nil ?_)
   simp only [zX]
   refine aw_reg 688 (RG.go fun Q hQ=>?_)
   simp (disch:=first | (intros;contradiction) | omega | (simp only [zN];omega)) only [zS,zW,simprocAttr]
   refine hQ (RG.nil ?_)
   simp only [zX]
   refine ⟨⟨(brk x (y - x) 3 m (x + (y - x) / 4 * 2 - 1) (y - x : Nat),t - 1),brk_PO (by omega) (by omega) (by omega) 3 m _ _ (by omega) (by omega) (by omega),by simp only;omega⟩,?_⟩
   simp only [keepS,keepE,lk_cons,List.cons_append,List.nil_append,simprocAttr]
   refine Le.lit [] [] _ _ ?_ ?_ ?_ ?_
   ·simp only [zL,simprocAttr]
    all_goals (try ((repeat' ((congr 1;omega)))))
   ·simp only [zL,simprocAttr]
    all_goals (try (exact drows_nrow _))
   ·simp [rlook]
   ·first | (simp;done) | (intro k hk;simp [rlook];omega)
  try simp at hf
  simp only [zX]
  refine ⟨⟨(m,t),PO.refl _ _ _,h6⟩,?_⟩
  simp only [keepS,keepE,lk_cons,List.cons_append,List.nil_append,simprocAttr]
  refine Le.lit [] [] _ _ ?_ ?_ ?_ ?_
  ·simp only [zL,simprocAttr]
  ·simp only [zL,simprocAttr]
   all_goals (try (exact drows_nrow _))
  ·simp [rlook]
  ·first | (simp;done) | (intro k hk;simp [rlook];omega)
 rintro ⟨⟨q,u⟩,k1,k2⟩
 simp only [keepS,keepE,lk_cons,List.cons_append,List.nil_append,simprocAttr]
 simp only [zX]
 simp only at k1 k2
 have kl:=k1.len
 refine aw_reg 768 (RG.go fun Q hQ=>?_)
 simp (disch:=intros;contradiction) only [zS,simprocAttr]
 refine hQ ?_
 refine RG.callo [0] [] (choose64_con x y q (by omega) (by omega) (by omega)) (.mk (by (repeat' (first | exact tr_nil | refine tr_cons ?_ ?_ | exact tr_v | exact tr_osl rfl))) (by first | trivial | (simp only [zT,↓reduceIte];done) | (simp only [zT,↓reduceIte];trivial) | (simp only [zT,↓reduceIte];repeat' ((exact drows_nrow _)))) (by simp) (by simp) (trivial) (by first | (simp [lkE_cons,lkE_nil];done) | (intro j hj;simp at hj;simp only [setEs,setE_cons,setE_nil,lkE_cons,lkE_nil];repeat rw [if_neg (by omega)])) (by first | (simp [Ent.pure];done) | (simp [Ent.pure];repeat' ((exact drows_nrow _)))) (by simp) (by simp)) ?_
 refine RG.go fun Q hQ=>?_
 simp (disch:=intros;contradiction) only [zS,simprocAttr]
 have hcp:=cpF_in (l:=q) (a:=x) (b:=y) (by omega) (by omega)
 generalize cpF q x y = cp at hcp
 obtain ⟨pv,sw⟩:=cp
 simp only at hcp
 refine hQ (RG.nil ?_)
 simp only [zY]
 have e2 : (y : Int) - 1 - ((pv : Int) - x) = ((y - 1 - (pv - x) : Nat) : Int):=by omega
 refine aw_joinS (Y:={ p : List Int × Nat × Int // PO x y m p.1∧x≤p.2.1∧p.2.1 < y }) [0,1,2,3,8,9,10] (fun p=>[(11,I p.1.2.1),(12,I p.1.2.2)]) [] (fun p=>[(0,arrI 2 p.1.1)]) (by (repeat' (first | exact cl_fin | refine cl_block ?_ | refine cl_loop ?_))) ?_ ?_
 ·skip
  simp only [zX]
  refine aw_reg 944 (RG.go fun Q hQ=>?_)
  simp (disch:=intros;contradiction) only [zS,simprocAttr]
  refine hQ (RG.nil ?_)
  simp only [zX]
  refine aw_cond _ rfl trivial (fun ht=>?_) (fun hf=>?_)
  ·skip
   try simp at ht
   simp only [zX]
   refine aw_reg 1008 (RG.go fun Q hQ=>?_)
   simp (disch:=intros;contradiction) only [zS,simprocAttr]
   refine hQ ?_
   refine RG.callo [0] [] (rev64_con x y q (by omega) (by omega) (by omega)) (.mk (by (repeat' (first | exact tr_nil | refine tr_cons ?_ ?_ | exact tr_v | exact tr_osl rfl))) (by first | trivial | (simp only [zT,↓reduceIte];done) | (simp only [zT,↓reduceIte];trivial) | (simp only [zT,↓reduceIte];repeat' ((exact drows_nrow _)))) (by simp) (by simp) (trivial) (by first | (simp [lkE_cons,lkE_nil];done) | (intro j hj;simp at hj;simp only [setEs,setE_cons,setE_nil,lkE_cons,lkE_nil];repeat rw [if_neg (by omega)])) (by first | (simp [Ent.pure];done) | (simp [Ent.pure];repeat' ((exact drows_nrow _)))) (by simp) (by simp)) ?_
   refine RG.go fun Q hQ=>?_
   simp (disch:=intros;contradiction) only [zS,simprocAttr]
   refine hQ (RG.nil ?_)
   simp only [zX]
   refine aw_reg 1104 (RG.go fun Q hQ=>?_)
   simp (disch:=first | (intros;contradiction) | omega | (simp only [zN];omega)) only [zS,zW,e2,simprocAttr]
   refine hQ (RG.nil ?_)
   simp only [zX]
   refine aw_reg 1248 (RG.go fun Q hQ=>?_)
   simp (disch:=intros;contradiction) only [zS,simprocAttr]
   refine hQ (RG.nil ?_)
   simp only [zX]
   refine ⟨⟨(revL q x (y - 1),y - 1 - (pv - x),1),k1.trans (revL_PO x y _ q x (y - 1) (Nat.le_refl _) (Nat.le_refl _) (by omega) (by omega)),by simp only;omega,by simp only;omega⟩,?_⟩
   simp only [keepS,keepE,lk_cons,List.cons_append,List.nil_append,simprocAttr]
   refine Le.lit [] [] _ _ ?_ ?_ ?_ ?_
   ·simp only [zL,simprocAttr]
   ·simp only [zL,simprocAttr]
    all_goals (try (exact drows_nrow _))
   ·simp [rlook]
   ·first | (simp;done) | (intro k hk;simp [rlook];omega)
  try simp at hf
  simp only [zX]
  refine ⟨⟨(q,pv,hintF sw),k1,hcp.1,hcp.2⟩,?_⟩
  simp only [keepS,keepE,lk_cons,List.cons_append,List.nil_append,simprocAttr]
  refine Le.lit [] [] _ _ ?_ ?_ ?_ ?_
  ·simp only [zL,simprocAttr]
  ·simp only [zL,simprocAttr]
   all_goals (try (exact drows_nrow _))
  ·simp [rlook]
  ·first | (simp;done) | (intro k hk;simp [rlook];omega)
 rintro ⟨⟨q2,pv2,hh⟩,l1,l2,l3⟩
 simp only [keepS,keepE,lk_cons,List.cons_append,List.nil_append,simprocAttr]
 simp only at l1 l2 l3
 have ll:=l1.len
 refine aw_joinS (Y:={ p : List Int // PO x y m p }) [0,1,2,3,8,9,10,11] (fun p=>[]) [] (fun p=>[(0,arrI 2 p.1)]) (by (repeat' (first | exact cl_fin | refine cl_block ?_ | refine cl_loop ?_))) ?_ ?_
 ·skip
  simp only [zX]
  refine aw_reg 1296 (RG.go fun Q hQ=>?_)
  simp (disch:=intros;contradiction) only [zS,simprocAttr]
  refine hQ (RG.nil ?_)
  simp only [zX]
  refine aw_cond _ rfl trivial (fun ht=>?_) (fun hf=>?_)
  ·skip
   try simp at ht
   simp only [zX]
   refine aw_reg 1456 (RG.go fun Q hQ=>?_)
   simp (disch:=intros;contradiction) only [zS,simprocAttr]
   refine hQ ?_
   refine RG.callo [0] [] (pis64_con x y q2 (by omega) (by omega) (by omega)) (.mk (by (repeat' (first | exact tr_nil | refine tr_cons ?_ ?_ | exact tr_v | exact tr_osl rfl))) (by first | trivial | (simp only [zT,↓reduceIte];done) | (simp only [zT,↓reduceIte];trivial) | (simp only [zT,↓reduceIte];repeat' ((exact drows_nrow _)))) (by simp) (by simp) (trivial) (by first | (simp [lkE_cons,lkE_nil];done) | (intro j hj;simp at hj;simp only [setEs,setE_cons,setE_nil,lkE_cons,lkE_nil];repeat rw [if_neg (by omega)])) (by first | (simp [Ent.pure];done) | (simp [Ent.pure];repeat' ((exact drows_nrow _)))) (by simp) (by simp)) ?_
   refine RG.go fun Q hQ=>?_
   simp (disch:=intros;contradiction) only [zS,simprocAttr]
   refine hQ (RG.nil ?_)
   simp only [zX]
   refine aw_cond _ rfl trivial (fun ht=>?_) (fun hf=>?_)
   ·skip
    try simp at ht
    simp only [zX]
    obtain ⟨s1,s2⟩:=pis_spec x y 5 q2 (x + 1) (by omega) (by omega) (by omega) (fun i k i1 i2 i3=>by rw [show i = k by omega];exact Int.le_refl _) (lowOk_PO l1 h4 (by omega) h7)
    have s3:=srt_id h4 (by rw [s1.len];omega) (s2 ht)
    rw [s1.srt h4,l1.srt h4] at s3
    rw [← h2,s3]
    refine Fin.objs [] [] (.inr rfl) rfl (by first | exact trivial | exact ⟨trivial,trivial⟩ | exact ⟨trivial,trivial,trivial⟩) ?_ ?_ (by simp [objL,rlook]) (by first | (simp [objL,rlook];done) | (intro k hk;simp [objL,rlook];omega))
    ·simp only [zL]
    ·simp only [zL,simprocAttr]
     all_goals (try (exact drows_nrow _))
   try simp at hf
   simp only [zX]
   refine ⟨⟨(pis x y 5 q2 (x + 1)).1,l1.trans (pis_spec x y 5 q2 (x + 1) (by omega) (by omega) (by omega) (fun i k i1 i2 i3=>by rw [show i = k by omega];exact Int.le_refl _) (lowOk_PO l1 h4 (by omega) h7)).1⟩,?_⟩
   simp only [keepS,keepE,lk_cons,List.cons_append,List.nil_append,simprocAttr]
   refine Le.lit [] [] _ _ ?_ ?_ ?_ ?_
   ·simp only [zL,simprocAttr]
   ·simp only [zL,simprocAttr]
    all_goals (try (exact drows_nrow _))
   ·simp [rlook]
   ·first | (simp;done) | (intro k hk;simp [rlook];omega)
  try simp at hf
  simp only [zX]
  refine ⟨⟨q2,l1⟩,?_⟩
  simp only [keepS,keepE,lk_cons,List.cons_append,List.nil_append,simprocAttr]
  refine Le.lit [] [] _ _ ?_ ?_ ?_ ?_
  ·simp only [zL,simprocAttr]
  ·simp only [zL,simprocAttr]
   all_goals (try (exact drows_nrow _))
  ·simp [rlook]
  ·first | (simp;done) | (intro k hk;simp [rlook];omega)
 rintro ⟨q3,n1⟩
 simp only [keepS,keepE,lk_cons,List.cons_append,List.nil_append,simprocAttr]
 have nl:=n1.len
 have nlow:=lowOk_PO n1 h4 (by omega) h7
 have e3 : 0 < x→(x : Int) - 1 = ((x - 1 : Nat) : Int):=fun h=>by omega
 refine aw_joinS (Y:=Unit) [0,1,2,3,10,11] (fun z=>[]) [] (fun z=>[(0,arrI 2 q3)]) (by (repeat' (first | exact cl_fin | refine cl_block ?_ | refine cl_loop ?_))) ?_ ?_
 ·skip
  simp only [zX]
  by_cases hx : 0 < x
  ·skip
   have e3':=e3 hx
   refine aw_draw 1552 (RG.go fun Q hQ=>?_)
   simp (disch:=first | (intros;contradiction) | omega | (simp only [zN];omega)) only [zS,zW,nrow,gI_get',e3',simprocAttr]
   repeat refine ⟨by ((simp;omega)),?_⟩
   refine hQ ?_
   refine RG.callg _ _ [] rfl (fun hg=>⟨_,(cmp_Less64_con _ _),by (repeat' (first | exact tr_nil | refine tr_cons ?_ ?_ | exact tr_opt (by simpa using hg) tr_v)),trivial,by (exact .inl trivial)⟩) ?_
   refine RG.go fun Q hQ=>?_
   simp (disch:=intros;contradiction) only [zS,simprocAttr]
   refine hQ (RG.nil ⟨by decide +kernel,?_⟩)
   simp only [zX]
   refine aw_cond _ rfl trivial (fun ht=>?_) (fun hf=>?_)
   ·skip
    try simp at ht
    simp only [zX]
    refine aw_reg 1824 (RG.go fun Q hQ=>?_)
    simp (disch:=intros;contradiction) only [zS,simprocAttr]
    refine hQ ?_
    refine RG.callo [0] [] (partEqual64_con x y pv2 q3 (by omega) (by omega) (by omega) ⟨l2,l3⟩) (.mk (by (repeat' (first | exact tr_nil | refine tr_cons ?_ ?_ | exact tr_v | exact tr_osl rfl))) (by first | trivial | (simp only [zT,↓reduceIte];done) | (simp only [zT,↓reduceIte];trivial) | (simp only [zT,↓reduceIte];repeat' ((exact drows_nrow _)))) (by simp) (by simp) (trivial) (by first | (simp [lkE_cons,lkE_nil];done) | (intro j hj;simp at hj;simp only [setEs,setE_cons,setE_nil,lkE_cons,lkE_nil];repeat rw [if_neg (by omega)])) (by first | (simp [Ent.pure];done) | (simp [Ent.pure];repeat' ((exact drows_nrow _)))) (by simp) (by simp)) ?_
    refine RG.go fun Q hQ=>?_
    simp (disch:=intros;contradiction) only [zS,simprocAttr]
    have hmin : ∀ k,x≤k→k < y→gI q3 pv2≤gI q3 k:=fun k k1 k2=>Int.le_trans (by have:=ht.2;omega) (nlow k k1 k2 hx)
    obtain ⟨r1,r2,r3,r4⟩:=partE_spec (by omega) (by omega) ⟨l2,l3⟩ hmin
    have e4 : ((partE q3 x y pv2).2 : Int) + 1 = (((partE q3 x y pv2).2 + 1 : Nat) : Int):=by omega
    have hE:=pdq_equal (R:=R) h4 (show y≤q3.length by omega) r1 r2 r3 r4 hmin ((n1.srt h4).trans h2)
    have hF:=pdq_equal_low h4 (show y≤q3.length by omega) r1 r2 r3 r4 hmin
    refine hQ (RG.nil ?_)
    simp only [zX]
    refine aw_reg 1952 (RG.go fun Q hQ=>?_)
    simp (disch:=intros;contradiction) only [zS,e4,simprocAttr]
    refine hQ (RG.nil ?_)
    simp only [zX,↓reduceIte]
    refine ⟨⟨((partE q3 x y pv2).1,(partE q3 x y pv2).2 + 1,y,u,wb,wp),by simp only;rw [r1.len];omega,hE,by simp only;omega,by simp only;omega,by simp only;omega,by simp only;omega,hF⟩,?_,by first | omega | (simp only;omega)⟩
    refine Le.lit [] [] _ _ ?_ ?_ ?_ ?_
    ·simp only [zL,simprocAttr]
    ·simp only [zL,simprocAttr]
     all_goals (try (exact drows_nrow _))
    ·simp [rlook]
    ·first | (simp;done) | (intro k hk;simp [rlook];omega)
   try simp at hf
   simp only [zX]
   refine ⟨(),?_⟩
   simp only [keepS,keepE,lk_cons,List.cons_append,List.nil_append,simprocAttr]
   refine Le.lit [] [] _ _ ?_ ?_ ?_ ?_
   ·simp only [zL,simprocAttr]
   ·simp only [zL,simprocAttr]
    all_goals (try (exact drows_nrow _))
   ·simp [rlook]
   ·first | (simp;done) | (intro k hk;simp [rlook];omega)
  refine aw_draw 2016 (RG.go fun Q hQ=>?_)
  simp (disch:=first | (intros;contradiction) | omega | (simp only [zN];omega)) only [zS,zW,nrow,gI_get',simprocAttr]
  repeat refine ⟨by ((simp;omega)),?_⟩
  refine hQ ?_
  refine RG.callg (res:=B false) _ _ [] rfl (fun hg=>by simp at hg;omega) ?_
  refine RG.go fun Q hQ=>?_
  simp (disch:=intros;contradiction) only [zS,simprocAttr]
  refine hQ (RG.nil ⟨by decide +kernel,?_⟩)
  simp only [zX]
  refine aw_cond _ rfl trivial (fun ht=>by simp at ht <;> omega) (fun hf=>?_)
  simp only [zX]
  refine ⟨(),?_⟩
  simp only [keepS,keepE,lk_cons,List.cons_append,List.nil_append,simprocAttr]
  refine Le.lit [] [] _ _ ?_ ?_ ?_ ?_
  ·simp only [zL,simprocAttr]
  ·simp only [zL,simprocAttr]
   all_goals (try (exact drows_nrow _))
  ·simp [rlook]
  ·first | (simp;done) | (intro k hk;simp [rlook];omega)
 rintro ⟨⟩
 simp only [keepS,keepE,lk_cons,List.cons_append,List.nil_append,simprocAttr]
 simp only [zX]
 refine aw_reg 2288 (RG.go fun Q hQ=>?_)
 simp (disch:=intros;contradiction) only [zS,simprocAttr]
 refine hQ ?_
 refine RG.callo [0] [] (partition64_con x y pv2 q3 (by omega) (by omega) (by omega) ⟨l2,l3⟩) (.mk (by (repeat' (first | exact tr_nil | refine tr_cons ?_ ?_ | exact tr_v | exact tr_osl rfl))) (by first | trivial | (simp only [zT,↓reduceIte];done) | (simp only [zT,↓reduceIte];trivial) | (simp only [zT,↓reduceIte];repeat' ((exact drows_nrow _)))) (by simp) (by simp) (trivial) (by first | (simp [lkE_cons,lkE_nil];done) | (intro j hj;simp at hj;simp only [setEs,setE_cons,setE_nil,lkE_cons,lkE_nil];repeat rw [if_neg (by omega)])) (by first | (simp [Ent.pure];done) | (simp [Ent.pure];repeat' ((exact drows_nrow _)))) (by simp) (by simp)) ?_
 refine RG.go fun Q hQ=>?_
 simp (disch:=intros;contradiction) only [zS,simprocAttr]
 obtain ⟨r1,r2,r3,r4,r5⟩:=partF_spec (show x + 1 < y by omega) (show y≤q3.length by omega) ⟨l2,l3⟩
 generalize partF q3 x y pv2 = pf at r1 r2 r3 r4 r5
 generalize partB q3 x y pv2 = pb
 obtain ⟨q4,mid⟩:=pf
 simp only at r1 r2 r3 r4 r5
 have rl:=r1.len
 have hq4 : srt x y q4 = R:=by rw [r1.srt h4,n1.srt h4];exact h2
 have rlow:=lowOk_PO r1 h4 (by omega) nlow
 have e5 : (mid : Int) - x = ((mid - x : Nat) : Int):=by omega
 have e6 : (y : Int) - mid = ((y - mid : Nat) : Int):=by omega
 have e7 : ((y - x : Nat) : Int) / 8 = (((y - x) / 8 : Nat) : Int):=by omega
 have e8 : (mid : Int) + 1 = ((mid + 1 : Nat) : Int):=by omega
 refine hQ (RG.nil ?_)
 simp only [zX]
 refine aw_reg 2480 (RG.go fun Q hQ=>?_)
 simp (disch:=intros;contradiction) only [zS,simprocAttr]
 refine hQ (RG.nil ?_)
 simp only [zX]
 refine aw_reg 2544 (RG.go fun Q hQ=>?_)
 simp (disch:=first | (intros;contradiction) | omega | (simp only [zN];omega)) only [zS,zW,e5,e6,simprocAttr]
 refine hQ (RG.nil ?_)
 simp only [zX]
 refine aw_reg 2704 (RG.go fun Q hQ=>?_)
 simp (disch:=first | (intros;contradiction) | omega | (simp only [zN];omega)) only [zS,zW,e7,simprocAttr]
 repeat refine ⟨by (omega),?_⟩
 refine hQ (RG.nil ?_)
 simp only [zX]
 refine aw_reg 2784 (RG.go fun Q hQ=>?_)
 simp (disch:=intros;contradiction) only [zS,simprocAttr]
 refine hQ (RG.nil ?_)
 simp only [zX]
 refine aw_cond _ rfl trivial (fun ht=>?_) (fun hf=>?_)
 ·skip
  try simp at ht
  simp only [zX]
  refine aw_reg 2864 (RG.go fun Q hQ=>?_)
  simp (disch:=intros;contradiction) only [zS,simprocAttr]
  refine hQ (RG.nil ?_)
  simp only [zX]
  refine aw_reg 2960 (RG.go fun Q hQ=>?_)
  simp (disch:=intros;contradiction) only [zS,simprocAttr]
  refine hQ ?_
  refine RG.callo [0] [] (ih (mid - x) (by omega) x mid q4 u rfl (by omega) r2 (by omega) k2 (fun k k1 k2 k3=>rlow k k1 (by omega) k3)) (.mk (by (repeat' (first | exact tr_nil | refine tr_cons ?_ ?_ | exact tr_v | exact tr_osl rfl))) (by first | trivial | (simp only [zT,↓reduceIte];done) | (simp only [zT,↓reduceIte];trivial) | (simp only [zT,↓reduceIte];repeat' ((exact drows_nrow _)))) (by simp) (by simp) (trivial) (by first | (simp [lkE_cons,lkE_nil];done) | (intro j hj;simp at hj;simp only [setEs,setE_cons,setE_nil,lkE_cons,lkE_nil];repeat rw [if_neg (by omega)])) (by first | (simp [Ent.pure];done) | (simp [Ent.pure];repeat' ((exact drows_nrow _)))) (by simp) (by simp)) ?_
  refine RG.go fun Q hQ=>?_
  simp (disch:=intros;contradiction) only [zS,simprocAttr]
  refine hQ (RG.nil ?_)
  simp only [zX]
  have p1:=srt_PO (l:=q4) r2 (by omega)
  have hF : lowOk (mid + 1) y (srt x mid q4):=fun k k1 k2 _=>by rw [show mid + 1 - 1 = mid by omega,p1.out mid (.inr (by omega)),p1.out k (.inr (by omega))];exact r5 k (by omega) k2
  refine aw_reg 3072 (RG.go fun Q hQ=>?_)
  simp (disch:=first | (intros;contradiction) | omega | (simp only [zN];omega)) only [zS,zW,e8,simprocAttr]
  refine hQ (RG.nil ?_)
  simp only [zX]
  refine ⟨⟨(srt x mid q4,mid + 1,y,u,decide ((((y - x) / 8 : Nat) : Int)≤((mid - x : Nat) : Int)),pb),by simp only;rw [p1.len];omega,by simp only;rw [pdq_left r2 r3 (by omega) r4 r5];exact hq4,by simp only;omega,by simp only;omega,by simp only;omega,by simp only;omega,hF⟩,?_,by first | omega | (simp only;omega)⟩
  refine Le.lit [] [] _ _ ?_ ?_ ?_ ?_
  ·simp only [zL,simprocAttr]
  ·simp only [zL,simprocAttr]
   all_goals (try (exact drows_nrow _))
  ·simp [rlook]
  ·first | (simp;done) | (intro k hk;simp [rlook];omega)
 try simp at hf
 simp only [zX]
 refine aw_reg 3152 (RG.go fun Q hQ=>?_)
 simp (disch:=intros;contradiction) only [zS,simprocAttr]
 refine hQ (RG.nil ?_)
 simp only [zX]
 refine aw_reg 3248 (RG.go fun Q hQ=>?_)
 simp (disch:=first | (intros;contradiction) | omega | (simp only [zN];omega)) only [zS,zW,e8,simprocAttr]
 refine hQ ?_
 refine RG.callo [0] [] (ih (y - (mid + 1)) (by omega) (mid + 1) y q4 u rfl (by omega) (by omega) (by omega) k2 (fun k k1 k2 _=>by rw [show mid + 1 - 1 = mid by omega];exact r5 k (by omega) k2)) (.mk (by (repeat' (first | exact tr_nil | refine tr_cons ?_ ?_ | exact tr_v | exact tr_osl rfl))) (by first | trivial | (simp only [zT,↓reduceIte];done) | (simp only [zT,↓reduceIte];trivial) | (simp only [zT,↓reduceIte];repeat' ((exact drows_nrow _)))) (by simp) (by simp) (trivial) (by first | (simp [lkE_cons,lkE_nil];done) | (intro j hj;simp at hj;simp only [setEs,setE_cons,setE_nil,lkE_cons,lkE_nil];repeat rw [if_neg (by omega)])) (by first | (simp [Ent.pure];done) | (simp [Ent.pure];repeat' ((exact drows_nrow _)))) (by simp) (by simp)) ?_
 refine RG.go fun Q hQ=>?_
 simp (disch:=intros;contradiction) only [zS,simprocAttr]
 refine hQ (RG.nil ?_)
 simp only [zX]
 have p1:=srt_PO (l:=q4) (show mid + 1≤y by omega) (by omega)
 have hF : lowOk x mid (srt (mid + 1) y q4):=fun k k1 k2 k3=>by rw [p1.out (x - 1) (.inl (by omega)),p1.out k (.inl (by omega))];exact rlow k k1 (by omega) k3
 refine aw_reg 3376 (RG.go fun Q hQ=>?_)
 simp (disch:=intros;contradiction) only [zS,simprocAttr]
 refine hQ (RG.nil ?_)
 simp only [zX]
 refine ⟨⟨(srt (mid + 1) y q4,x,mid,u,decide ((((y - x) / 8 : Nat) : Int)≤((y - mid : Nat) : Int)),pb),by simp only;rw [p1.len];omega,by simp only;rw [pdq_right r2 r3 (by omega) r4 r5];exact hq4,by simp only;omega,by simp only;omega,by simp only;omega,by simp only;omega,hF⟩,?_,by first | omega | (simp only;omega)⟩
 refine Le.lit [] [] _ _ ?_ ?_ ?_ ?_
 ·simp only [zL,simprocAttr]
 ·simp only [zL,simprocAttr]
  all_goals (try (exact drows_nrow _))
 ·simp [rlook]
 ·first | (simp;done) | (intro k hk;simp [rlook];omega)

theorem sort64_con (l : List Int) (hl : l.length≤60000) : Con Try.prog 66 [.c (.osl 0)] [arrI 2 l] (.tup []) [arrI 2 (isort l)]:=by
 have hb:=bitLen_small (n:=l.length) (k:=16) (by omega)
 have hs : srt 0 l.length l = isort l:=by
  unfold srt seg
  simp
 rw [← hs]
 refine C_slices_Sort_int64_int64 (Nat.le_of_ble_eq_true rfl) (Nat.le_of_ble_eq_true rfl) ?_
 simp only [cz,A_slices_Sort_int64_int64,argL,objL,List.length_nil,List.length_cons,Nat.zero_add,zX]
 refine aw_reg 16 (RG.go fun Q hQ=>?_)
 simp (disch:=intros;contradiction) only [zS,zW,simprocAttr]
 refine hQ (RG.nil ?_)
 simp only [zX]
 refine aw_reg 96 (RG.go fun Q hQ=>?_)
 simp (disch:=first | (intros;contradiction) | omega | (simp only [zN];omega)) only [zS,zW,simprocAttr]
 refine hQ ?_
 refine RG.call [] (len_con l.length (by omega)) (by (repeat' (first | exact tr_nil | refine tr_cons ?_ ?_ | exact tr_v))) trivial (by (exact .inl trivial)) ?_
 refine RG.go fun Q hQ=>?_
 simp (disch:=intros;contradiction) only [zS,simprocAttr]
 refine hQ ?_
 refine RG.callo [0] [] (pdq64_con l.length 0 l.length l (bitLen l.length) rfl (by omega) (by omega) (by omega) (by omega) (fun k k1 k2 k3=>by omega)) (.mk (by (repeat' (first | exact tr_nil | refine tr_cons ?_ ?_ | exact tr_v | exact tr_osl rfl))) (by first | trivial | (simp only [zT,↓reduceIte];done) | (simp only [zT,↓reduceIte];trivial) | (simp only [zT,↓reduceIte];repeat' ((exact drows_nrow _)))) (by simp) (by simp) (trivial) (by first | (simp [lkE_cons,lkE_nil];done) | (intro j hj;simp at hj;simp only [setEs,setE_cons,setE_nil,lkE_cons,lkE_nil];repeat rw [if_neg (by omega)])) (by first | (simp [Ent.pure];done) | (simp [Ent.pure];repeat' ((exact drows_nrow _)))) (by simp) (by simp)) ?_
 refine RG.go fun Q hQ=>?_
 simp (disch:=intros;contradiction) only [zS,simprocAttr]
 refine hQ (RG.nil ?_)
 refine Fin.objs [] [] (.inl rfl) rfl (by first | exact trivial | exact ⟨trivial,trivial⟩ | exact ⟨trivial,trivial,trivial⟩) ?_ ?_ (by simp [objL,rlook]) (by first | (simp [objL,rlook];done) | (intro k hk;simp [objL,rlook];omega))
 ·simp only [zL]
 ·simp only [zL,simprocAttr]
  all_goals (try (exact drows_nrow _))

end Go.Abs

namespace Go.Abs
open Go Go.Proofs
set_option maxRecDepth 100000
set_option linter.unusedSimpArgs false
set_option maxHeartbeats 4000000

theorem Le.win {n : Nat} {l : SL} {es : EL} (t id fr : Nat) (E : TypeId) (s k : Nat) (rows : List (List C)) (ht : lk .dead l t = .c (.ow id 0 k)) (hid : lkE es id = some (.arr E s rows false)) (hfr : lkE es fr = none) (hk : k≤rows.length) :
  Le n (mkSt l es) (mkSt (setS t (.c (.osl fr)) l) (setE fr (.arr E s (rows.take k) false) (setE id .gone es))):=by
 intro g m tmps w _ hR
 have hne : fr≠id:=by rintro rfl;rw [hfr] at hid;cases hid
 have hs:=(hR.ent id _ hid).1
 have he : mkSt (setS t (.c (.osl fr)) l) (setE fr (.arr E s (rows.take k) false) (setE id .gone es)) = { sl:=upd (lk .dead l) t (.c (.osl fr)),σ:=upd (upd (lkE es) id (some .gone)) fr (some (.arr E s (rows.take k) false)) }:=by
  unfold mkSt;rw [lk_setS,lkE_setE,lkE_setE]
 have h0 : RSV (g.env m (mkSt l es) w) (.c (.ow id 0 k)) (tmps.getD t undef):=by
  have h0:=hR.slot t
  have : (mkSt l es).sl t = .c (.ow id 0 k):=ht
  rw [this] at h0;exact h0
 obtain ⟨a,ha,hc⟩:=h0
 have ha' : lkE es id = some a:=ha
 rw [hid] at ha';cases ha'
 obtain ⟨b,o,cap,cur,hm,g1,g2,hv,k1,k2,k3,k4⟩:=hc
 have ho:=k4 rfl
 subst ho
 have hE:=hR.ent id _ hid
 rw [show m id = some b from hm] at hE
 obtain ⟨_,hrl,⟨h,_⟩ | ⟨b',cur',cap',h,q1,q2,q3,q4,q5⟩⟩:=hE
 ·cases h
 cases h
 have g1' : w.heap[b]? = some (.cells cur E (0,0)):=g1
 have q1' : w.heap[b]? = some (.cells cur' E (0,0)):=q1
 rw [g1'] at q1';cases q1'
 have hce : cap = cap':=Nat.eq_of_mul_eq_mul_right hs (by omega)
 subst hce
 have hR':=hR.moved (rows':=rows.take k) hfr hid hm (w':=w) rfl (fun _ _=>rfl) rfl rfl rfl (fun hle=>⟨hs,fun r hr=>hrl r (List.mem_of_mem_take hr),.inr ⟨b,cur,cap,rfl,g1,g2,by simp;omega,q4,fun i r j c h1 h2=>by
  obtain ⟨x,hx,hxr⟩:=q5 i r j c (take_get h1) h2
  exact ⟨x,hx,RC.le hle hxr⟩⟩⟩)
 refine ⟨upd m fr (some b),?_⟩
 rw [he]
 refine ⟨hR'.frame,fun t'=>?_,hR'.ent,hR'.place,hR'.inj,hR'.gr,hR'.org⟩
 show RSV _ (upd (lk .dead l) t (.c (.osl fr)) t') _
 rw [upd_apply]
 split
 ·rename_i h
  subst h
  rw [hv]
  refine ⟨.arr E s (rows.take k) false,?_,?_⟩
  ·show upd _ _ _ _ = _;rw [upd_apply,if_pos rfl]
  ·show (match upd m fr (some b) fr with | none=>_ | some b=>_)
   rw [upd_apply,if_pos rfl]
   have hlen : (rows.take k).length = k:=by simp;omega
   exact ⟨cur,cap,g1,g2,by rw [hlen,Nat.sub_zero]⟩
 ·exact hR'.slot t'

theorem Fin.win {rs : List AR} {E : TypeId} {s k : Nat} {rows rows' : List (List C)} {e : Exit} {l : SL} {es : EL} (F : Nat) (he : e = .normal∨e = .ret) (h : resV (mkSt l es) rs = some (.c (.ow 0 0 k))) (hp : resPre (mkSt l es) rs)
  (h0 : lkE es 0 = some (.arr E s rows false)) (hF : lkE es F = none) (hk : k≤rows.length) (hr : rows.take k = rows') (hd : isDRows rows') : FinQ 1 rs (.c (.osl 1)) [.gone,.arr E s rows' false] e (mkSt l es):=by
 subst hr
 refine ⟨_,Le.refl _ _,he,_,h,hp,?_⟩
 have hF0 : F≠0:=by rintro rfl;rw [hF] at h0;cases h0
 have e0 : ({ sl:=upd (fun _=>.dead) 0 (.c (.ow 0 0 k)),σ:=(mkSt l es).σ } : St) = mkSt [(0,.c (.ow 0 0 k))] es:=by
  unfold mkSt
  congr 1
 rw [e0]
 refine (Le.win 0 0 F E s k rows rfl h0 hF hk).trans ?_
 have h2:=Le.mk (n:=1) (st:=mkSt (setS 0 (.c (.osl F)) [(0,.c (.ow 0 0 k))]) (setE F (.arr E s (rows.take k) false) (setE 0 .gone es))) [(1,F)] [(0,.c (.osl 1))] [(0,.gone),(1,.arr E s (rows.take k) false)]
  ⟨⟨by simp [rlook],by simp [lkE]⟩,trivial⟩
  ⟨⟨.gone,by simp [rlook,mkSt,lkE_setE,upd_apply,Ne.symm hF0],trivial⟩,⟨.arr E s (rows.take k) false,by simp [rlook,mkSt,lkE_setE,upd_apply],rfl,rfl,rfl,.inl rfl,hd⟩,trivial⟩
  (by simp [rlook,Ne.symm hF0]) (by intro k hk;obtain rfl : k = 0:=(by omega);simp [rlook])
 have e1 : mkSt [(0,.c (.osl 1))] [(0,.gone),(1,.arr E s (rows.take k) false)] = { sl:=upd (fun _=>.dead) 0 (.c (.osl 1)),σ:=fun i=>([.gone,.arr E s (rows.take k) false] : List Ent)[i]? }:=by
  unfold mkSt
  congr 1
  funext t
  rcases t with _ | _ | t <;> simp [lkE]
 rw [e1] at h2
 exact h2

theorem delete64_con (l : List Int) (i j : Nat) (hl : l.length≤1000000) (hij : i < j) (hj : j≤l.length) :
  Con Try.prog 68 [.c (.osl 0),I i,I j] [arrI 2 l] (.c (.osl 1)) [.gone,arrI 2 (l.take i ++ l.drop j)]:=by
 have hne : l.map nrow≠[]:=by intro h;rw [List.map_eq_nil_iff] at h;subst h;simp at hj;omega
 have e1 : i + min (l.length - j) (l.length - j) = i + (l.length - j):=by omega
 refine C_slices_Delete_int64_int64 (Nat.le_of_ble_eq_true rfl) (Nat.le_of_ble_eq_true rfl) ?_
 simp only [cz,A_slices_Delete_int64_int64,argL,objL,List.length_nil,List.length_cons,Nat.zero_add,zX,simprocAttr]
 refine aw_reg 16 (RG.go fun Q hQ=>?_)
 simp (disch:=intros;contradiction) only [zS,simprocAttr]
 refine hQ (RG.nil ?_)
 simp only [zX]
 refine aw_reg 64 (RG.go fun Q hQ=>?_)
 simp (disch:=intros;contradiction) only [zS,zW,simprocAttr]
 repeat refine ⟨by (omega),?_⟩
 refine hQ (RG.nil ?_)
 simp only [zX]
 refine aw_reg 192 (RG.go fun Q hQ=>?_)
 simp (disch:=intros;contradiction) only [zS,simprocAttr]
 refine hQ (RG.nil ?_)
 simp only [zX]
 refine aw_cond _ rfl trivial (fun ht=>by simp at ht;omega) (fun hf=>?_)
 simp only [zX]
 refine aw_reg 272 (RG.go fun Q hQ=>?_)
 simp (disch:=intros;contradiction) only [zS,zW,simprocAttr]
 refine hQ (RG.nil ?_)
 simp only [zX]
 refine aw_draw 355 (RG.go fun Q hQ=>?_)
 simp (disch:=intros;contradiction) only [zS,zW,e1,simprocAttr]
 repeat refine ⟨by (first | exact ⟨by (intro q hq;obtain ⟨_,_,rfl⟩:=List.mem_map.1 hq;rfl),by omega⟩ | (refine ⟨?_,?_⟩ <;> (repeat' (first | omega | refine ⟨?_,?_⟩)))),?_⟩
 refine hQ (RG.nil ⟨by decide +kernel,?_⟩)
 simp only [zX]
 refine aw_reg 515 (RG.go fun Q hQ=>?_)
 simp (disch:=intros;contradiction) only [zS,zW,simprocAttr]
 repeat refine ⟨by (omega),?_⟩
 refine hQ (RG.nil ?_)
 simp only [zX]
 refine aw_reg 640 (RG.go fun Q hQ=>?_)
 simp (disch:=intros;contradiction) only [zS,simprocAttr]
 refine hQ (RG.nil ?_)
 simp only [zX]
 refine Fin.win 900000 (.inr rfl) rfl trivial rfl rfl ?_ ?_ (drows_nrow _)
 ·simp;omega
 ·rw [show min (i + (l.length - j)) (min i l.length + min (l.length - j) (l.length - j) + (l.length - (i + (l.length - j)))) = i + (l.length - j) by omega]
  rw [List.append_assoc,List.take_append_of_le_length (by simp;omega),List.take_take,Nat.min_self,List.take_append_of_le_length (by simp;omega),List.take_of_length_le (by simp;omega)]
  rw [List.take_of_length_le (l:=l.drop j) (by simp),List.map_append]

end Go.Abs

