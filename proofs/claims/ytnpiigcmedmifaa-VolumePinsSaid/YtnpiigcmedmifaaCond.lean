/- What the functions that the law comes to do, part 4. No condition. -/
import Derived.Test.YtnpiigcmedmifaaConc
set_option linter.unusedVariables false
set_option linter.unusedSimpArgs false
set_option linter.unnecessarySimpa false
namespace Go.Abs
open Go Go.Proofs
set_option maxRecDepth 100000
set_option linter.unusedSimpArgs false
set_option maxHeartbeats 4000000

theorem drows_vol (l : List VOL) : isDRows (l.map volC):=by
 intro r hr c hc
 obtain ⟨p,_,rfl⟩:=List.mem_map.1 hr
 exact volC_pure p c hc
abbrev MB (L : List VOL) : Ent:=.box [.sl (L.map volC)]

def idxV (id : Int) : List VOL→Nat→Int
 | [],_=>-1
 | v :: l,i=>if v.id = id then i else idxV id l (i + 1)
theorem idxV_cases (id : Int) : ∀ (l : List VOL) (i : Nat),(idxV id l i = -1∧∀ v ∈ l,v.id≠id)∨∃ (k : Nat) (hk : k < l.length),idxV id l i = ((i + k : Nat) : Int)∧l[k].id = id
 | [],i=>.inl ⟨rfl,fun v hv=>by cases hv⟩
 | v :: l,i=>by
  unfold idxV
  split
  ·rename_i h;exact .inr ⟨0,by simp,rfl,h⟩
  ·rename_i h
   rcases idxV_cases id l (i + 1) with ⟨h1,h2⟩ | ⟨k,hk,h1,h2⟩
   ·refine .inl ⟨h1,fun w hw=>?_⟩
    rcases List.mem_cons.1 hw with rfl | hw
    ·exact h
    ·exact h2 w hw
   ·exact .inr ⟨k + 1,by simpa using hk,by rw [h1,show i + 1 + k = i + (k + 1) by omega],by simpa using h2⟩

theorem find_con (L : List VOL) (id : Int) (hL : L.length≤1000000) : Con Try.prog 70 [.c (.bp 0 0),I id] [MB L] (I (idxV id L 0)) [MB L]:=by
 generalize hR : idxV id L 0 = R
 refine C_mementoref16_Machine_find (Nat.le_of_ble_eq_true rfl) (Nat.le_of_ble_eq_true rfl) ?_
 simp only [cz,A_mementoref16_Machine_find,argL,objL,List.length_nil,List.length_cons,Nat.zero_add,zX]
 refine aw_reg 16 (RG.go fun Q hQ=>?_)
 simp (disch:=intros;contradiction) only [zS,simprocAttr]
 refine hQ (RG.nil ?_)
 simp only [zX]
 refine aw_reg 64 (RG.go fun Q hQ=>?_)
 simp (disch:=intros;contradiction) only [zS,simprocAttr]
 refine hQ (RG.nil ?_)
 simp only [zX]
 refine aw_loopK (X:={ i : Nat // i≤L.length∧idxV id (L.drop i) i = R }) [0,1] (fun i=>[(5,I i.1)]) [0] (fun i=>[]) (fun i=>L.length - i.1) (⟨0,by omega,hR⟩) ?_ ?_
 ·skip
  simp only [keepS,keepE,Option.getD_some,lk_cons,lkE_cons,List.cons_append,List.nil_append,simprocAttr]
  refine Le.lit [] [] _ _ ?_ ?_ ?_ ?_
  ·simp only [zL,simprocAttr]
  ·simp only [zL,↓reduceIte]
  ·simp [rlook]
  ·first | (simp;done) | (intro k hk;simp [rlook];omega)
 rintro ⟨i,hi,hr⟩
 simp only [keepS,keepE,Option.getD_some,lk_cons,lkE_cons,List.cons_append,List.nil_append,simprocAttr]
 simp only [zX]
 refine aw_reg 112 (RG.go fun Q hQ=>?_)
 simp (disch:=intros;contradiction) only [zS,zW,simprocAttr]
 refine hQ (RG.nil ?_)
 simp only [zX]
 refine aw_cond _ rfl trivial (fun ht=>?_) (fun hf=>?_)
 ·skip
  try simp at ht
  simp only [zX]
  have h1 : i < L.length:=by omega
  rw [drop_get h1] at hr
  unfold idxV at hr
  refine aw_reg 256 (RG.go fun Q hQ=>?_)
  simp (disch:=first | (intros;contradiction) | omega | (simp only [zN];omega)) only [zS,zW,volC,vC,simprocAttr]
  repeat refine ⟨by (omega),?_⟩
  refine hQ (RG.nil ?_)
  simp only [zX]
  refine aw_cond _ rfl trivial (fun ht=>?_) (fun hf=>?_)
  ·skip
   try simp at ht
   simp only [zX]
   rw [if_pos ht] at hr
   refine aw_reg 448 (RG.go fun Q hQ=>?_)
   simp (disch:=intros;contradiction) only [zS,simprocAttr]
   refine hQ (RG.nil ?_)
   simp only [zX]
   rw [← hr]
   refine Fin.objs [] [] (.inr rfl) rfl (by first | exact trivial | exact ⟨trivial,trivial⟩ | exact ⟨trivial,trivial,trivial⟩) ?_ ?_ (by simp [objL,rlook]) (by first | (simp [objL,rlook];done) | (intro k hk;simp [objL,rlook];omega))
   ·simp only [zL,simprocAttr]
   ·simp only [zL,↓reduceIte]
  try simp at hf
  simp only [zX]
  rw [if_neg hf] at hr
  refine aw_reg 512 (RG.go fun Q hQ=>?_)
  simp (disch:=first | (intros;contradiction) | omega | (simp only [zN];omega)) only [zS,zW,simprocAttr]
  refine hQ (RG.nil ?_)
  simp only [zX]
  refine ⟨⟨i + 1,h1,hr⟩,?_,by first | omega | (simp only;omega)⟩
  refine Le.lit [] [] _ _ ?_ ?_ ?_ ?_
  ·simp only [zL,simprocAttr]
   all_goals (try ((repeat' (rfl))))
  ·simp only [zL,↓reduceIte]
  ·simp [rlook]
  ·first | (simp;done) | (intro k hk;simp [rlook];omega)
 try simp at hf
 simp only [zX,↓reduceIte]
 have hr' : R = -1:=by rw [← hr,List.drop_of_length_le (by omega)];rfl
 refine aw_reg 592 (RG.go fun Q hQ=>?_)
 simp (disch:=intros;contradiction) only [zS,simprocAttr]
 refine hQ (RG.nil ?_)
 simp only [zX]
 rw [hr']
 refine Fin.objs [] [] (.inr rfl) rfl (by first | exact trivial | exact ⟨trivial,trivial⟩ | exact ⟨trivial,trivial,trivial⟩) ?_ ?_ (by simp [objL,rlook]) (by first | (simp [objL,rlook];done) | (intro k hk;simp [objL,rlook];omega))
 ·simp only [zL,simprocAttr]
 ·simp only [zL,↓reduceIte]

def volM (L : List VOL) (id : Int) : VOL × Bool:=if idxV id L 0 < 0 then (zeroV,false) else (L.getD (idxV id L 0).toNat zeroV,true)
theorem MVolume_con (L : List VOL) (id : Int) (hL : L.length≤1000000) : Con Try.prog 52 [.c (.bp 0 0),I id] [MB L] (.tup [.agg (volC (volM L id).1),B (volM L id).2]) [MB L]:=by
 have cF:=find_con L id hL
 rcases idxV_cases id L 0 with ⟨h1,_⟩ | ⟨k,hk,h1,_⟩
 ·rw [show volM L id = (zeroV,false) from by unfold volM;rw [h1,if_pos (by decide)]]
  rw [h1] at cF
  refine C_mementoref16_Machine_Volume (Nat.le_of_ble_eq_true rfl) (Nat.le_of_ble_eq_true rfl) ?_
  simp only [cz,A_mementoref16_Machine_Volume,argL,objL,List.length_nil,List.length_cons,Nat.zero_add,zX]
  refine aw_reg 16 (RG.go fun Q hQ=>?_)
  simp (disch:=intros;contradiction) only [zS,simprocAttr]
  refine hQ (RG.nil ?_)
  simp only [zX]
  refine aw_reg 80 (RG.go fun Q hQ=>?_)
  simp (disch:=intros;contradiction) only [zS,simprocAttr]
  refine hQ ?_
  refine RG.callo [0] [] (cF) (.mk (by (repeat' (first | exact tr_nil | refine tr_cons ?_ ?_ | exact tr_v | exact tr_bp rfl))) (by first | trivial | (simp only [zT,↓reduceIte];done) | (simp only [zT,simprocAttr];trivial) | (simp only [zT,simprocAttr];repeat' (fail))) (by simp) (by simp) (trivial) (by first | (simp [lkE_cons,lkE_nil];done) | (intro j hj;simp at hj;simp only [setEs,setE_cons,setE_nil,lkE_cons,lkE_nil];repeat rw [if_neg (by omega)])) (by first | (simp [Ent.pure];done) | (simp [Ent.pure];repeat' (fail))) (by simp) (by simp)) ?_
  refine RG.go fun Q hQ=>?_
  simp (disch:=intros;contradiction) only [zS,simprocAttr]
  refine hQ (RG.nil ?_)
  simp only [zX]
  refine aw_reg 176 (RG.go fun Q hQ=>?_)
  simp (disch:=intros;contradiction) only [zS,simprocAttr]
  refine hQ (RG.nil ?_)
  simp only [zX]
  refine aw_cond _ rfl trivial (fun ht=>?_) (fun hf=>by cases hf)
  simp only [zX]
  refine aw_reg 240 (RG.go fun Q hQ=>?_)
  simp (disch:=intros;contradiction) only [zS,simprocAttr]
  refine hQ (RG.nil ?_)
  simp only [zX]
  refine Fin.objs [] [] (.inr rfl) rfl (by first | exact trivial | exact ⟨trivial,trivial⟩ | exact ⟨trivial,trivial,trivial⟩) ?_ ?_ (by simp [objL,rlook]) (by first | (simp [objL,rlook];done) | (intro k hk;simp [objL,rlook];omega))
  ·simp only [zL,simprocAttr]
   all_goals ((repeat' (first | exact trivial | rfl | refine ⟨?_,?_⟩)))
  ·simp only [zL,↓reduceIte]

 ·rw [Nat.zero_add] at h1
  rw [show volM L id = (L[k],true) from by unfold volM;rw [h1,if_neg (by omega),Int.toNat_natCast,List.getD_eq_getElem?_getD,List.getElem?_eq_getElem hk];rfl]
  rw [h1] at cF
  refine C_mementoref16_Machine_Volume (Nat.le_of_ble_eq_true rfl) (Nat.le_of_ble_eq_true rfl) ?_
  simp only [cz,A_mementoref16_Machine_Volume,argL,objL,List.length_nil,List.length_cons,Nat.zero_add,zX]
  refine aw_reg 16 (RG.go fun Q hQ=>?_)
  simp (disch:=intros;contradiction) only [zS,simprocAttr]
  refine hQ (RG.nil ?_)
  simp only [zX]
  refine aw_reg 80 (RG.go fun Q hQ=>?_)
  simp (disch:=intros;contradiction) only [zS,simprocAttr]
  refine hQ ?_
  refine RG.callo [0] [] (cF) (.mk (by (repeat' (first | exact tr_nil | refine tr_cons ?_ ?_ | exact tr_v | exact tr_bp rfl))) (by first | trivial | (simp only [zT,↓reduceIte];done) | (simp only [zT,simprocAttr];trivial) | (simp only [zT,simprocAttr];repeat' (fail))) (by simp) (by simp) (trivial) (by first | (simp [lkE_cons,lkE_nil];done) | (intro j hj;simp at hj;simp only [setEs,setE_cons,setE_nil,lkE_cons,lkE_nil];repeat rw [if_neg (by omega)])) (by first | (simp [Ent.pure];done) | (simp [Ent.pure];repeat' (fail))) (by simp) (by simp)) ?_
  refine RG.go fun Q hQ=>?_
  simp (disch:=intros;contradiction) only [zS,simprocAttr]
  refine hQ (RG.nil ?_)
  simp only [zX]
  refine aw_reg 176 (RG.go fun Q hQ=>?_)
  simp (disch:=intros;contradiction) only [zS,simprocAttr]
  refine hQ (RG.nil ?_)
  simp only [zX]
  refine aw_cond _ rfl trivial (fun ht=>by cases ht) (fun hf=>?_)
  simp only [zX]
  refine aw_reg 240 (RG.go fun Q hQ=>?_)
  simp (disch:=first | (intros;contradiction) | omega | (simp only [zN];omega)) only [zS,zW,vC_eq,simprocAttr]
  repeat refine ⟨by (omega),?_⟩
  refine hQ (RG.nil ?_)
  simp only [zX]
  refine Fin.objs [] [] (.inr rfl) rfl (by first | exact trivial | exact ⟨trivial,trivial⟩ | exact ⟨trivial,trivial,trivial⟩) ?_ ?_ (by simp [objL,rlook]) (by first | (simp [objL,rlook];done) | (intro k hk;simp [objL,rlook];omega))
  ·simp only [zL,simprocAttr]
   all_goals ((repeat' (first | exact trivial | rfl | refine ⟨?_,?_⟩)))
  ·simp only [zL,↓reduceIte]

def insM (v : VOL) (L : List VOL) : List VOL:=L.takeWhile (fun w=>decide (w.id < v.id)) ++ v :: L.dropWhile (fun w=>decide (w.id < v.id))
structure RP where
 e : Int
 len : Int
 floor : Int
 next : Int
def appM (L : List VOL) (d : List Nat) : List VOL × RP :=
  if (readC d).2≠0 then (L,⟨20,0,0,0⟩)
  else if (readC d).1.kind = 1 then
    (if 0≤idxV (readC d).1.vol L 0 then (L,⟨29,0,0,0⟩)
     else if (newR (readC d).1).2≠0 then (L,⟨(newR (readC d).1).2,0,0,0⟩)
     else (insM (newR (readC d).1).1 L,⟨0,0,0,0⟩))
  else if idxV (readC d).1.vol L 0 < 0 then (L,⟨28,0,0,0⟩)
  else (L.set (idxV (readC d).1.vol L 0).toNat (doV (L.getD (idxV (readC d).1.vol L 0).toNat zeroV) (readC d).1).v,
    ⟨(doV (L.getD (idxV (readC d).1.vol L 0).toNat zeroV) (readC d).1).e,(doV (L.getD (idxV (readC d).1.vol L 0).toNat zeroV) (readC d).1).len,(doV (L.getD (idxV (readC d).1.vol L 0).toNat zeroV) (readC d).1).floor,(doV (L.getD (idxV (readC d).1.vol L 0).toNat zeroV) (readC d).1).next⟩)

theorem readC_ok {d : List Nat} {c : CMD} {n : Nat} (hd : RestOk n d) (h : readC d = (c,0)) : cmdR c = true∧byI c.items∧c.place.length≤256∧c.items.length≤8∧∀ x ∈ c.items,x.d.length≤n:=by
 unfold readC at h
 split at h
 ·cases h
 ·rename_i hn
  cases h
  obtain ⟨h1,h2,h3,h4⟩:=rawC_ok hd
  refine ⟨?_,h2,h1,h3,h4⟩
  cases hc : cmdR (rawC d).1 with
  | true=>rfl
  | false=>exact absurd (.inr (.inl hc)) hn
end Go.Abs

namespace Go.Abs
open Go Go.Proofs
set_option maxRecDepth 100000
set_option linter.unusedSimpArgs false
set_option maxHeartbeats 4000000

theorem while_ofV {p : VOL→Bool} : ∀ {l : List VOL} {k : Nat},(l.take k).all p = true→(∀ h : k < l.length,p l[k] = false)→l.takeWhile p = l.take k∧l.dropWhile p = l.drop k
 | [],k,_,_=>by simp
 | x :: l,0,_,h=>by
  have:=h (by simp)
  simp only [List.getElem_cons_zero] at this
  simp [this]
 | x :: l,k + 1,h1,h2=>by
  simp only [List.take_succ_cons,List.all_cons,Bool.and_eq_true] at h1
  have:=while_ofV (l:=l) (k:=k) h1.2 (fun h=>by have:=h2 (by simpa using h);simpa using this)
  simp [h1.1,this.1,this.2]

theorem newR_err (c : CMD) : (newR c).2 = 0∨(newR c).2 = 23:=by unfold newR;split <;> simp

abbrev rpC (r : RP) : SV:=.agg (repC r.e r.len r.floor r.next [])

theorem cmdC_pure (c : CMD) : (SV.agg (cmdC c)).pureD:=by
 intro x hx
 simp only [cmdC,cC,List.mem_cons,List.not_mem_nil,or_false] at hx
 rcases hx with rfl | rfl | rfl | rfl | rfl | rfl | rfl | rfl | rfl | rfl <;> rfl
theorem repC_pure (a b c d : Int) : (SV.agg (repC a b c d [])).pureD:=by
 intro x hx
 simp only [repC,List.mem_cons,List.not_mem_nil,or_false] at hx
 rcases hx with rfl | rfl | rfl | rfl | rfl <;> rfl
theorem doR_pure (d : DO) : (doR d).pureD:=by
 intro s hs
 simp only [List.mem_cons,List.not_mem_nil,or_false] at hs
 rcases hs with rfl | rfl
 ·exact volC_pure _
 ·exact repC_pure _ _ _ _

theorem Apply_con (L : List VOL) (d : List Nat) (n : Nat) (hL : L.length≤1000000) (hg : ∀ v ∈ L,Vgood v n) (hn : n≤50000) (h8 : ∀ c ∈ d,c < 256) (hd : d.length≤1000000) :
  Con Try.prog 54 [.c (.bp 0 0),.c (.sl (d.map brow))] [MB L] (rpC (appM L d).2) [MB (appM L d).1]:=by
 have cR:=ReadCmd_con d h8 hd
 have hok:=fun c h=>readC_ok (d:=d) (c:=c) (n:=1000000) ⟨h8,hd⟩ h
 obtain ⟨Z,hZ⟩ : ∃ Z,Z = appM L d:=⟨_,rfl⟩
 rw [← hZ]
 unfold appM at hZ
 generalize readC d = q at cR hok hZ
 obtain ⟨c,e⟩:=q
 simp only at cR hZ
 by_cases he : e≠0
 ·rw [if_pos he] at hZ
  subst hZ
  refine C_mementoref16_Machine_Apply (Nat.le_of_ble_eq_true rfl) (Nat.le_of_ble_eq_true rfl) ?_
  simp only [cz,A_mementoref16_Machine_Apply,argL,objL,List.length_nil,List.length_cons,Nat.zero_add,zX]
  refine aw_reg 16 (RG.go fun Q hQ=>?_)
  simp (disch:=intros;contradiction) only [zS,simprocAttr]
  refine hQ (RG.nil ?_)
  simp only [zX]
  refine aw_reg 64 (RG.go fun Q hQ=>?_)
  simp (disch:=intros;contradiction) only [zS,simprocAttr]
  refine hQ ?_
  refine RG.call [] (cR) (by (repeat' (first | exact tr_nil | refine tr_cons ?_ ?_ | exact tr_sl))) trivial (by exact .inr ⟨pureTA (fun x hx=>cmdC_pure _ x hx),trivial⟩) ?_
  refine RG.go fun Q hQ=>?_
  simp (disch:=intros;contradiction) only [zS,cmdC,cC,simprocAttr]
  refine hQ (RG.nil ?_)
  simp only [zX]
  refine aw_reg 224 (RG.go fun Q hQ=>?_)
  simp (disch:=intros;contradiction) only [zS,simprocAttr]
  refine hQ (RG.nil ?_)
  simp only [zX]
  refine aw_cond _ rfl trivial (fun ht=>?_) (fun hf=>by simp at hf;omega)
  simp only [zX]
  refine aw_reg 288 (RG.go fun Q hQ=>?_)
  simp (disch:=intros;contradiction) only [zS,simprocAttr]
  refine hQ (RG.nil ?_)
  simp only [zX]
  refine Fin.objs [] [] (.inr rfl) rfl (by first | exact trivial | exact ⟨trivial,trivial⟩ | exact ⟨trivial,trivial,trivial⟩) ?_ ?_ (by simp [objL,rlook]) (by first | (simp [objL,rlook];done) | (intro k hk;simp [objL,rlook];omega))
  ·simp only [zL]
   all_goals ((repeat' (first | exact trivial | rfl | refine ⟨?_,?_⟩)))
  ·simp only [zL,↓reduceIte]

 rw [if_neg he] at hZ
 obtain rfl : e = 0:=by omega
 obtain ⟨k1,k2,k3,k4,k5⟩:=hok c rfl
 have cF:=find_con L c.vol hL
 by_cases hk : c.kind = 1
 ·rw [if_pos hk] at hZ
  rcases idxV_cases c.vol L 0 with ⟨h1,h2⟩ | ⟨k,hkl,h1,h2⟩
  ·rw [h1] at hZ cF
   rw [if_neg (by decide)] at hZ
   have cN:=mementoref16_New_con c (by omega)
   rcases newR_err c with h3 | h3
   ·rw [if_neg (by omega)] at hZ
    have h4 : newR c = (newV c,0):=by
     unfold newR at h3 ⊢
     split at h3
     ·rename_i h;rw [if_pos h]
     ·cases h3
    rw [h4] at cN hZ
    simp only at cN hZ
    subst hZ
    refine C_mementoref16_Machine_Apply (Nat.le_of_ble_eq_true rfl) (Nat.le_of_ble_eq_true rfl) ?_
    simp only [cz,A_mementoref16_Machine_Apply,argL,objL,List.length_nil,List.length_cons,Nat.zero_add,zX]
    refine aw_reg 16 (RG.go fun Q hQ=>?_)
    simp (disch:=intros;contradiction) only [zS,simprocAttr]
    refine hQ (RG.nil ?_)
    simp only [zX]
    refine aw_reg 64 (RG.go fun Q hQ=>?_)
    simp (disch:=intros;contradiction) only [zS,simprocAttr]
    refine hQ ?_
    refine RG.call [] (cR) (by (repeat' (first | exact tr_nil | refine tr_cons ?_ ?_ | exact tr_sl))) trivial (by exact .inr ⟨pureTA (fun x hx=>cmdC_pure _ x hx),trivial⟩) ?_
    refine RG.go fun Q hQ=>?_
    simp (disch:=intros;contradiction) only [zS,cmdC,cC,simprocAttr]
    refine hQ (RG.nil ?_)
    simp only [zX]
    refine aw_reg 224 (RG.go fun Q hQ=>?_)
    simp (disch:=intros;contradiction) only [zS,simprocAttr]
    refine hQ (RG.nil ?_)
    simp only [zX]
    refine aw_cond _ rfl trivial (fun ht=>by cases ht) (fun hf=>?_)
    simp only [zX]
    refine aw_reg 288 (RG.go fun Q hQ=>?_)
    simp (disch:=intros;contradiction) only [zS,simprocAttr]
    refine hQ ?_
    refine RG.callo [0] [] (cF) (.mk (by (repeat' (first | exact tr_nil | refine tr_cons ?_ ?_ | exact tr_v | exact tr_bp rfl))) (by first | trivial | (simp only [zT,↓reduceIte];done) | (simp only [zT,simprocAttr];trivial) | (simp only [zT,simprocAttr];repeat' (fail))) (by simp) (by simp) (trivial) (by first | (simp [lkE_cons,lkE_nil];done) | (intro j hj;simp at hj;simp only [setEs,setE_cons,setE_nil,lkE_cons,lkE_nil];repeat rw [if_neg (by omega)])) (by first | (simp [Ent.pure];done) | (simp [Ent.pure];repeat' (fail))) (by simp) (by simp)) ?_
    refine RG.go fun Q hQ=>?_
    simp (disch:=intros;contradiction) only [zS,simprocAttr]
    refine hQ (RG.nil ?_)
    simp only [zX]
    refine aw_reg 400 (RG.go fun Q hQ=>?_)
    simp (disch:=intros;contradiction) only [zS,zW,simprocAttr]
    repeat refine ⟨by (exact ⟨by (intro q hq;obtain ⟨_,_,rfl⟩:=List.mem_map.1 hq;rfl),by omega⟩),?_⟩
    refine hQ (RG.nil ?_)
    simp only [zX]
    refine aw_reg 528 (RG.go fun Q hQ=>?_)
    simp (disch:=intros;contradiction) only [zS,simprocAttr]
    refine hQ (RG.nil ?_)
    simp only [zX]
    refine aw_cond _ rfl trivial (fun ht=>?_) (fun hf=>by simp at hf;omega)
    simp only [zX]
    refine aw_reg 608 (RG.go fun Q hQ=>?_)
    simp (disch:=intros;contradiction) only [zS,simprocAttr]
    refine hQ (RG.nil ?_)
    simp only [zX]
    refine aw_cond _ rfl trivial (fun ht=>by cases ht) (fun hf=>?_)
    simp only [zX]
    refine aw_reg 672 (RG.go fun Q hQ=>?_)
    simp (disch:=intros;contradiction) only [zS,simprocAttr]
    refine hQ ?_
    refine RG.call [] (cN) (by (repeat' (first | exact tr_nil | refine tr_cons ?_ ?_ | exact tr_agg (by repeat' (first | exact trivial | rfl | refine ⟨?_,?_⟩))))) trivial (by exact .inr ⟨pureTA (fun x hx=>volC_pure _ x hx),trivial⟩) ?_
    refine RG.go fun Q hQ=>?_
    simp (disch:=intros;contradiction) only [zS,vC_eq,simprocAttr]
    refine hQ (RG.nil ?_)
    simp only [zX]
    refine aw_reg 832 (RG.go fun Q hQ=>?_)
    simp (disch:=intros;contradiction) only [zS,simprocAttr]
    refine hQ (RG.nil ?_)
    simp only [zX]
    refine aw_cond _ rfl trivial (fun ht=>by cases ht) (fun hf=>?_)
    simp only [zX]
    refine aw_reg 896 (RG.go fun Q hQ=>?_)
    simp (disch:=intros;contradiction) only [zS,simprocAttr]
    refine hQ (RG.nil ?_)
    simp only [zX]
    refine aw_loopK (X:={ i : Nat // i≤L.length∧(L.take i).all (fun w=>decide (w.id < c.vol)) = true }) [0,4,5,9] (fun i=>[(7,I i.1),(8,.c (.sl (L.map volC)))]) [0,16,144,752] (fun i=>[]) (fun i=>L.length - i.1) (⟨0,by omega,rfl⟩) ?_ ?_
    ·skip
     simp only [keepS,keepE,Option.getD_some,lk_cons,lkE_cons,List.cons_append,List.nil_append,simprocAttr]
     refine Le.lit [464] [] _ _ ?_ ?_ ?_ ?_
     ·simp only [zL,simprocAttr]
      all_goals (try ((repeat' ((refine ⟨⟨_,_,rfl⟩,?_⟩;(exact drows_vol _))))))
     ·simp only [zL,simprocAttr]
     ·simp [rlook]
     ·first | (simp;done) | (intro k hk;simp [rlook];omega)
    rintro ⟨i,hi,ha⟩
    simp only [keepS,keepE,Option.getD_some,lk_cons,lkE_cons,List.cons_append,List.nil_append,simprocAttr]
    simp only [zX]
    by_cases hil : i < L.length
    ·skip
     refine aw_draw 944 (RG.go fun Q hQ=>?_)
     simp (disch:=first | (intros;contradiction) | omega | (simp only [zN];omega)) only [zS,zW,vC_eq,simprocAttr]
     repeat refine ⟨by ((simp;done)),?_⟩
     refine hQ (RG.nil ⟨by decide +kernel,?_⟩)
     simp only [zX]
     refine aw_cond _ rfl trivial (fun ht=>?_) (fun hf=>?_)
     ·skip
      try simp at ht
      simp only [zX]
      refine aw_reg 1200 (RG.go fun Q hQ=>?_)
      simp (disch:=first | (intros;contradiction) | omega | (simp only [zN];omega)) only [zS,zW,simprocAttr]
      refine hQ (RG.nil ?_)
      simp only [zX]
      refine ⟨⟨i + 1,by omega,by rw [all_succ hil,ha,Bool.true_and];simp;exact ht.2⟩,?_,by first | omega | (simp only;omega)⟩
      refine Le.lit [] [] _ _ ?_ ?_ ?_ ?_
      ·simp only [zL,simprocAttr]
       all_goals (try ((repeat' (rfl))))
      ·simp only [zL,simprocAttr]
      ·simp [rlook]
      ·first | (simp;done) | (intro k hk;simp [rlook];omega)
     try simp at hf
     simp only [zX,↓reduceIte]
     have hw:=while_ofV (p:=fun w=>decide (w.id < c.vol)) ha (fun h=>by simp;exact hf h)
     have hI : insM (newV c) L = L.take i ++ newV c :: L.drop i:=by unfold insM;rw [← hw.1,← hw.2];rfl
     have hM : (L.take i ++ newV c :: L.drop i).map volC = (L.take i).map volC ++ [volC (newV c)] ++ (L.drop i).map volC:=by simp
     have hdr:=drows_vol (L.take i ++ newV c :: L.drop i)
     rw [hI]
     rw [hM,vC_eq (newV c)] at hdr
     refine aw_draw 1280 (RG.go fun Q hQ=>?_)
     simp (disch:=intros;contradiction) only [zS,zW,simprocAttr]
     repeat refine ⟨by (first | exact ⟨by (intro q hq;obtain ⟨_,_,rfl⟩:=List.mem_map.1 hq;rfl),by omega⟩ | (simp;omega) | (refine ⟨?_,?_⟩ <;> (repeat' (first | omega | (intro q hq;obtain ⟨_,_,rfl⟩:=List.mem_map.1 hq;rfl) | refine ⟨?_,?_⟩)))),?_⟩
     refine hQ (RG.nil ⟨by decide +kernel,?_⟩)
     simp only [zX]
     refine aw_reg 1552 (RG.go fun Q hQ=>?_)
     simp (disch:=intros;contradiction) only [zS,simprocAttr]
     refine hQ (RG.nil ?_)
     simp only [zX]
     rw [show MB (L.take i ++ newV c :: L.drop i) = .box [.sl ((L.take i ++ newV c :: L.drop i).map volC)] from rfl,hM,vC_eq (newV c)]
     refine Fin.objs [1456] [] (.inr rfl) rfl (by first | exact trivial | exact ⟨trivial,trivial⟩ | exact ⟨trivial,trivial,trivial⟩) ?_ ?_ (by simp [objL,rlook]) (by first | (simp [objL,rlook];done) | (intro k hk;simp [objL,rlook];omega))
     ·simp only [zL,simprocAttr]
      all_goals ((repeat' (first | exact trivial | rfl | refine ⟨?_,?_⟩)))
     ·simp only [zL,simprocAttr]
      all_goals (try ((repeat' (first | (first | assumption | (simp [C.isD];done)) | refine ⟨?_,?_⟩))))
    have hw:=while_ofV (p:=fun w=>decide (w.id < c.vol)) ha (fun h=>absurd h hil)
    have hI : insM (newV c) L = L.take i ++ newV c :: L.drop i:=by unfold insM;rw [← hw.1,← hw.2];rfl
    have hM : (L.take i ++ newV c :: L.drop i).map volC = (L.take i).map volC ++ [volC (newV c)] ++ (L.drop i).map volC:=by simp
    have hdr:=drows_vol (L.take i ++ newV c :: L.drop i)
    rw [hI]
    rw [hM,vC_eq (newV c)] at hdr
    refine aw_draw 1616 (RG.go fun Q hQ=>?_)
    simp (disch:=first | (intros;contradiction) | omega | (simp only [zN];omega)) only [zS,zW,simprocAttr]
    repeat refine ⟨by ((simp;omega)),?_⟩
    refine hQ (RG.nil ⟨by decide +kernel,?_⟩)
    simp only [zX]
    refine aw_cond _ rfl trivial (fun ht=>by simp at ht) (fun hf=>?_)
    simp only [zX,↓reduceIte]
    refine aw_draw 1872 (RG.go fun Q hQ=>?_)
    simp (disch:=intros;contradiction) only [zS,zW,simprocAttr]
    repeat refine ⟨by (first | exact ⟨by (intro q hq;obtain ⟨_,_,rfl⟩:=List.mem_map.1 hq;rfl),by omega⟩ | (simp;omega) | (refine ⟨?_,?_⟩ <;> (repeat' (first | omega | (intro q hq;obtain ⟨_,_,rfl⟩:=List.mem_map.1 hq;rfl) | refine ⟨?_,?_⟩)))),?_⟩
    refine hQ (RG.nil ⟨by decide +kernel,?_⟩)
    simp only [zX]
    refine aw_reg 2144 (RG.go fun Q hQ=>?_)
    simp (disch:=intros;contradiction) only [zS,simprocAttr]
    refine hQ (RG.nil ?_)
    simp only [zX]
    rw [show MB (L.take i ++ newV c :: L.drop i) = .box [.sl ((L.take i ++ newV c :: L.drop i).map volC)] from rfl,hM,vC_eq (newV c)]
    refine Fin.objs [2048] [] (.inr rfl) rfl (by first | exact trivial | exact ⟨trivial,trivial⟩ | exact ⟨trivial,trivial,trivial⟩) ?_ ?_ (by simp [objL,rlook]) (by first | (simp [objL,rlook];done) | (intro k hk;simp [objL,rlook];omega))
    ·simp only [zL,simprocAttr]
     all_goals ((repeat' (first | exact trivial | rfl | refine ⟨?_,?_⟩)))
    ·simp only [zL,simprocAttr]
     all_goals (try ((repeat' (first | (first | assumption | (simp [C.isD];done)) | refine ⟨?_,?_⟩))))

   ·rw [if_pos (by omega)] at hZ
    have h4 : newR c = (zeroV,23):=by
     unfold newR at h3 ⊢
     split at h3
     ·cases h3
     ·rename_i h;rw [if_neg h]
    rw [h4] at cN hZ
    simp only at cN hZ
    subst hZ
    refine C_mementoref16_Machine_Apply (Nat.le_of_ble_eq_true rfl) (Nat.le_of_ble_eq_true rfl) ?_
    simp only [cz,A_mementoref16_Machine_Apply,argL,objL,List.length_nil,List.length_cons,Nat.zero_add,zX]
    refine aw_reg 16 (RG.go fun Q hQ=>?_)
    simp (disch:=intros;contradiction) only [zS,simprocAttr]
    refine hQ (RG.nil ?_)
    simp only [zX]
    refine aw_reg 64 (RG.go fun Q hQ=>?_)
    simp (disch:=intros;contradiction) only [zS,simprocAttr]
    refine hQ ?_
    refine RG.call [] (cR) (by (repeat' (first | exact tr_nil | refine tr_cons ?_ ?_ | exact tr_sl))) trivial (by exact .inr ⟨pureTA (fun x hx=>cmdC_pure _ x hx),trivial⟩) ?_
    refine RG.go fun Q hQ=>?_
    simp (disch:=intros;contradiction) only [zS,cmdC,cC,simprocAttr]
    refine hQ (RG.nil ?_)
    simp only [zX]
    refine aw_reg 224 (RG.go fun Q hQ=>?_)
    simp (disch:=intros;contradiction) only [zS,simprocAttr]
    refine hQ (RG.nil ?_)
    simp only [zX]
    refine aw_cond _ rfl trivial (fun ht=>by cases ht) (fun hf=>?_)
    simp only [zX]
    refine aw_reg 288 (RG.go fun Q hQ=>?_)
    simp (disch:=intros;contradiction) only [zS,simprocAttr]
    refine hQ ?_
    refine RG.callo [0] [] (cF) (.mk (by (repeat' (first | exact tr_nil | refine tr_cons ?_ ?_ | exact tr_v | exact tr_bp rfl))) (by first | trivial | (simp only [zT,↓reduceIte];done) | (simp only [zT,simprocAttr];trivial) | (simp only [zT,simprocAttr];repeat' (fail))) (by simp) (by simp) (trivial) (by first | (simp [lkE_cons,lkE_nil];done) | (intro j hj;simp at hj;simp only [setEs,setE_cons,setE_nil,lkE_cons,lkE_nil];repeat rw [if_neg (by omega)])) (by first | (simp [Ent.pure];done) | (simp [Ent.pure];repeat' (fail))) (by simp) (by simp)) ?_
    refine RG.go fun Q hQ=>?_
    simp (disch:=intros;contradiction) only [zS,simprocAttr]
    refine hQ (RG.nil ?_)
    simp only [zX]
    refine aw_reg 400 (RG.go fun Q hQ=>?_)
    simp (disch:=intros;contradiction) only [zS,zW,simprocAttr]
    repeat refine ⟨by (exact ⟨by (intro q hq;obtain ⟨_,_,rfl⟩:=List.mem_map.1 hq;rfl),by omega⟩),?_⟩
    refine hQ (RG.nil ?_)
    simp only [zX]
    refine aw_reg 528 (RG.go fun Q hQ=>?_)
    simp (disch:=intros;contradiction) only [zS,simprocAttr]
    refine hQ (RG.nil ?_)
    simp only [zX]
    refine aw_cond _ rfl trivial (fun ht=>?_) (fun hf=>by simp at hf;omega)
    simp only [zX]
    refine aw_reg 608 (RG.go fun Q hQ=>?_)
    simp (disch:=intros;contradiction) only [zS,simprocAttr]
    refine hQ (RG.nil ?_)
    simp only [zX]
    refine aw_cond _ rfl trivial (fun ht=>by cases ht) (fun hf=>?_)
    simp only [zX]
    refine aw_reg 672 (RG.go fun Q hQ=>?_)
    simp (disch:=intros;contradiction) only [zS,simprocAttr]
    refine hQ ?_
    refine RG.call [] (cN) (by (repeat' (first | exact tr_nil | refine tr_cons ?_ ?_ | exact tr_agg (by repeat' (first | exact trivial | rfl | refine ⟨?_,?_⟩))))) trivial (by exact .inr ⟨pureTA (fun x hx=>volC_pure _ x hx),trivial⟩) ?_
    refine RG.go fun Q hQ=>?_
    simp (disch:=intros;contradiction) only [zS,vC_eq,simprocAttr]
    refine hQ (RG.nil ?_)
    simp only [zX]
    refine aw_reg 832 (RG.go fun Q hQ=>?_)
    simp (disch:=intros;contradiction) only [zS,simprocAttr]
    refine hQ (RG.nil ?_)
    simp only [zX]
    refine aw_cond _ rfl trivial (fun ht=>?_) (fun hf=>by cases hf)
    simp only [zX]
    refine aw_reg 896 (RG.go fun Q hQ=>?_)
    simp (disch:=intros;contradiction) only [zS,simprocAttr]
    refine hQ (RG.nil ?_)
    simp only [zX]
    refine Fin.objs [] [] (.inr rfl) rfl (by first | exact trivial | exact ⟨trivial,trivial⟩ | exact ⟨trivial,trivial,trivial⟩) ?_ ?_ (by simp [objL,rlook]) (by first | (simp [objL,rlook];done) | (intro k hk;simp [objL,rlook];omega))
    ·simp only [zL]
     all_goals ((repeat' (first | exact trivial | rfl | refine ⟨?_,?_⟩)))
    ·simp only [zL,↓reduceIte]

  ·rw [h1] at hZ cF
   rw [if_pos (by omega)] at hZ
   subst hZ
   refine C_mementoref16_Machine_Apply (Nat.le_of_ble_eq_true rfl) (Nat.le_of_ble_eq_true rfl) ?_
   simp only [cz,A_mementoref16_Machine_Apply,argL,objL,List.length_nil,List.length_cons,Nat.zero_add,zX]
   refine aw_reg 16 (RG.go fun Q hQ=>?_)
   simp (disch:=intros;contradiction) only [zS,simprocAttr]
   refine hQ (RG.nil ?_)
   simp only [zX]
   refine aw_reg 64 (RG.go fun Q hQ=>?_)
   simp (disch:=intros;contradiction) only [zS,simprocAttr]
   refine hQ ?_
   refine RG.call [] (cR) (by (repeat' (first | exact tr_nil | refine tr_cons ?_ ?_ | exact tr_sl))) trivial (by exact .inr ⟨pureTA (fun x hx=>cmdC_pure _ x hx),trivial⟩) ?_
   refine RG.go fun Q hQ=>?_
   simp (disch:=intros;contradiction) only [zS,cmdC,cC,simprocAttr]
   refine hQ (RG.nil ?_)
   simp only [zX]
   refine aw_reg 224 (RG.go fun Q hQ=>?_)
   simp (disch:=intros;contradiction) only [zS,simprocAttr]
   refine hQ (RG.nil ?_)
   simp only [zX]
   refine aw_cond _ rfl trivial (fun ht=>by cases ht) (fun hf=>?_)
   simp only [zX]
   refine aw_reg 288 (RG.go fun Q hQ=>?_)
   simp (disch:=intros;contradiction) only [zS,simprocAttr]
   refine hQ ?_
   refine RG.callo [0] [] (cF) (.mk (by (repeat' (first | exact tr_nil | refine tr_cons ?_ ?_ | exact tr_v | exact tr_bp rfl))) (by first | trivial | (simp only [zT,↓reduceIte];done) | (simp only [zT,simprocAttr];trivial) | (simp only [zT,simprocAttr];repeat' (fail))) (by simp) (by simp) (trivial) (by first | (simp [lkE_cons,lkE_nil];done) | (intro j hj;simp at hj;simp only [setEs,setE_cons,setE_nil,lkE_cons,lkE_nil];repeat rw [if_neg (by omega)])) (by first | (simp [Ent.pure];done) | (simp [Ent.pure];repeat' (fail))) (by simp) (by simp)) ?_
   refine RG.go fun Q hQ=>?_
   simp (disch:=intros;contradiction) only [zS,simprocAttr]
   refine hQ (RG.nil ?_)
   simp only [zX]
   refine aw_reg 400 (RG.go fun Q hQ=>?_)
   simp (disch:=intros;contradiction) only [zS,zW,simprocAttr]
   repeat refine ⟨by (exact ⟨by (intro q hq;obtain ⟨_,_,rfl⟩:=List.mem_map.1 hq;rfl),by omega⟩),?_⟩
   refine hQ (RG.nil ?_)
   simp only [zX]
   refine aw_reg 528 (RG.go fun Q hQ=>?_)
   simp (disch:=intros;contradiction) only [zS,simprocAttr]
   refine hQ (RG.nil ?_)
   simp only [zX]
   refine aw_cond _ rfl trivial (fun ht=>?_) (fun hf=>by simp at hf;omega)
   simp only [zX]
   refine aw_reg 608 (RG.go fun Q hQ=>?_)
   simp (disch:=intros;contradiction) only [zS,simprocAttr]
   refine hQ (RG.nil ?_)
   simp only [zX]
   refine aw_cond _ rfl trivial (fun ht=>?_) (fun hf=>by cases hf)
   simp only [zX]
   refine aw_reg 672 (RG.go fun Q hQ=>?_)
   simp (disch:=intros;contradiction) only [zS,simprocAttr]
   refine hQ (RG.nil ?_)
   simp only [zX]
   refine Fin.objs [] [] (.inr rfl) rfl (by first | exact trivial | exact ⟨trivial,trivial⟩ | exact ⟨trivial,trivial,trivial⟩) ?_ ?_ (by simp [objL,rlook]) (by first | (simp [objL,rlook];done) | (intro k hk;simp [objL,rlook];omega))
   ·simp only [zL]
    all_goals ((repeat' (first | exact trivial | rfl | refine ⟨?_,?_⟩)))
   ·simp only [zL,↓reduceIte]

 rw [if_neg hk] at hZ
 rcases idxV_cases c.vol L 0 with ⟨h1,h2⟩ | ⟨k,hkl,h1,h2⟩
 ·rw [h1] at hZ cF
  rw [if_pos (by decide)] at hZ
  subst hZ
  refine C_mementoref16_Machine_Apply (Nat.le_of_ble_eq_true rfl) (Nat.le_of_ble_eq_true rfl) ?_
  simp only [cz,A_mementoref16_Machine_Apply,argL,objL,List.length_nil,List.length_cons,Nat.zero_add,zX]
  refine aw_reg 16 (RG.go fun Q hQ=>?_)
  simp (disch:=intros;contradiction) only [zS,simprocAttr]
  refine hQ (RG.nil ?_)
  simp only [zX]
  refine aw_reg 64 (RG.go fun Q hQ=>?_)
  simp (disch:=intros;contradiction) only [zS,simprocAttr]
  refine hQ ?_
  refine RG.call [] (cR) (by (repeat' (first | exact tr_nil | refine tr_cons ?_ ?_ | exact tr_sl))) trivial (by exact .inr ⟨pureTA (fun x hx=>cmdC_pure _ x hx),trivial⟩) ?_
  refine RG.go fun Q hQ=>?_
  simp (disch:=intros;contradiction) only [zS,cmdC,cC,simprocAttr]
  refine hQ (RG.nil ?_)
  simp only [zX]
  refine aw_reg 224 (RG.go fun Q hQ=>?_)
  simp (disch:=intros;contradiction) only [zS,simprocAttr]
  refine hQ (RG.nil ?_)
  simp only [zX]
  refine aw_cond _ rfl trivial (fun ht=>by cases ht) (fun hf=>?_)
  simp only [zX]
  refine aw_reg 288 (RG.go fun Q hQ=>?_)
  simp (disch:=intros;contradiction) only [zS,simprocAttr]
  refine hQ ?_
  refine RG.callo [0] [] (cF) (.mk (by (repeat' (first | exact tr_nil | refine tr_cons ?_ ?_ | exact tr_v | exact tr_bp rfl))) (by first | trivial | (simp only [zT,↓reduceIte];done) | (simp only [zT,simprocAttr];trivial) | (simp only [zT,simprocAttr];repeat' (fail))) (by simp) (by simp) (trivial) (by first | (simp [lkE_cons,lkE_nil];done) | (intro j hj;simp at hj;simp only [setEs,setE_cons,setE_nil,lkE_cons,lkE_nil];repeat rw [if_neg (by omega)])) (by first | (simp [Ent.pure];done) | (simp [Ent.pure];repeat' (fail))) (by simp) (by simp)) ?_
  refine RG.go fun Q hQ=>?_
  simp (disch:=intros;contradiction) only [zS,simprocAttr]
  refine hQ (RG.nil ?_)
  simp only [zX]
  refine aw_reg 400 (RG.go fun Q hQ=>?_)
  simp (disch:=intros;contradiction) only [zS,zW,simprocAttr]
  repeat refine ⟨by (exact ⟨by (intro q hq;obtain ⟨_,_,rfl⟩:=List.mem_map.1 hq;rfl),by omega⟩),?_⟩
  refine hQ (RG.nil ?_)
  simp only [zX]
  refine aw_reg 528 (RG.go fun Q hQ=>?_)
  simp (disch:=intros;contradiction) only [zS,simprocAttr]
  refine hQ (RG.nil ?_)
  simp only [zX]
  refine aw_cond _ rfl trivial (fun ht=>by simp at ht;omega) (fun hf=>?_)
  simp only [zX]
  refine aw_reg 608 (RG.go fun Q hQ=>?_)
  simp (disch:=intros;contradiction) only [zS,simprocAttr]
  refine hQ (RG.nil ?_)
  simp only [zX]
  refine aw_cond _ rfl trivial (fun ht=>?_) (fun hf=>by cases hf)
  simp only [zX]
  refine aw_reg 672 (RG.go fun Q hQ=>?_)
  simp (disch:=intros;contradiction) only [zS,simprocAttr]
  refine hQ (RG.nil ?_)
  simp only [zX]
  refine Fin.objs [] [] (.inr rfl) rfl (by first | exact trivial | exact ⟨trivial,trivial⟩ | exact ⟨trivial,trivial,trivial⟩) ?_ ?_ (by simp [objL,rlook]) (by first | (simp [objL,rlook];done) | (intro k hk;simp [objL,rlook];omega))
  ·simp only [zL]
   all_goals ((repeat' (first | exact trivial | rfl | refine ⟨?_,?_⟩)))
  ·simp only [zL,↓reduceIte]

 ·rw [Nat.zero_add] at h1
  rw [h1] at hZ cF
  rw [if_neg (by omega)] at hZ
  rw [Int.toNat_natCast,List.getD_eq_getElem?_getD,List.getElem?_eq_getElem hkl,Option.getD_some] at hZ
  have hgk:=hg _ (List.getElem_mem hkl)
  have cD:=mementoref16_Do_con L[k] c (hgk.ok hn) hgk.next (by omega) (fun x hx=>k5 x hx)
  generalize doV L[k] c = D at hZ cD
  subst hZ
  have hM : (L.set k D.v).map volC = (L.map volC).set k (volC D.v):=List.map_set
  have hdr:=drows_vol (L.set k D.v)
  rw [hM,vC_eq D.v] at hdr
  refine C_mementoref16_Machine_Apply (Nat.le_of_ble_eq_true rfl) (Nat.le_of_ble_eq_true rfl) ?_
  simp only [cz,A_mementoref16_Machine_Apply,argL,objL,List.length_nil,List.length_cons,Nat.zero_add,zX]
  refine aw_reg 16 (RG.go fun Q hQ=>?_)
  simp (disch:=intros;contradiction) only [zS,simprocAttr]
  refine hQ (RG.nil ?_)
  simp only [zX]
  refine aw_reg 64 (RG.go fun Q hQ=>?_)
  simp (disch:=intros;contradiction) only [zS,simprocAttr]
  refine hQ ?_
  refine RG.call [] (cR) (by (repeat' (first | exact tr_nil | refine tr_cons ?_ ?_ | exact tr_sl))) trivial (by exact .inr ⟨pureTA (fun x hx=>cmdC_pure _ x hx),trivial⟩) ?_
  refine RG.go fun Q hQ=>?_
  simp (disch:=intros;contradiction) only [zS,cmdC,cC,simprocAttr]
  refine hQ (RG.nil ?_)
  simp only [zX]
  refine aw_reg 224 (RG.go fun Q hQ=>?_)
  simp (disch:=intros;contradiction) only [zS,simprocAttr]
  refine hQ (RG.nil ?_)
  simp only [zX]
  refine aw_cond _ rfl trivial (fun ht=>by cases ht) (fun hf=>?_)
  simp only [zX]
  refine aw_reg 288 (RG.go fun Q hQ=>?_)
  simp (disch:=intros;contradiction) only [zS,simprocAttr]
  refine hQ ?_
  refine RG.callo [0] [] (cF) (.mk (by (repeat' (first | exact tr_nil | refine tr_cons ?_ ?_ | exact tr_v | exact tr_bp rfl))) (by first | trivial | (simp only [zT,↓reduceIte];done) | (simp only [zT,simprocAttr];trivial) | (simp only [zT,simprocAttr];repeat' (fail))) (by simp) (by simp) (trivial) (by first | (simp [lkE_cons,lkE_nil];done) | (intro j hj;simp at hj;simp only [setEs,setE_cons,setE_nil,lkE_cons,lkE_nil];repeat rw [if_neg (by omega)])) (by first | (simp [Ent.pure];done) | (simp [Ent.pure];repeat' (fail))) (by simp) (by simp)) ?_
  refine RG.go fun Q hQ=>?_
  simp (disch:=intros;contradiction) only [zS,simprocAttr]
  refine hQ (RG.nil ?_)
  simp only [zX]
  refine aw_reg 400 (RG.go fun Q hQ=>?_)
  simp (disch:=intros;contradiction) only [zS,zW,simprocAttr]
  repeat refine ⟨by (exact ⟨by (intro q hq;obtain ⟨_,_,rfl⟩:=List.mem_map.1 hq;rfl),by omega⟩),?_⟩
  refine hQ (RG.nil ?_)
  simp only [zX]
  refine aw_reg 528 (RG.go fun Q hQ=>?_)
  simp (disch:=intros;contradiction) only [zS,simprocAttr]
  refine hQ (RG.nil ?_)
  simp only [zX]
  refine aw_cond _ rfl trivial (fun ht=>by simp at ht;omega) (fun hf=>?_)
  simp only [zX]
  refine aw_reg 608 (RG.go fun Q hQ=>?_)
  simp (disch:=intros;contradiction) only [zS,simprocAttr]
  refine hQ (RG.nil ?_)
  simp only [zX]
  refine aw_cond _ rfl trivial (fun ht=>by cases ht) (fun hf=>?_)
  simp only [zX]
  refine aw_draw 672 (RG.go fun Q hQ=>?_)
  simp (disch:=first | (intros;contradiction) | omega | (simp only [zN];omega)) only [zS,zW,vC_eq,simprocAttr]
  repeat refine ⟨by (omega),?_⟩
  refine hQ ?_
  refine RG.call [] (cD) (by (repeat' (first | exact tr_nil | refine tr_cons ?_ ?_ | exact tr_agg (by repeat' (first | exact trivial | rfl | refine ⟨?_,?_⟩))))) trivial (by exact .inr ⟨doR_pure _,trivial⟩) ?_
  refine RG.go fun Q hQ=>?_
  simp (disch:=intros;contradiction) only [zS,vC_eq,repC,simprocAttr]
  refine hQ (RG.nil ⟨by decide +kernel,?_⟩)
  simp only [zX]
  refine aw_reg 912 (RG.go fun Q hQ=>?_)
  simp (disch:=first | (intros;contradiction) | omega | (simp only [zN];omega)) only [zS,zW,vC_eq,simprocAttr]
  repeat refine ⟨by (omega),?_⟩
  refine hQ (RG.nil ?_)
  simp only [zX]
  refine aw_reg 1024 (RG.go fun Q hQ=>?_)
  simp (disch:=intros;contradiction) only [zS,simprocAttr]
  refine hQ (RG.nil ?_)
  simp only [zX]
  rw [show MB (L.set k D.v) = .box [.sl ((L.set k D.v).map volC)] from rfl,hM,vC_eq D.v]
  refine aw_reg 1136 (RG.go fun Q hQ=>?_)
  simp (disch:=intros;contradiction) only [zS,simprocAttr]
  refine hQ (RG.nil ?_)
  simp only [zX]
  refine Fin.objs [464] [] (.inr rfl) rfl (by first | exact trivial | exact ⟨trivial,trivial⟩ | exact ⟨trivial,trivial,trivial⟩) ?_ ?_ (by simp [objL,rlook]) (by first | (simp [objL,rlook];done) | (intro k hk;simp [objL,rlook];omega))
  ·simp only [zL,simprocAttr]
   all_goals ((repeat' (first | exact trivial | rfl | refine ⟨?_,?_⟩)))
  ·simp only [zL,simprocAttr]
   all_goals (try ((repeat' (first | (first | assumption | (simp [C.isD];done)) | refine ⟨?_,?_⟩))))

end Go.Abs

namespace Go.Abs
open Go Go.Proofs
set_option maxRecDepth 100000
set_option linter.unusedSimpArgs false
set_option maxHeartbeats 4000000

theorem appM_good {L : List VOL} {d : List Nat} {n : Nat} (hg : ∀ v ∈ L,Vgood v n) (h8 : ∀ c ∈ d,c < 256) : (∀ v ∈ (appM L d).1,Vgood v (n + 1))∧(appM L d).1.length≤L.length + 1:=by
 have hm : ∀ v ∈ L,Vgood v (n + 1):=fun v hv=>(hg v hv).mono (Nat.le_succ n)
 have hR:=fun c h=>readC_ok (d:=d) (c:=c) (n:=d.length) ⟨h8,Nat.le_refl _⟩ h
 unfold appM
 generalize readC d = q at hR
 obtain ⟨c,e⟩:=q
 simp only
 split
 ·exact ⟨hm,Nat.le_succ _⟩
 rename_i he
 obtain rfl : e = 0:=by omega
 obtain ⟨k1,k2,k3,k4,k5⟩:=hR c rfl
 split
 ·split
  ·exact ⟨hm,Nat.le_succ _⟩
  split
  ·exact ⟨hm,Nat.le_succ _⟩
  ·rename_i h
   have hs : shapeV (newV c) = true:=by
    unfold newR at h
    split at h
    ·assumption
    ·exact absurd (by decide) h
   have h4 : newR c = (newV c,0):=new_of hs
   rw [h4]
   simp only
   refine ⟨fun v hv=>?_,?_⟩
   ·unfold insM at hv
    rcases List.mem_append.1 hv with hv | hv
    ·exact hm v ((List.takeWhile_prefix _).subset hv)
    ·rcases List.mem_cons.1 hv with rfl | hv
     ·exact (Vgood.new hs).mono (Nat.zero_le _)
     ·exact hm v ((List.dropWhile_suffix _).subset hv)
   ·unfold insM
    have:=congrArg List.length (List.takeWhile_append_dropWhile (p:=fun w : VOL=>decide (w.id < (newV c).id)) (l:=L))
    simp only [List.length_append,List.length_cons] at this ⊢
    omega
 split
 ·exact ⟨hm,Nat.le_succ _⟩
 ·rename_i h
  rcases idxV_cases c.vol L 0 with ⟨h1,h2⟩ | ⟨k,hkl,h1,h2⟩
  ·rw [h1] at h;exact absurd (by decide) h
  ·rw [h1,Nat.zero_add,Int.toNat_natCast,List.getD_eq_getElem?_getD,List.getElem?_eq_getElem hkl,Option.getD_some]
   refine ⟨fun v hv=>?_,by simp⟩
   rcases List.mem_or_eq_of_mem_set hv with hv | rfl
   ·exact hm v hv
   ·exact (hg _ (List.getElem_mem hkl)).doV k2

theorem itsB_len2 (m : Nat) (hm : m≤1000000) : ∀ (l : List IT),(∀ x ∈ l,x.d.length≤m)→(itsB l).length≤l.length * (m + 20)
 | [],_=>by simp [itsB]
 | x :: l,h=>by
  have h3:=h x (by simp)
  have h1:=itB_len x (by omega)
  have h2:=itsB_len2 m hm l fun y hy=>h y (by simp [hy])
  have : itsB (x :: l) = itB x ++ itsB l:=rfl
  rw [this,List.length_append,List.length_cons,Nat.add_mul,Nat.one_mul];omega
theorem cmdB_len {c : CMD} {m : Nat} (hm : m≤1000) (hp : c.place.length≤1000) (hi : c.items.length≤8) (hd : ∀ x ∈ c.items,x.d.length≤m) : (cmdB c).length≤1000000:=by
 have e1:=numsL_len [c.kind,c.vol,c.blocks,c.size,c.per,c.total,c.at',c.index]
 have e2:=numsL_len c.place
 have e3:=putS1_len c.place.length
 have e4:=itsB_len2 m (by omega) c.items hd
 have e5:=putS1_len c.items.length
 have e6 : c.items.length * (m + 20)≤8 * 1020:=Nat.mul_le_mul hi (by omega)
 unfold cmdB placeB itemsB
 simp only [List.length_append,List.length_cons,List.length_nil] at e1 ⊢
 omega

structure Csmall (c : CMD) : Prop where
 b8 : byI c.items
 place : c.place.length≤1000
 items : c.items.length≤8
 data : ∀ x ∈ c.items,x.d.length≤200

theorem itsF_len (b s : Nat) : ∀ (l : List Nat) (acc : List IT),acc.length≤8→(∀ x ∈ acc,x.d.length = s)→(itsF b s l acc).length≤8∧∀ x ∈ itsF b s l acc,x.d.length = s
 | [],acc,h,h2=>⟨h,h2⟩
 | c :: l,acc,h,h2=>by
  unfold itsF
  split
  ·refine itsF_len b s l _ ?_ ?_
   ·unfold itsStep;split
    ·exact h
    ·simp;omega
   ·unfold itsStep;split
    ·exact h2
    ·intro x hx
     rcases List.mem_append.1 hx with hx | hx
     ·exact h2 x hx
     ·simp only [List.mem_singleton] at hx;subst hx;exact dataN_len _ _
  ·exact ⟨h,h2⟩
theorem itsF_by (b s : Nat) : ∀ (l : List Nat) (acc : List IT),byI acc→byI (itsF b s l acc)
 | [],acc,h=>h
 | c :: l,acc,h=>by
  unfold itsF
  split
  ·refine itsF_by b s l _ ?_
   unfold itsStep
   split
   ·exact h
   ·intro x hx
    rcases List.mem_append.1 hx with hx | hx
    ·exact h x hx
    ·simp only [List.mem_singleton] at hx;subst hx;exact dataN_by _ _
  ·exact h
theorem Csmall.its (k v : Int) (t i : Int) (b s : Nat) (l : List Nat) (hs : s≤200) : Csmall ⟨k,v,0,0,0,[],0,t,i,itsN b s l⟩:=by
 have h:=itsF_len b s l [] (by simp) (fun x hx=>(by cases hx))
 exact ⟨itsF_by b s l [] (fun x hx=>(by cases hx)),by simp,h.1,fun x hx=>by rw [h.2 x hx];exact hs⟩
theorem Csmall.no (k v : Int) (t i : Int) : Csmall ⟨k,v,0,0,0,[],0,t,i,[]⟩:=⟨fun x hx=>(by cases hx),by simp,by simp,fun x hx=>(by cases hx)⟩
theorem cmdV_small (v : VOL) (B S L w a b c : Nat) (hS : S≤200) : Csmall (cmdV v B S L w a b c):=by
 unfold cmdV
 split
 ·exact .its _ _ _ _ _ _ _ hS
 unfold cmd0
 split
 ·exact .its _ _ _ _ _ _ _ hS
 split
 ·exact .no _ _ _ _
 split
 ·exact .no _ _ _ _
 split
 ·exact .no _ _ _ _
 split
 ·exact .no _ _ _ _
 split
 ·exact .its _ _ _ _ _ _ _ hS
 ·exact .no _ _ _ _
theorem createC_small (vol blocks size per total : Nat) (h : total < 1000) : Csmall (createC vol blocks size per total):=by
 have:=(shape_lims (createC_shape vol blocks size per total h)).2.2.2.2.2.2
 refine ⟨fun x hx=>(by cases hx),?_,by simp [createC],fun x hx=>(by cases hx)⟩
 have h2 : (createC vol blocks size per total).place.length≤512:=this
 omega

def totN (c : Nat) : Nat:=if c % 4 = 0 then c / 4 % 3 + 1 else 0
theorem Cmd_new (w a b c : Nat) (hw : w < 256) (ha : a < 256) (hb : b < 256) (hc : c < 256) :
  Con Try.prog 17 [.agg (volC zeroV),B false,.c (.v (.int .u8 w)),.c (.v (.int .u8 a)),.c (.v (.int .u8 b)),.c (.v (.int .u8 c))] [] (.agg (cmdC (createC 0 a b c (totN c)))) []:=by
 have ht : totN c < 1000:=by unfold totN;split <;> omega
 have cC:=Create_con 0 a b c (totN c) (by omega) ha hb hc ht
 have e1 : (c : Int) % 4 = ((c % 4 : Nat) : Int):=by omega
 have e2 : ((c / 4 : Nat) : Int) % 3 = ((c / 4 % 3 : Nat) : Int):=by omega
 have e3 : (c : Int) / 4 = ((c / 4 : Nat) : Int):=by omega
 have e4 : (c : Int).tdiv 4 = ((c / 4 : Nat) : Int):=by rw [Int.tdiv_eq_ediv_of_nonneg (by omega)];omega
 have e5 : IntKind.u8.wrap 0 = 0:=by decide
 have hdr : (SV.agg (cmdC (createC 0 a b c (totN c)))).pureD:=cmdC_pure _
 refine C_mementoseat_Cmd (Nat.le_of_ble_eq_true rfl) (Nat.le_of_ble_eq_true rfl) ?_
 simp only [cz,A_mementoseat_Cmd,argL,objL,List.length_nil,Nat.zero_add,zX,simprocAttr]
 refine aw_reg 16 (RG.go fun Q hQ=>?_)
 simp (disch:=intros;contradiction) only [zS,vC_eq,zeroV,simprocAttr]
 refine hQ (RG.nil ?_)
 simp only [zX]
 refine aw_reg 80 (RG.go fun Q hQ=>?_)
 simp (disch:=intros;contradiction) only [zS,simprocAttr]
 refine hQ (RG.nil ?_)
 simp only [zX]
 refine aw_cond _ rfl trivial (fun ht=>?_) (fun hf=>by cases hf)
 simp only [zX]
 refine aw_reg 144 (RG.go fun Q hQ=>?_)
 simp (disch:=intros;contradiction) only [zS,simprocAttr]
 refine hQ (RG.nil ?_)
 simp only [zY]
 refine aw_joinS (Y:=Unit) [3,4,5,6,12] (fun y=>[(13,I (totN c))]) [16,32] (fun y=>[]) (by (repeat' (first | exact cl_fin | refine cl_then ?_ ?_))) ?_ ?_
 ·skip
  simp only [zX]
  refine aw_reg 192 (RG.go fun Q hQ=>?_)
  simp (disch:=first | (intros;contradiction) | omega | (simp only [zN];omega)) only [zS,zW,e1,simprocAttr]
  repeat refine ⟨by (omega),?_⟩
  refine hQ (RG.nil ?_)
  simp only [zX]
  refine aw_cond _ rfl trivial (fun ht=>?_) (fun hf=>?_)
  ·skip
   try simp at ht
   have e6 : ((c / 4 % 3 : Nat) : Int) + 1 = (totN c : Int):=by unfold totN;rw [if_pos (by omega)];rfl
   refine aw_reg 272 (RG.go fun Q hQ=>?_)
   simp (disch:=first | (intros;contradiction) | omega | (simp only [zN];omega)) only [zS,zW,e2,e3,e6,simprocAttr]
   repeat refine ⟨by (omega),?_⟩
   refine hQ (RG.nil ?_)
   simp only [zX]
   refine ⟨(),?_⟩
   simp only [keepS,keepE,Option.getD_some,lk_cons,lkE_cons,List.cons_append,List.nil_append,simprocAttr]
   refine Le.lit [] [] _ _ ?_ ?_ ?_ ?_
   ·simp only [zL,simprocAttr]
   ·simp only [zL,simprocAttr]
   ·simp [rlook]
   ·first | (simp;done) | (intro k hk;simp [rlook];omega)
  try simp at hf
  simp only [zX]
  have e6 : totN c = 0:=by unfold totN;rw [if_neg (by omega)]
  refine ⟨(),?_⟩
  simp only [keepS,keepE,Option.getD_some,lk_cons,lkE_cons,List.cons_append,List.nil_append,simprocAttr]
  refine Le.lit [] [] _ _ ?_ ?_ ?_ ?_
  ·simp only [zL,simprocAttr]
   all_goals (rw [e6];rfl;skip)
  ·simp only [zL,simprocAttr]
  ·simp [rlook]
  ·first | (simp;done) | (intro k hk;simp [rlook];omega)
 rintro y
 simp only [keepS,keepE,Option.getD_some,lk_cons,lkE_cons,List.cons_append,List.nil_append,simprocAttr]
 simp only [zX]
 refine aw_reg 400 (RG.go fun Q hQ=>?_)
 simp (disch:=intros;contradiction) only [zS,e5,simprocAttr]
 refine hQ ?_
 refine RG.call [] (cC) (by (repeat' (first | exact tr_nil | refine tr_cons ?_ ?_ | exact tr_v))) trivial (by exact .inr ⟨hdr,trivial⟩) ?_
 refine RG.go fun Q hQ=>?_
 simp (disch:=intros;contradiction) only [zS,cmdC,simprocAttr]
 repeat refine ⟨by ((simp;done)),?_⟩
 refine hQ (RG.nil ?_)
 simp only [zX]
 refine Fin.data [] (.inr rfl) rfl (by (exact ⟨trivial,trivial⟩)) ?_
 simp only [zL]
 all_goals ((repeat' (first | exact trivial | rfl | refine ⟨?_,?_⟩)))

end Go.Abs

namespace Go.Abs
open Go Go.Proofs
set_option maxRecDepth 100000
set_option linter.unusedSimpArgs false
set_option maxHeartbeats 8000000

def putB (c : CMD) : List Nat:=if cmdR c = true then cmdB c else []
def putE (c : CMD) : Int:=if cmdR c = true then 0 else 23
theorem PutB_con (c : CMD) (h : Csmall c) : Con Try.prog 53 [.agg (cmdC c)] [] (.tup [.c (.sl ((putB c).map brow)),I (putE c)]) [] :=
 PutCmd_con c (by have:=h.place;omega) (by have:=h.items;omega) (fun x hx=>by have:=h.data x hx;omega)
def seatC (L : List VOL) (w a b c : Nat) : CMD :=
 if (volM L 0).2 = true then cmdV (volM L 0).1 (volM L 0).1.blocks.toNat (volM L 0).1.size.toNat (volM L 0).1.ws.length w a b c else createC 0 a b c (totN c)
def seatS (L : List VOL) (w a b c : Nat) : List VOL:=(appM L (putB (seatC L w a b c))).1
def seatN (l : List Nat) : Nat→List VOL
 | 0=>[]
 | k + 1=>seatS (seatN l k) (l.getD (4 * k) 0) (l.getD (4 * k + 1) 0) (l.getD (4 * k + 2) 0) (l.getD (4 * k + 3) 0)
def vol0 : VOL:=newV (createC 0 3 1 1 0)
def seatV (l : List Nat) : VOL:=(seatN l (l.length / 4)).headD vol0

theorem volM_cases (L : List VOL) (id : Int) (n : Nat) (hg : ∀ v ∈ L,Vgood v n) : ((volM L id).2 = true∧Vgood (volM L id).1 n)∨((volM L id).2 = false∧(volM L id).1 = zeroV):=by
 rcases idxV_cases id L 0 with ⟨h1,h2⟩ | ⟨k,hk,h1,h2⟩
 ·right
  have : volM L id = (zeroV,false):=by unfold volM;rw [h1,if_pos (by decide)]
  rw [this];exact ⟨rfl,rfl⟩
 ·left
  have : volM L id = (L[k],true):=by
   unfold volM;rw [h1,Nat.zero_add,if_neg (by omega),Int.toNat_natCast,List.getD_eq_getElem?_getD,List.getElem?_eq_getElem hk];rfl
  rw [this];exact ⟨rfl,hg _ (List.getElem_mem hk)⟩

theorem seatC_small (L : List VOL) (n : Nat) (hg : ∀ v ∈ L,Vgood v n) (w a b c : Nat) : Csmall (seatC L w a b c):=by
 unfold seatC
 rcases volM_cases L 0 n hg with ⟨h1,h2⟩ | ⟨h1,h2⟩
 ·rw [if_pos h1]
  exact cmdV_small _ _ _ _ _ _ _ _ (by have:=(shape_lims (rightV_iff.1 h2.right).1).2.2.1;omega)
 ·rw [if_neg (by simp [h1])]
  exact createC_small _ _ _ _ _ (by unfold totN;split <;> omega)

theorem putB_ok {c : CMD} (h : Csmall c) : (∀ x ∈ putB c,x < 256)∧(putB c).length≤1000000:=by
 unfold putB
 split
 ·exact ⟨cmdB_by _ h.b8,cmdB_len (m:=200) (by omega) h.place h.items h.data⟩
 ·simp
theorem seatB_ok {L : List VOL} {n : Nat} (hg : ∀ v ∈ L,Vgood v n) (w a b c : Nat) :
  (∀ x ∈ putB (seatC L w a b c),x < 256)∧(putB (seatC L w a b c)).length≤1000000:=putB_ok (seatC_small L n hg w a b c)

theorem Cmd_any (L : List VOL) (n : Nat) (hg : ∀ v ∈ L,Vgood v n) (hn : n≤50000) (w a b c : Nat) (hw : w < 256) (ha : a < 256) (hb : b < 256) (hc : c < 256) :
  Con Try.prog 17 [.agg (volC (volM L 0).1),B (volM L 0).2,.c (.v (.int .u8 w)),.c (.v (.int .u8 a)),.c (.v (.int .u8 b)),.c (.v (.int .u8 c))] [] (.agg (cmdC (seatC L w a b c))) []:=by
 unfold seatC
 rcases volM_cases L 0 n hg with ⟨h1,h2⟩ | ⟨h1,h2⟩
 ·rw [if_pos h1,h1];exact Cmd_there _ n h2 hn w a b c hw ha hb hc
 ·rw [if_neg (by simp [h1]),h1,h2];exact Cmd_new w a b c hw ha hb hc

theorem seatN_good (l : List Nat) : ∀ k,(∀ v ∈ seatN l k,Vgood v k)∧(seatN l k).length≤k
 | 0=>⟨fun v hv=>(by cases hv),Nat.le_refl _⟩
 | k + 1=>by
  have h:=seatN_good l k
  have h2:=appM_good h.1 (seatB_ok h.1 (l.getD (4 * k) 0) (l.getD (4 * k + 1) 0) (l.getD (4 * k + 2) 0) (l.getD (4 * k + 3) 0)).1
  exact ⟨h2.1,Nat.le_trans h2.2 (by omega)⟩

theorem seatV_good (l : List Nat) : Vgood (seatV l) (l.length / 4):=by
 have h:=(seatN_good l (l.length / 4)).1
 unfold seatV
 cases hs : seatN l (l.length / 4) with
 | nil=>exact (Vgood.new (createC_shape 0 3 1 1 0 (by omega))).mono (Nat.zero_le _)
 | cons v r=>rw [hs] at h;exact h v (by simp)

theorem getD_lt {l : List Nat} {i : Nat} (h : i < l.length) : l.getD i 0 = l[i]:=by rw [List.getD_eq_getElem?_getD,List.getElem?_eq_getElem h];rfl

theorem Volume_con (l : List Nat) (h8 : ∀ c ∈ l,c < 256) (hl : l.length≤10000) : Con Try.prog 28 [.c (.sl (l.map brow))] [] (.agg (volC (seatV l))) []:=by
 have cC:=Create_con 0 3 1 1 0 (by omega) (by omega) (by omega) (by omega) (by omega)
 have hsh:=createC_shape 0 3 1 1 0 (by omega)
 have hpl:=(shape_lims hsh).2.2.2.2.2.2
 have hN:=mementoref16_New_con (createC 0 3 1 1 0) (by have : (createC 0 3 1 1 0).place.length≤512:=hpl;omega)
 rw [new_of hsh] at hN
 obtain ⟨N,hN4⟩ : ∃ N,N = l.length / 4:=⟨_,rfl⟩
 have hV : seatV l = (seatN l N).headD vol0:=by rw [hN4];rfl
 obtain ⟨R,hR⟩ : ∃ R,R = seatN l N:=⟨_,rfl⟩
 rw [hV,← hR]
 refine C_mementoseat_Volume (Nat.le_of_ble_eq_true rfl) (Nat.le_of_ble_eq_true rfl) ?_
 simp only [cz,A_mementoseat_Volume,argL,objL,List.length_nil,zX]
 refine aw_reg 16 (RG.go fun Q hQ=>?_)
 simp (disch:=intros;contradiction) only [zS,simprocAttr]
 refine hQ (RG.nil ?_)
 simp only [zX]
 refine aw_reg 64 (RG.go fun Q hQ=>?_)
 simp (disch:=intros;contradiction) only [zS,simprocAttr]
 refine hQ (RG.nil ?_)
 simp only [zX]
 refine aw_reg 144 (RG.go fun Q hQ=>?_)
 simp (disch:=intros;contradiction) only [zS,simprocAttr]
 refine hQ (RG.nil ?_)
 simp only [zX]
 refine aw_loopK (X:={ p : Nat × Nat × List VOL // p.1≤N∧p.2.1 = 4 * p.1∧p.2.2 = seatN l p.1 }) [0,2,3] (fun p=>[(4,I p.1.2.1)]) [16] (fun p=>[(80,MB p.1.2.2)]) (fun p=>N - p.1.1) (⟨(0,0,[]),by simp,by simp,rfl⟩) ?_ ?_
 ·skip
  simp only [keepS,keepE,Option.getD_some,lk_cons,lkE_cons,List.cons_append,List.nil_append,simprocAttr]
  refine Le.lit [] [] _ _ ?_ ?_ ?_ ?_
  ·simp only [zL,simprocAttr]
  ·simp only [zL,simprocAttr]
  ·simp [rlook]
  ·first | (simp;done) | (intro k hk;simp [rlook];omega)
 rintro ⟨⟨k,i,L⟩,hk,hik,hLs⟩
 simp only [keepS,keepE,Option.getD_some,lk_cons,lkE_cons,List.cons_append,List.nil_append,simprocAttr]
 simp only [zX]
 simp only at hk hik hLs
 have hGd:=(seatN_good l k).1
 have hL:=(seatN_good l k).2
 rw [← hLs] at hGd hL
 refine aw_reg 192 (RG.go fun Q hQ=>?_)
 simp (disch:=first | (intros;contradiction) | omega | (simp only [zN];omega)) only [zS,zW,simprocAttr]
 refine hQ (RG.nil ?_)
 simp only [zX]
 refine aw_cond _ rfl trivial (fun ht=>?_) (fun hf=>?_)
 ·skip
  try simp at ht
  simp only [zX]
  have h3 : i + 3 < l.length:=by omega
  obtain ⟨i1,hi1⟩ : ∃ i1,i1 = i + 1:=⟨_,rfl⟩
  obtain ⟨i2,hi2⟩ : ∃ i2,i2 = i + 2:=⟨_,rfl⟩
  obtain ⟨i3,hi3⟩ : ∃ i3,i3 = i + 3:=⟨_,rfl⟩
  obtain ⟨i4,hi4⟩ : ∃ i4,i4 = i + 4:=⟨_,rfl⟩
  have b0 : i < l.length:=by omega
  have b1 : i1 < l.length:=by omega
  have b2 : i2 < l.length:=by omega
  have b3 : i3 < l.length:=by omega
  have hs : seatN l (k + 1) = seatS L l[i] l[i1] l[i2] l[i3]:=by
   rw [seatN,← hLs,← hik,← hi1,← hi2,← hi3,getD_lt b0,getD_lt b1,getD_lt b2,getD_lt b3]
  have t0:=h8 _ (List.getElem_mem b0)
  have t1:=h8 _ (List.getElem_mem b1)
  have t2:=h8 _ (List.getElem_mem b2)
  have t3:=h8 _ (List.getElem_mem b3)
  have cM:=MVolume_con L 0 (by omega)
  have cD:=Cmd_any L k hGd (by omega) l[i] l[i1] l[i2] l[i3] t0 t1 t2 t3
  have hB:=seatB_ok hGd l[i] l[i1] l[i2] l[i3]
  have hsm:=seatC_small L k hGd l[i] l[i1] l[i2] l[i3]
  unfold seatS at hs
  have cA:=Apply_con L _ k (by omega) hGd (by omega) hB.1 hB.2
  generalize seatC L l[i] l[i1] l[i2] l[i3] = C0 at cD hB hsm cA hs
  have cP:=PutB_con C0 hsm
  generalize putB C0 = bs at cA hs hB cP
  generalize appM L bs = Z at cA hs
  obtain ⟨L2,rp⟩:=Z
  simp only at cA hs
  have hs2 : seatN l (k + 1) = L2∧True:=⟨hs,trivial⟩
  clear hs
  generalize volM L 0 = V0 at cM cD
  obtain ⟨v0,b0⟩:=V0
  simp only at cM cD
  have e1 : (i : Int) + 1 = (i1 : Int):=by omega
  have e2 : (i : Int) + 2 = (i2 : Int):=by omega
  have e3 : (i : Int) + 3 = (i3 : Int):=by omega
  have e4 : (i : Int) + 4 = (i4 : Int):=by omega
  refine aw_reg 304 (RG.go fun Q hQ=>?_)
  simp (disch:=intros;contradiction) only [zS,e3,simprocAttr]
  refine hQ ?_
  refine RG.callo [80] [] (cM) (.mk (by (repeat' (first | exact tr_nil | refine tr_cons ?_ ?_ | exact tr_v | exact tr_bp rfl))) (by first | trivial | (simp only [zT,↓reduceIte];done) | (simp only [zT,simprocAttr];trivial) | (simp only [zT,simprocAttr];repeat' (fail))) (by simp) (by simp) (trivial) (by first | (simp [lkE_cons,lkE_nil];done) | (intro j hj;simp at hj;simp only [setEs,setE_cons,setE_nil,lkE_cons,lkE_nil];repeat rw [if_neg (by omega)])) (by first | (simp [Ent.pure];done) | (simp [Ent.pure];repeat' (fail))) (by simp) (by simp)) ?_
  refine RG.go fun Q hQ=>?_
  simp (disch:=intros;contradiction) only [zS,vC_eq,simprocAttr]
  refine hQ (RG.nil ?_)
  simp only [zX]
  refine aw_draw 464 (RG.go fun Q hQ=>?_)
  simp (disch:=first | (intros;contradiction) | omega | (simp only [zN];omega)) only [zS,zW,brow,e1,e2,e3,simprocAttr]
  repeat refine ⟨by (omega),?_⟩
  refine hQ ?_
  refine RG.call [] (cD) (by (repeat' (first | exact tr_nil | refine tr_cons ?_ ?_ | exact tr_v | exact tr_agg (by repeat' (first | exact trivial | rfl | refine ⟨?_,?_⟩))))) trivial (by exact .inr ⟨cmdC_pure _,trivial⟩) ?_
  refine RG.go fun Q hQ=>?_
  simp (disch:=intros;contradiction) only [zS,simprocAttr]
  refine hQ ?_
  refine RG.call [] (cP) (by (repeat' (first | exact tr_nil | refine tr_cons ?_ ?_ | exact tr_agg (by repeat' (first | exact trivial | rfl | refine ⟨?_,?_⟩))))) trivial (by exact .inr ⟨pureTC,trivial⟩) ?_
  refine RG.go fun Q hQ=>?_
  simp (disch:=intros;contradiction) only [zS,simprocAttr]
  refine hQ (RG.nil ⟨by decide +kernel,?_⟩)
  simp only [zX]
  refine aw_reg 944 (RG.go fun Q hQ=>?_)
  simp (disch:=intros;contradiction) only [zS,simprocAttr]
  refine hQ ?_
  refine RG.callo [80] [] (cA) (.mk (by (repeat' (first | exact tr_nil | refine tr_cons ?_ ?_ | exact tr_bp rfl | exact tr_sl))) (by first | trivial | (simp only [zT,↓reduceIte];done) | (simp only [zT,simprocAttr];trivial) | (simp only [zT,simprocAttr];repeat' (fail))) (by simp) (by simp) (trivial) (by first | (simp [lkE_cons,lkE_nil];done) | (intro j hj;simp at hj;simp only [setEs,setE_cons,setE_nil,lkE_cons,lkE_nil];repeat rw [if_neg (by omega)])) (by first | (simp [Ent.pure];done) | (simp [Ent.pure];repeat' (fail))) (by simp) (by simp)) ?_
  refine RG.go fun Q hQ=>?_
  simp (disch:=intros;contradiction) only [zS,simprocAttr]
  refine hQ (RG.nil ?_)
  simp only [zX]
  refine aw_reg 1024 (RG.go fun Q hQ=>?_)
  simp (disch:=first | (intros;contradiction) | omega | (simp only [zN];omega)) only [zS,zW,e4,simprocAttr]
  refine hQ (RG.nil ?_)
  simp only [zX]
  refine ⟨⟨(k + 1,i4,L2),by simp only;omega,by simp only;omega,by simp only;rw [hs2.1]⟩,?_,by first | omega | (simp only;omega)⟩
  refine Le.lit [] [] _ _ ?_ ?_ ?_ ?_
  ·simp only [zL,simprocAttr]
  ·simp only [zL,simprocAttr]
   all_goals (trivial;skip)
  ·simp [rlook]
  ·first | (simp;done) | (intro k hk;simp [rlook];omega)
 try simp at hf
 simp only [zX,↓reduceIte]
 have hkN : k = N:=by omega
 have hLR : L = R:=by rw [hLs,hR,hkN]
 by_cases hn : L = []
 ·skip
  refine aw_reg 1104 (RG.go fun Q hQ=>?_)
  simp (disch:=intros;contradiction) only [zS,zW,simprocAttr]
  refine hQ (RG.nil ?_)
  simp only [zX]
  refine aw_cond _ rfl trivial (fun ht=>?_) (fun hf=>by rw [hn] at hf;simp at hf)
  simp only [zX]
  refine aw_reg 1232 (RG.go fun Q hQ=>?_)
  simp (disch:=intros;contradiction) only [zS,↓reduceIte]
  refine hQ ?_
  refine RG.call [] (cC) (by (repeat' (first | exact tr_nil | refine tr_cons ?_ ?_ | exact tr_v))) trivial (by exact .inr ⟨cmdC_pure _,trivial⟩) ?_
  refine RG.go fun Q hQ=>?_
  simp (disch:=intros;contradiction) only [zS,simprocAttr]
  refine hQ ?_
  refine RG.call [] (hN) (by (repeat' (first | exact tr_nil | refine tr_cons ?_ ?_ | exact tr_agg (by repeat' (first | exact trivial | rfl | refine ⟨?_,?_⟩))))) trivial (by exact .inr ⟨pureTA (fun c hc=>volC_pure _ c hc),trivial⟩) ?_
  refine RG.go fun Q hQ=>?_
  simp (disch:=intros;contradiction) only [zS,vC_eq,simprocAttr]
  refine hQ (RG.nil ?_)
  simp only [zX]
  rw [show R.headD vol0 = newV (createC 0 3 1 1 0) from by rw [← hLR,hn];rfl]
  refine aw_reg 1392 (RG.go fun Q hQ=>?_)
  simp (disch:=intros;contradiction) only [zS,simprocAttr]
  refine hQ (RG.nil ?_)
  simp only [zX]
  refine Fin.data [] (.inr rfl) rfl (by (exact ⟨trivial,trivial⟩)) ?_
  simp only [zL]
  all_goals ((repeat' (first | exact trivial | rfl | refine ⟨?_,?_⟩)))
 obtain ⟨v,r,hvr⟩:=List.exists_cons_of_ne_nil hn
 subst hvr
 refine aw_reg 1456 (RG.go fun Q hQ=>?_)
 simp (disch:=intros;contradiction) only [zS,zW,vC_eq,simprocAttr]
 refine hQ (RG.nil ?_)
 simp only [zX]
 refine aw_cond _ rfl trivial (fun ht=>by simp at ht;omega) (fun hf=>?_)
 simp only [zX]
 refine aw_reg 1584 (RG.go fun Q hQ=>?_)
 simp (disch:=intros;contradiction) only [zS,zW,vC_eq,simprocAttr]
 repeat refine ⟨by (omega),?_⟩
 refine hQ (RG.nil ?_)
 simp only [zX]
 rw [show R.headD vol0 = v from by rw [← hLR];rfl]
 refine Fin.data [] (.inr rfl) rfl (by (exact ⟨trivial,trivial⟩)) ?_
 simp only [zL]
 all_goals ((repeat' (first | exact trivial | rfl | refine ⟨?_,?_⟩)))

end Go.Abs

namespace Go.Abs
open Go Go.Proofs
set_option maxRecDepth 100000
set_option linter.unusedSimpArgs false
set_option maxHeartbeats 8000000

theorem pin_ok {v : VOL} (h : v.hid = false) {t : Int} (h1 : v.floor≤t) (h2 : t≤lenV v) (c : CMD) (hk : c.kind = 4) (ht : c.at' = t) : doV v c = done { v with pins:=insP t v.pins }:=by
 unfold doV
 rw [if_neg (by omega),if_neg (by omega),if_pos hk,ht]
 unfold doPin
 rw [if_neg (by simp [h]),if_neg (by omega),if_neg (by omega)]
theorem unpin_ok {v : VOL} (h : v.hid = false) {t : Int} (h1 : t ∈ v.pins) (c : CMD) (hk : c.kind = 5) (ht : c.at' = t) : doV v c = done { v with pins:=delP t v.pins }:=by
 unfold doV
 rw [if_neg (by omega),if_neg (by omega),if_neg (by omega),if_pos hk,ht]
 unfold doUnpin
 rw [if_neg (by simp [h]),if_pos h1]

theorem lowL_perm {n : Int} {l m : List Int} (h : l.Perm m) : lowL n l = lowL n m:=by
 induction h generalizing n with
 | nil=>rfl
 | cons x _ ih=>exact ih
 | swap x y l=>show lowL (min (min n y) x) l = lowL (min (min n x) y) l;congr 1;omega
 | trans _ _ h1 h2=>exact h1.trans h2
theorem insP_perm {t : Int} {l : List Int} (hs : l.Pairwise (·≤·)) : (insP t l).Perm (t :: l):=by
 rw [← insP_eq hs]
 exact (isort_perm _).trans (List.perm_append_comm (l₂:=[t]))
theorem lowL_cons (n t : Int) (l : List Int) : lowL n (t :: l) = min t (lowL n l):=by
 have key : ∀ (l : List Int) (n m : Int),lowL (min n m) l = min m (lowL n l):=by
  intro l
  induction l with
  | nil=>intro n m;show min n m = min m n;omega
  | cons x l ih=>intro n m;show lowL (min (min n m) x) l = min m (lowL (min n x) l);rw [show min (min n m) x = min (min n x) m by omega,ih]
 exact key l n t
theorem lowL_ins {n t : Int} {l : List Int} (hs : l.Pairwise (·≤·)) : lowL n (insP t l) = min t (lowL n l):=by
 rw [lowL_perm (insP_perm hs),lowL_cons]

theorem delP_perm {t : Int} : ∀ {l : List Int},t ∈ l→(t :: delP t l).Perm l
 | x :: l,h=>by
  unfold delP
  split
  ·rename_i hx;rw [hx]
  ·rename_i hx
   have : t ∈ l:=by
    rcases List.mem_cons.1 h with h | h
    ·exact absurd h.symm hx
    ·exact h
   exact (List.Perm.swap x t _).trans ((delP_perm this).cons x)

theorem sorted_perm {l m : List Int} (h : l.Perm m) (h1 : l.Pairwise (·≤·)) (h2 : m.Pairwise (·≤·)) : l = m:=by
 have a:=isort_of_perm h
 rwa [isort_id h1,isort_id h2] at a

def tsP (F n : Int) (l : List Nat) : List Int:=l.map fun k : Nat=>F + (k : Int) % (n - F + 1)
theorem tsP_in {F n : Int} {l : List Nat} (h : F≤n) : ∀ t ∈ tsP F n l,F≤t∧t≤n:=by
 intro t ht
 obtain ⟨k,_,rfl⟩:=List.mem_map.1 ht
 have h1:=Int.emod_nonneg (k : Int) (show n - F + 1≠0 by omega)
 have h2:=Int.emod_lt_of_pos (k : Int) (show 0 < n - F + 1 by omega)
 omega

theorem VolumePins_con (l pins : List Nat) (h8 : ∀ c ∈ l,c < 256) (hp8 : ∀ c ∈ pins,c < 256) :
  Con Try.prog 7 [.c (.sl (l.map brow)),.c (.sl (pins.map brow))] [] (B true) []:=by
 refine C_mementolaw16_VolumePins (Nat.le_of_ble_eq_true rfl) (Nat.le_of_ble_eq_true rfl) ?_
 simp only [cz,A_mementolaw16_VolumePins,argL,objL,List.length_nil,Nat.zero_add,zX]
 refine aw_reg 16 (RG.go fun Q hQ=>?_)
 simp (disch:=intros;contradiction) only [zS,simprocAttr]
 refine hQ (RG.nil ?_)
 simp only [zX]
 refine aw_reg 64 (RG.go fun Q hQ=>?_)
 simp (disch:=intros;contradiction) only [zS,↓reduceIte]
 refine hQ ?_
 refine RG.call [] (mementolaw16_known_con) (by (repeat' (exact tr_nil))) trivial (by (exact .inl trivial)) ?_
 refine RG.go fun Q hQ=>?_
 simp (disch:=intros;contradiction) only [zS,simprocAttr]
 refine hQ (RG.nil ?_)
 simp only [zX]
 refine aw_cond _ rfl trivial (fun ht=>by cases ht) (fun hf=>?_)
 simp only [zX]
 refine aw_reg 128 (RG.go fun Q hQ=>?_)
 simp (disch:=intros;contradiction) only [zS,zW,simprocAttr]
 repeat refine ⟨by ((simp;done)),?_⟩
 refine hQ (RG.nil ?_)
 simp only [zX]
 refine aw_cond _ rfl trivial (fun ht=>?_) (fun hf=>?_)
 ·skip
  try simp at ht
  simp only [zX]
  refine aw_reg 288 (RG.go fun Q hQ=>?_)
  simp (disch:=intros;contradiction) only [zS,simprocAttr]
  refine hQ (RG.nil ?_)
  simp only [zX]
  refine Fin.b (.inr rfl) rfl trivial ?_
  rfl
 try simp at hf
 simp only [zX]
 have hl : l.length≤60:=by omega
 have hpl : pins.length≤12:=by omega
 have cV:=Volume_con l h8 (by omega)
 have g0:=(seatV_good l).mono (show l.length / 4≤15 by omega)
 generalize seatV l = v at cV g0
 refine aw_reg 336 (RG.go fun Q hQ=>?_)
 simp (disch:=intros;contradiction) only [zS,simprocAttr]
 refine hQ ?_
 refine RG.call [] (cV) (by (repeat' (first | exact tr_nil | refine tr_cons ?_ ?_ | exact tr_sl))) trivial (by exact .inr ⟨volC_pure _,trivial⟩) ?_
 refine RG.go fun Q hQ=>?_
 simp (disch:=intros;contradiction) only [zS,vC_eq,simprocAttr]
 refine hQ (RG.nil ?_)
 simp only [zX]
 refine aw_reg 432 (RG.go fun Q hQ=>?_)
 simp (disch:=intros;contradiction) only [zS,simprocAttr]
 refine hQ (RG.nil ?_)
 simp only [zX]
 refine aw_cond _ rfl trivial (fun ht=>?_) (fun hf=>?_)
 ·skip
  try simp at ht
  simp only [zX]
  refine aw_reg 496 (RG.go fun Q hQ=>?_)
  simp (disch:=intros;contradiction) only [zS,simprocAttr]
  refine hQ (RG.nil ?_)
  simp only [zX]
  refine Fin.b (.inr rfl) rfl trivial ?_
  rfl
 try simp at hf
 simp only [zX]
 have hh : v.hid = false:=hf
 obtain ⟨r1,r2,r3,r4,r5,r6,r7,r8⟩:=rightV_iff.1 g0.right
 obtain ⟨p1,p2⟩:=pinsR_iff.1 r7
 have hwl:=g0.ws
 obtain ⟨n,hn⟩ : ∃ n : Int,n = v.ws.length:=⟨_,rfl⟩
 have hln : lenV v = n:=hn.symm
 rw [hln] at r6 p1
 refine aw_reg 544 (RG.go fun Q hQ=>?_)
 simp (disch:=intros;contradiction) only [zS,simprocAttr]
 refine hQ ?_
 refine RG.call [] (mementoref16_Len_con v) (by (repeat' (first | exact tr_nil | refine tr_cons ?_ ?_ | exact tr_agg (by repeat' (first | exact trivial | rfl | refine ⟨?_,?_⟩))))) trivial (by (exact .inl trivial)) ?_
 refine RG.go fun Q hQ=>?_
 simp (disch:=intros;contradiction) only [zS,lenV,simprocAttr]
 refine hQ (RG.nil ?_)
 simp only [zX]
 refine aw_reg 624 (RG.go fun Q hQ=>?_)
 simp (disch:=intros;contradiction) only [zS,simprocAttr]
 refine hQ (RG.nil ?_)
 simp only [zX]
 refine aw_reg 704 (RG.go fun Q hQ=>?_)
 simp (disch:=intros;contradiction) only [zS,simprocAttr]
 refine hQ ?_
 refine RG.call [] (volume_Low_con v (g0.ok (by omega)).pins) (by (repeat' (first | exact tr_nil | refine tr_cons ?_ ?_ | exact tr_agg (by repeat' (first | exact trivial | rfl | refine ⟨?_,?_⟩))))) trivial (by (exact .inl trivial)) ?_
 refine RG.go fun Q hQ=>?_
 simp (disch:=intros;contradiction) only [zS,simprocAttr]
 refine hQ (RG.nil ?_)
 simp only [zX]
 obtain ⟨ts,hts⟩ : ∃ ts,ts = tsP v.floor n pins:=⟨_,rfl⟩
 have hti:=tsP_in (F:=v.floor) (n:=n) (l:=pins) r6
 rw [← hts] at hti
 have htl : ts.length = pins.length:=by rw [hts];simp [tsP]
 have htg : ∀ (i : Nat) (h : i < pins.length) (h' : i < ts.length),ts[i] = v.floor + (pins[i] : Int) % (n - v.floor + 1):=by
  intro i h h';simp [hts,tsP]
 have hlow : lowV v = lowL n v.pins:=by unfold lowV;rw [← hn]
 rw [← hn]
 rw [hlow]
 refine aw_reg 784 (RG.go fun Q hQ=>?_)
 simp (disch:=intros;contradiction) only [zS,simprocAttr]
 refine hQ (RG.nil ?_)
 simp only [zX]
 refine aw_loopK (X:={ x : Nat × List Int // x.1≤pins.length∧x.2.Perm (ts.take x.1 ++ v.pins)∧Vgood { v with pins:=x.2 } (15 + x.1) }) [1,5,6,7] (fun x=>[(8,I (lowL n x.1.2)),(9,I x.1.1)]) [368] (fun x=>[(640,.box (volC { v with pins:=x.1.2 }))]) (fun x=>pins.length - x.1.1) (⟨(0,v.pins),by simp only;omega,by simp,by simpa using g0⟩) ?_ ?_
 ·skip
  simp only [keepS,keepE,Option.getD_some,lk_cons,lkE_cons,List.cons_append,List.nil_append,simprocAttr]
  refine Le.lit [] [] _ _ ?_ ?_ ?_ ?_
  ·simp only [zL,simprocAttr]
  ·simp only [zL,simprocAttr]
   all_goals (trivial;skip)
  ·simp [rlook]
  ·first | (simp;done) | (intro k hk;simp [rlook];omega)
 rintro ⟨⟨i,P⟩,hi,hP,hg⟩
 simp only [keepS,keepE,Option.getD_some,lk_cons,lkE_cons,List.cons_append,List.nil_append,simprocAttr]
 simp only [zX]
 simp only at hi hP hg
 refine aw_reg 832 (RG.go fun Q hQ=>?_)
 simp (disch:=intros;contradiction) only [zS,zW,vC_eq,simprocAttr]
 refine hQ (RG.nil ?_)
 simp only [zX]
 refine aw_cond _ rfl trivial (fun ht=>?_) (fun hf=>?_)
 ·skip
  try simp at ht
  simp only [zX]
  have hip : i < pins.length:=by omega
  have hit : i < ts.length:=by omega
  have hq:=hti _ (List.getElem_mem hit)
  have hqe:=htg i hip hit
  have hb8:=hp8 _ (List.getElem_mem hip)
  obtain ⟨t,ht1⟩ : ∃ t,t = ts[i]:=⟨_,rfl⟩
  rw [← ht1] at hq hqe
  have hqz : v.floor + (pins[i] : Int) % (n - v.floor + 1) = t:=hqe.symm
  have hps:=(pinsR_iff.1 (rightV_iff.1 hg.right).2.2.2.2.2.2.1).2
  have hD:=pin_ok (v:={ v with pins:=P }) hh (t:=t) hq.1 (by show t≤lenV v;omega) ⟨4,0,0,0,0,[],0,t,0,[]⟩ rfl rfl
  have cD:=volume_Do_con { v with pins:=P } ⟨4,0,0,0,0,[],0,t,0,[]⟩ (hg.do (by omega) (by simp) (by simp))
  have hg2:=hg.doV (c:=⟨4,0,0,0,0,[],0,t,0,[]⟩) (by intro x hx;cases hx)
  rw [hD] at cD hg2
  have hg2 : Vgood { v with pins:=insP t P } (15 + i + 1):=hg2
  have hPl : P.length≤15 + i:=hg.pins
  have hlo : lowL n (insP t P) = min t (lowL n P):=lowL_ins hps
  have hln2 : (insP t P).length = P.length + 1:=insP_len hps
  have hpm : (insP t P).Perm (ts.take (i + 1) ++ v.pins):=by
   refine (insP_perm hps).trans ?_
   rw [take_one ts i hit,← ht1,List.append_assoc]
   exact (hP.cons t).trans List.perm_middle.symm
  generalize insP t P = P2 at hlo hln2 hpm cD hg2
  have hok2:=hg2.ok (by omega)
  have cR:=volume_Right_con _ hok2
  have hrr:=hg2.right
  rw [hrr] at cR
  have cL:=volume_Low_con _ hok2.pins
  refine aw_draw 928 (RG.go fun Q hQ=>?_)
  simp (disch:=first | (intros;contradiction) | omega | (simp only [zN];omega)) only [zS,zW,brow,hqz,simprocAttr]
  repeat refine ⟨by (omega),?_⟩
  refine hQ (RG.nil ⟨by decide +kernel,?_⟩)
  simp only [zX]
  refine aw_reg 1200 (RG.go fun Q hQ=>?_)
  simp (disch:=intros;contradiction) only [zS,simprocAttr]
  refine hQ ?_
  refine RG.call [] (cD) (by (repeat' (first | exact tr_nil | refine tr_cons ?_ ?_ | exact tr_agg (by repeat' (first | exact trivial | rfl | refine ⟨?_,?_⟩))))) trivial (by exact .inr ⟨doR_pure _,trivial⟩) ?_
  refine RG.go fun Q hQ=>?_
  simp (disch:=intros;contradiction) only [zS,vC_eq,lenV,done,repC,simprocAttr]
  refine hQ (RG.nil ?_)
  simp only [zX]
  refine aw_reg 1408 (RG.go fun Q hQ=>?_)
  simp (disch:=intros;contradiction) only [zS,simprocAttr]
  refine hQ ?_
  refine RG.callg _ _ [] rfl (fun hg=>⟨_,(cR),by (repeat' (first | exact tr_nil | refine tr_cons ?_ ?_ | exact tr_opt (by simpa using hg) (tr_agg (by repeat' (first | exact trivial | rfl | refine ⟨?_,?_⟩))))),trivial,by (exact .inl trivial)⟩) ?_
  refine RG.go fun Q hQ=>?_
  simp (disch:=first | (intros;contradiction) | omega | (simp only [zN];omega)) only [zS,zW,simprocAttr]
  refine hQ (RG.nil ?_)
  simp only [zX]
  refine aw_cond _ rfl trivial (fun ht=>by simp [hln2] at ht) (fun hf=>?_)
  simp only [zX]
  refine aw_reg 1728 (RG.go fun Q hQ=>?_)
  simp (disch:=intros;contradiction) only [zS,simprocAttr]
  refine hQ (RG.nil ?_)
  simp only [zX]
  have hmin : (if lowL n P < t then lowL n P else t) = lowL n P2:=by rw [hlo];split <;> omega
  have hmin2 : (if t < lowL n P then t else lowL n P) = lowL n P2:=by rw [hlo];split <;> omega
  have hcl : lowV { v with pins:=P2 } = lowL n P2:=by unfold lowV;rw [← hn]
  rw [hcl] at cL
  refine aw_reg 1856 (RG.go fun Q hQ=>?_)
  simp (disch:=intros;contradiction) only [zS,hmin2,simprocAttr]
  refine hQ ?_
  refine RG.call [] (cL) (by (repeat' (first | exact tr_nil | refine tr_cons ?_ ?_ | exact tr_agg (by repeat' (first | exact trivial | rfl | refine ⟨?_,?_⟩))))) trivial (by (exact .inl trivial)) ?_
  refine RG.go fun Q hQ=>?_
  simp (disch:=intros;contradiction) only [zS,simprocAttr]
  refine hQ (RG.nil ?_)
  simp only [zX]
  refine aw_cond _ rfl trivial (fun ht=>by simp at ht) (fun hf=>?_)
  simp only [zX]
  refine aw_reg 1952 (RG.go fun Q hQ=>?_)
  simp (disch:=first | (intros;contradiction) | omega | (simp only [zN];omega)) only [zS,zW,simprocAttr]
  refine hQ (RG.nil ?_)
  simp only [zX]
  refine ⟨⟨(i + 1,P2),by simp only;omega,hpm,hg2⟩,?_,by first | omega | (simp only;omega)⟩
  refine Le.lit [] [] _ _ ?_ ?_ ?_ ?_
  ·simp only [zL,simprocAttr]
   all_goals (try ((repeat' (rfl))))
  ·simp only [zL,simprocAttr]
   all_goals (trivial;skip)
  ·simp [rlook]
  ·first | (simp;done) | (intro k hk;simp [rlook];omega)
 try simp at hf
 simp only [zX,↓reduceIte]
 obtain rfl : i = pins.length:=by omega
 rw [← htl,List.take_length] at hP
 refine aw_reg 2032 (RG.go fun Q hQ=>?_)
 simp (disch:=intros;contradiction) only [zS,simprocAttr]
 refine hQ (RG.nil ?_)
 simp only [zX]
 refine aw_loopK (X:={ x : Nat × List Int // x.1≤pins.length∧x.2.Perm (ts.drop x.1 ++ v.pins)∧Vgood { v with pins:=x.2 } (30 + x.1) }) [1,5,6,7] (fun x=>[(13,I x.1.1)]) [368] (fun x=>[(640,.box (volC { v with pins:=x.1.2 }))]) (fun x=>pins.length - x.1.1) (⟨(0,P),by simp only;omega,by simpa using hP,hg.mono (by omega)⟩) ?_ ?_
 ·skip
  simp only [keepS,keepE,Option.getD_some,lk_cons,lkE_cons,List.cons_append,List.nil_append,simprocAttr]
  refine Le.lit [] [] _ _ ?_ ?_ ?_ ?_
  ·simp only [zL,simprocAttr]
  ·simp only [zL,simprocAttr]
   all_goals (trivial;skip)
  ·simp [rlook]
  ·first | (simp;done) | (intro k hk;simp [rlook];omega)
 rintro ⟨⟨i,P⟩,hi,hP,hg⟩
 simp only [keepS,keepE,Option.getD_some,lk_cons,lkE_cons,List.cons_append,List.nil_append,simprocAttr]
 simp only [zX]
 simp only at hi hP hg
 refine aw_reg 2080 (RG.go fun Q hQ=>?_)
 simp (disch:=intros;contradiction) only [zS,zW,vC_eq,simprocAttr]
 refine hQ (RG.nil ?_)
 simp only [zX]
 refine aw_cond _ rfl trivial (fun ht=>?_) (fun hf=>?_)
 ·skip
  try simp at ht
  simp only [zX]
  have hip : i < pins.length:=by omega
  have hit : i < ts.length:=by omega
  have hqe:=htg i hip hit
  have hb8:=hp8 _ (List.getElem_mem hip)
  have hq:=hti _ (List.getElem_mem hit)
  obtain ⟨t,ht1⟩ : ∃ t,t = ts[i]:=⟨_,rfl⟩
  rw [← ht1] at hq hqe
  have hqz : v.floor + (pins[i] : Int) % (n - v.floor + 1) = t:=hqe.symm
  have hps:=(pinsR_iff.1 (rightV_iff.1 hg.right).2.2.2.2.2.2.1).2
  rw [drop_get hit,← ht1,List.cons_append] at hP
  have hmem : t ∈ P:=hP.symm.subset (by simp)
  have hD:=unpin_ok (v:={ v with pins:=P }) hh (t:=t) hmem ⟨5,0,0,0,0,[],0,t,0,[]⟩ rfl rfl
  have cD:=volume_Do_con { v with pins:=P } ⟨5,0,0,0,0,[],0,t,0,[]⟩ (hg.do (by omega) (by simp) (by simp))
  have hg2:=hg.doV (c:=⟨5,0,0,0,0,[],0,t,0,[]⟩) (by intro x hx;cases hx)
  rw [hD] at cD hg2
  have hg2 : Vgood { v with pins:=delP t P } (30 + i + 1):=hg2
  have hpm : (delP t P).Perm (ts.drop (i + 1) ++ v.pins):=List.Perm.cons_inv ((delP_perm hmem).trans hP)
  generalize delP t P = P2 at hpm cD hg2
  refine aw_draw 2176 (RG.go fun Q hQ=>?_)
  simp (disch:=first | (intros;contradiction) | omega | (simp only [zN];omega)) only [zS,zW,brow,hqz,simprocAttr]
  repeat refine ⟨by (omega),?_⟩
  refine hQ (RG.nil ⟨by decide +kernel,?_⟩)
  simp only [zX]
  refine aw_reg 2448 (RG.go fun Q hQ=>?_)
  simp (disch:=intros;contradiction) only [zS,simprocAttr]
  refine hQ ?_
  refine RG.call [] (cD) (by (repeat' (first | exact tr_nil | refine tr_cons ?_ ?_ | exact tr_agg (by repeat' (first | exact trivial | rfl | refine ⟨?_,?_⟩))))) trivial (by exact .inr ⟨doR_pure _,trivial⟩) ?_
  refine RG.go fun Q hQ=>?_
  simp (disch:=intros;contradiction) only [zS,vC_eq,lenV,done,repC,simprocAttr]
  refine hQ (RG.nil ?_)
  simp only [zX]
  refine aw_reg 2656 (RG.go fun Q hQ=>?_)
  simp (disch:=intros;contradiction) only [zS,simprocAttr]
  refine hQ (RG.nil ?_)
  simp only [zX]
  refine aw_cond _ rfl trivial (fun ht=>by simp at ht) (fun hf=>?_)
  simp only [zX]
  refine aw_reg 2736 (RG.go fun Q hQ=>?_)
  simp (disch:=intros;contradiction) only [zS,simprocAttr]
  refine hQ (RG.nil ?_)
  simp only [zX]
  refine aw_reg 2800 (RG.go fun Q hQ=>?_)
  simp (disch:=first | (intros;contradiction) | omega | (simp only [zN];omega)) only [zS,zW,simprocAttr]
  refine hQ (RG.nil ?_)
  simp only [zX]
  refine ⟨⟨(i + 1,P2),by simp only;omega,hpm,hg2⟩,?_,by first | omega | (simp only;omega)⟩
  refine Le.lit [] [] _ _ ?_ ?_ ?_ ?_
  ·simp only [zL,simprocAttr]
   all_goals (try ((repeat' (rfl))))
  ·simp only [zL,simprocAttr]
   all_goals (trivial;skip)
  ·simp [rlook]
  ·first | (simp;done) | (intro k hk;simp [rlook];omega)
 try simp at hf
 simp only [zX,↓reduceIte]
 obtain rfl : i = pins.length:=by omega
 rw [List.drop_of_length_le (by omega),List.nil_append] at hP
 have hPe : P = v.pins:=sorted_perm hP (pinsR_iff.1 (rightV_iff.1 hg.right).2.2.2.2.2.2.1).2 p2
 subst hPe
 have cS:=mementoref16_Same_con v v (g0.ok (by omega)) g0.by8 g0.by8
 refine aw_reg 2880 (RG.go fun Q hQ=>?_)
 simp (disch:=intros;contradiction) only [zS,simprocAttr]
 refine hQ ?_
 refine RG.call [] (cS) (by (repeat' (first | exact tr_nil | refine tr_cons ?_ ?_ | exact tr_agg (by repeat' (first | exact trivial | rfl | refine ⟨?_,?_⟩))))) trivial (by (exact .inl trivial)) ?_
 refine RG.go fun Q hQ=>?_
 simp (disch:=intros;contradiction) only [zS,simprocAttr]
 refine hQ (RG.nil ?_)
 simp only [zX]
 refine Fin.b (.inr rfl) rfl trivial ?_
 simp

theorem VolumePins_law (l : List Nat) (hl : (∀ c ∈ l,c < 256)∧l.length≤9223372036854775807) (p : List Nat) (hp : (∀ c ∈ p,c < 256)∧p.length≤9223372036854775807) :
  Con Try.prog 7 [.c (.sl (l.map brow)),.c (.sl (p.map brow))] [] (B true) []:=VolumePins_con l p hl.1 hp.1

end Go.Abs

