/- What the functions that the law comes to do, part 2. No condition. -/
import Derived.Test.YticoglgfoolppaaGreatCona
set_option linter.unusedVariables false
set_option linter.unusedSimpArgs false
set_option linter.unnecessarySimpa false
namespace Go.Abs
open Go Go.Proofs
set_option maxRecDepth 100000
set_option linter.unusedSimpArgs false
set_option maxHeartbeats 4000000

theorem while_ofV {p : VOL→Bool} : ∀ {l : List VOL} {k : Nat},(l.take k).all p = true→(∀ h : k < l.length,p l[k] = false)→l.takeWhile p = l.take k∧l.dropWhile p = l.drop k
 | [],k,_,_=>by simp
 | x :: l,0,_,h=>by
  have:=h (by simp)
  simp only [List.getElem_cons_zero] at this
  simp [this]
 | x :: l,k + 1,h1,h2=>by
  simp only [List.take_succ_cons,List.all_cons,Bool.and_eq_true] at h1
  have:=while_ofV (l:=l) (k:=k) h1.2 (fun h=>by have:=h2 (by simpa using h);simpa using this)
  simp [h1.1,this.1,this.2]

theorem newR_err (c : CMD) : (newR c).2 = 0∨(newR c).2 = 23:=by unfold newR;split <;> simp

abbrev rpC (r : RP) : SV:=.agg (repC r.e r.len r.floor r.next [])

theorem cmdC_pure (c : CMD) : (SV.agg (cmdC c)).pureD:=by
 intro x hx
 simp only [cmdC,cC,List.mem_cons,List.not_mem_nil,or_false] at hx
 rcases hx with rfl | rfl | rfl | rfl | rfl | rfl | rfl | rfl | rfl | rfl <;> rfl
theorem repC_pure (a b c d : Int) : (SV.agg (repC a b c d [])).pureD:=by
 intro x hx
 simp only [repC,List.mem_cons,List.not_mem_nil,or_false] at hx
 rcases hx with rfl | rfl | rfl | rfl | rfl <;> rfl
theorem doR_pure (d : DO) : (doR d).pureD:=by
 intro s hs
 simp only [List.mem_cons,List.not_mem_nil,or_false] at hs
 rcases hs with rfl | rfl
 ·exact volC_pure _
 ·exact repC_pure _ _ _ _

theorem Apply_con (L : List VOL) (d : List Nat) (n : Nat) (hL : L.length≤1000000) (hg : ∀ v ∈ L,Vgood v n) (hn : n≤50000) (h8 : ∀ c ∈ d,c < 256) (hd : d.length≤1000000) :
  Con Tryz.prog 31 [.c (.bp 0 0),.c (.sl (d.map brow))] [MB L] (rpC (appM L d).2) [MB (appM L d).1]:=by
 have cR:=ReadCmd_con d h8 hd
 have hok:=fun c h=>readC_ok (d:=d) (c:=c) (n:=1000000) ⟨h8,hd⟩ h
 obtain ⟨Z,hZ⟩ : ∃ Z,Z = appM L d:=⟨_,rfl⟩
 rw [← hZ]
 unfold appM at hZ
 generalize readC d = q at cR hok hZ
 obtain ⟨c,e⟩:=q
 simp only at cR hZ
 by_cases he : e≠0
 ·rw [if_pos he] at hZ
  subst hZ
  refine C_mementoref16_Machine_Apply nl nl ?_
  simp only [cz,A_mementoref16_Machine_Apply,argL,objL,List.length_nil,List.length_cons,Nat.zero_add,zX]
  refine aR 16 ?_
  refine aB 64 ?_
  refine rC [] (cR) ?_ (hs:=(by exact .inr ⟨pureTA (fun x hx=>cmdC_pure _ x hx),trivial⟩))
  refine aEs (fun Q hQ=>by simp (disch:=intros;contradiction) only [zS,cmdC,cC,simprocAttr];exact hQ) ?_
  refine aR 224 ?_
  refine aw_cond _ rfl trivial (fun ht=>?_) (fun hf=>by simp at hf;omega)
  simp only [zX]
  refine aR 288 ?_
  refine Fin.objs [] [] (.inr rfl) rfl (by exact ⟨trivial,trivial⟩) ?_ ?_ (by simp [objL,rlook]) (by (simp [objL,rlook];done))
  ·simp only [zL]
   all_goals ((repeat' (first | exact trivial | rfl | refine ⟨?_,?_⟩)))
  ·simp only [zL,↓reduceIte]

 rw [if_neg he] at hZ
 obtain rfl : e = 0:=by omega
 obtain ⟨k1,k2,k3,k4,k5⟩:=hok c rfl
 have cF:=find_con L c.vol hL
 by_cases hk : c.kind = 1
 ·rw [if_pos hk] at hZ
  rcases idxV_cases c.vol L 0 with ⟨h1,h2⟩ | ⟨k,hkl,h1,h2⟩
  ·rw [h1] at hZ cF
   rw [if_neg (by decide)] at hZ
   have cN:=mementoref16_New_con c (by omega)
   rcases newR_err c with h3 | h3
   ·rw [if_neg (by omega)] at hZ
    have h4 : newR c = (newV c,0):=by
     unfold newR at h3 ⊢
     split at h3
     ·rename_i h;rw [if_pos h]
     ·cases h3
    rw [h4] at cN hZ
    simp only at cN hZ
    subst hZ
    refine C_mementoref16_Machine_Apply nl nl ?_
    simp only [cz,A_mementoref16_Machine_Apply,argL,objL,List.length_nil,List.length_cons,Nat.zero_add,zX]
    refine aR 16 ?_
    refine aB 64 ?_
    refine rC [] (cR) ?_ (hs:=(by exact .inr ⟨pureTA (fun x hx=>cmdC_pure _ x hx),trivial⟩))
    refine aEs (fun Q hQ=>by simp (disch:=intros;contradiction) only [zS,cmdC,cC,simprocAttr];exact hQ) ?_
    refine aR 224 ?_
    refine aF ?_
    refine aB 288 ?_
    refine rO [0] [] (cF) ?_
    refine aE ?_
    refine aS 400 (fun Q hQ=>by simp (disch:=intros;contradiction) only [zS,zW,simprocAttr];repeat refine ⟨by (exact ⟨by (intro q hq;obtain ⟨_,_,rfl⟩:=List.mem_map.1 hq;rfl),by omega⟩),?_⟩;exact hQ) ?_
    refine aR 528 ?_
    refine aw_cond _ rfl trivial (fun ht=>?_) (fun hf=>by simp at hf;omega)
    simp only [zX]
    refine aR 608 ?_
    refine aF ?_
    refine aB 672 ?_
    refine rC [] (cN) ?_ (hs:=(by exact .inr ⟨pureTA (fun x hx=>volC_pure _ x hx),trivial⟩))
    refine aEs (fun Q hQ=>by simp (disch:=intros;contradiction) only [zS,vC_eq,simprocAttr];exact hQ) ?_
    refine aR 832 ?_
    refine aF ?_
    refine aR 896 ?_
    refine aw_loopK (X:={ i : Nat // i≤L.length∧(L.take i).all (fun w=>decide (w.id < c.vol)) = true }) [0,4,5,9] (fun i=>[(7,I i.1),(8,.c (.sl (L.map volC)))]) [0,16,144,752] (fun i=>[]) (fun i=>L.length - i.1) (⟨0,by omega,rfl⟩) ?_ ?_
    ·skip
     simp only [keepS,keepE,Option.getD_some,lk_cons,lkE_cons,List.cons_append,List.nil_append,simprocAttr]
     refine Le.lit [464] [] _ _ ?_ ?_ ?_ ?_
     ·simp only [zL,simprocAttr]
      all_goals (try ((repeat' ((refine ⟨⟨_,_,rfl⟩,?_⟩;(exact drows_vol _))))))
     ·simp only [zL,simprocAttr]
     ·simp [rlook]
     ·(intro k hk;simp [rlook];omega)
    rintro ⟨i,hi,ha⟩
    simp only [keepS,keepE,Option.getD_some,lk_cons,lkE_cons,List.cons_append,List.nil_append,simprocAttr]
    simp only [zX]
    by_cases hil : i < L.length
    ·skip
     refine aSD 944 (fun Q hQ=>by simp (disch:=first | (intros;contradiction) | omega | (simp only [zN];omega)) only [zS,zW,vC_eq,simprocAttr];repeat refine ⟨by ((simp;done)),?_⟩;exact hQ) ?_
     refine aw_cond _ rfl trivial (fun ht=>?_) (fun hf=>?_)
     ·skip
      try simp at ht
      simp only [zX]
      refine aS 1200 (fun Q hQ=>by simp (disch:=first | (intros;contradiction) | omega | (simp only [zN];omega)) only [zS,zW,simprocAttr];exact hQ) ?_
      refine ⟨⟨i + 1,by omega,by rw [all_succ hil,ha,Bool.true_and];simp;exact ht.2⟩,?_,by first | omega | (simp only;omega)⟩
      refine Le.lit [] [] _ _ ?_ ?_ ?_ ?_
      ·simp only [zL,simprocAttr]
       all_goals (try ((repeat' (rfl))))
      ·simp only [zL,simprocAttr]
      ·simp [rlook]
      ·(intro k hk;simp [rlook];omega)
     try simp at hf
     simp only [zX,↓reduceIte]
     have hw:=while_ofV (p:=fun w=>decide (w.id < c.vol)) ha (fun h=>by simp;exact hf h)
     have hI : insM (newV c) L = L.take i ++ newV c :: L.drop i:=by unfold insM;rw [← hw.1,← hw.2];rfl
     have hM : (L.take i ++ newV c :: L.drop i).map volC = (L.take i).map volC ++ [volC (newV c)] ++ (L.drop i).map volC:=by simp
     have hdr:=drows_vol (L.take i ++ newV c :: L.drop i)
     rw [hI]
     rw [hM,vC_eq (newV c)] at hdr
     refine aw_draw 1280 (RG.go fun Q hQ=>?_)
     simp (disch:=intros;contradiction) only [zS,zW,simprocAttr]
     repeat refine ⟨by (first | exact ⟨by (intro q hq;obtain ⟨_,_,rfl⟩:=List.mem_map.1 hq;rfl),by omega⟩ | (simp;omega) | (refine ⟨?_,?_⟩ <;> (repeat' (first | omega | (intro q hq;obtain ⟨_,_,rfl⟩:=List.mem_map.1 hq;rfl) | refine ⟨?_,?_⟩)))),?_⟩
     refine hQ (RG.nil ⟨by decide +kernel,?_⟩)
     simp only [zX]
     refine aR 1552 ?_
     rw [show MB (L.take i ++ newV c :: L.drop i) = .box [.sl ((L.take i ++ newV c :: L.drop i).map volC)] from rfl,hM,vC_eq (newV c)]
     refine Fin.objs [1456] [] (.inr rfl) rfl (by exact ⟨trivial,trivial⟩) ?_ ?_ (by simp [objL,rlook]) (by (simp [objL,rlook];done))
     ·simp only [zL,simprocAttr]
      all_goals ((repeat' (first | exact trivial | rfl | refine ⟨?_,?_⟩)))
     ·simp only [zL,simprocAttr]
      all_goals (try ((repeat' (first | (first | assumption | (simp [C.isD];done)) | refine ⟨?_,?_⟩))))
    have hw:=while_ofV (p:=fun w=>decide (w.id < c.vol)) ha (fun h=>absurd h hil)
    have hI : insM (newV c) L = L.take i ++ newV c :: L.drop i:=by unfold insM;rw [← hw.1,← hw.2];rfl
    have hM : (L.take i ++ newV c :: L.drop i).map volC = (L.take i).map volC ++ [volC (newV c)] ++ (L.drop i).map volC:=by simp
    have hdr:=drows_vol (L.take i ++ newV c :: L.drop i)
    rw [hI]
    rw [hM,vC_eq (newV c)] at hdr
    refine aw_draw 1616 (RG.go fun Q hQ=>?_)
    simp (disch:=first | (intros;contradiction) | omega | (simp only [zN];omega)) only [zS,zW,simprocAttr]
    repeat refine ⟨by ((simp;omega)),?_⟩
    refine hQ (RG.nil ⟨by decide +kernel,?_⟩)
    simp only [zX]
    refine aw_cond _ rfl trivial (fun ht=>by simp at ht) (fun hf=>?_)
    simp only [zX,↓reduceIte]
    refine aw_draw 1872 (RG.go fun Q hQ=>?_)
    simp (disch:=intros;contradiction) only [zS,zW,simprocAttr]
    repeat refine ⟨by (first | exact ⟨by (intro q hq;obtain ⟨_,_,rfl⟩:=List.mem_map.1 hq;rfl),by omega⟩ | (simp;omega) | (refine ⟨?_,?_⟩ <;> (repeat' (first | omega | (intro q hq;obtain ⟨_,_,rfl⟩:=List.mem_map.1 hq;rfl) | refine ⟨?_,?_⟩)))),?_⟩
    refine hQ (RG.nil ⟨by decide +kernel,?_⟩)
    simp only [zX]
    refine aR 2144 ?_
    rw [show MB (L.take i ++ newV c :: L.drop i) = .box [.sl ((L.take i ++ newV c :: L.drop i).map volC)] from rfl,hM,vC_eq (newV c)]
    refine Fin.objs [2048] [] (.inr rfl) rfl (by exact ⟨trivial,trivial⟩) ?_ ?_ (by simp [objL,rlook]) (by (simp [objL,rlook];done))
    ·simp only [zL,simprocAttr]
     all_goals ((repeat' (first | exact trivial | rfl | refine ⟨?_,?_⟩)))
    ·simp only [zL,simprocAttr]
     all_goals (try ((repeat' (first | (first | assumption | (simp [C.isD];done)) | refine ⟨?_,?_⟩))))

   ·rw [if_pos (by omega)] at hZ
    have h4 : newR c = (zeroV,23):=by
     unfold newR at h3 ⊢
     split at h3
     ·cases h3
     ·rename_i h;rw [if_neg h]
    rw [h4] at cN hZ
    simp only at cN hZ
    subst hZ
    refine C_mementoref16_Machine_Apply nl nl ?_
    simp only [cz,A_mementoref16_Machine_Apply,argL,objL,List.length_nil,List.length_cons,Nat.zero_add,zX]
    refine aR 16 ?_
    refine aB 64 ?_
    refine rC [] (cR) ?_ (hs:=(by exact .inr ⟨pureTA (fun x hx=>cmdC_pure _ x hx),trivial⟩))
    refine aEs (fun Q hQ=>by simp (disch:=intros;contradiction) only [zS,cmdC,cC,simprocAttr];exact hQ) ?_
    refine aR 224 ?_
    refine aF ?_
    refine aB 288 ?_
    refine rO [0] [] (cF) ?_
    refine aE ?_
    refine aS 400 (fun Q hQ=>by simp (disch:=intros;contradiction) only [zS,zW,simprocAttr];repeat refine ⟨by (exact ⟨by (intro q hq;obtain ⟨_,_,rfl⟩:=List.mem_map.1 hq;rfl),by omega⟩),?_⟩;exact hQ) ?_
    refine aR 528 ?_
    refine aw_cond _ rfl trivial (fun ht=>?_) (fun hf=>by simp at hf;omega)
    simp only [zX]
    refine aR 608 ?_
    refine aF ?_
    refine aB 672 ?_
    refine rC [] (cN) ?_ (hs:=(by exact .inr ⟨pureTA (fun x hx=>volC_pure _ x hx),trivial⟩))
    refine aEs (fun Q hQ=>by simp (disch:=intros;contradiction) only [zS,vC_eq,simprocAttr];exact hQ) ?_
    refine aR 832 ?_
    refine aT ?_
    refine aR 896 ?_
    refine Fin.objs [] [] (.inr rfl) rfl (by exact ⟨trivial,trivial⟩) ?_ ?_ (by simp [objL,rlook]) (by (simp [objL,rlook];done))
    ·simp only [zL]
     all_goals ((repeat' (first | exact trivial | rfl | refine ⟨?_,?_⟩)))
    ·simp only [zL,↓reduceIte]

  ·rw [h1] at hZ cF
   rw [if_pos (by omega)] at hZ
   subst hZ
   refine C_mementoref16_Machine_Apply nl nl ?_
   simp only [cz,A_mementoref16_Machine_Apply,argL,objL,List.length_nil,List.length_cons,Nat.zero_add,zX]
   refine aR 16 ?_
   refine aB 64 ?_
   refine rC [] (cR) ?_ (hs:=(by exact .inr ⟨pureTA (fun x hx=>cmdC_pure _ x hx),trivial⟩))
   refine aEs (fun Q hQ=>by simp (disch:=intros;contradiction) only [zS,cmdC,cC,simprocAttr];exact hQ) ?_
   refine aR 224 ?_
   refine aF ?_
   refine aB 288 ?_
   refine rO [0] [] (cF) ?_
   refine aE ?_
   refine aS 400 (fun Q hQ=>by simp (disch:=intros;contradiction) only [zS,zW,simprocAttr];repeat refine ⟨by (exact ⟨by (intro q hq;obtain ⟨_,_,rfl⟩:=List.mem_map.1 hq;rfl),by omega⟩),?_⟩;exact hQ) ?_
   refine aR 528 ?_
   refine aw_cond _ rfl trivial (fun ht=>?_) (fun hf=>by simp at hf;omega)
   simp only [zX]
   refine aR 608 ?_
   refine aT ?_
   refine aR 672 ?_
   refine Fin.objs [] [] (.inr rfl) rfl (by exact ⟨trivial,trivial⟩) ?_ ?_ (by simp [objL,rlook]) (by (simp [objL,rlook];done))
   ·simp only [zL]
    all_goals ((repeat' (first | exact trivial | rfl | refine ⟨?_,?_⟩)))
   ·simp only [zL,↓reduceIte]

 rw [if_neg hk] at hZ
 rcases idxV_cases c.vol L 0 with ⟨h1,h2⟩ | ⟨k,hkl,h1,h2⟩
 ·rw [h1] at hZ cF
  rw [if_pos (by decide)] at hZ
  subst hZ
  refine C_mementoref16_Machine_Apply nl nl ?_
  simp only [cz,A_mementoref16_Machine_Apply,argL,objL,List.length_nil,List.length_cons,Nat.zero_add,zX]
  refine aR 16 ?_
  refine aB 64 ?_
  refine rC [] (cR) ?_ (hs:=(by exact .inr ⟨pureTA (fun x hx=>cmdC_pure _ x hx),trivial⟩))
  refine aEs (fun Q hQ=>by simp (disch:=intros;contradiction) only [zS,cmdC,cC,simprocAttr];exact hQ) ?_
  refine aR 224 ?_
  refine aF ?_
  refine aB 288 ?_
  refine rO [0] [] (cF) ?_
  refine aE ?_
  refine aS 400 (fun Q hQ=>by simp (disch:=intros;contradiction) only [zS,zW,simprocAttr];repeat refine ⟨by (exact ⟨by (intro q hq;obtain ⟨_,_,rfl⟩:=List.mem_map.1 hq;rfl),by omega⟩),?_⟩;exact hQ) ?_
  refine aR 528 ?_
  refine aw_cond _ rfl trivial (fun ht=>by simp at ht;omega) (fun hf=>?_)
  simp only [zX]
  refine aR 608 ?_
  refine aT ?_
  refine aR 672 ?_
  refine Fin.objs [] [] (.inr rfl) rfl (by exact ⟨trivial,trivial⟩) ?_ ?_ (by simp [objL,rlook]) (by (simp [objL,rlook];done))
  ·simp only [zL]
   all_goals ((repeat' (first | exact trivial | rfl | refine ⟨?_,?_⟩)))
  ·simp only [zL,↓reduceIte]

 ·rw [Nat.zero_add] at h1
  rw [h1] at hZ cF
  rw [if_neg (by omega)] at hZ
  rw [Int.toNat_natCast,List.getD_eq_getElem?_getD,List.getElem?_eq_getElem hkl,Option.getD_some] at hZ
  have hgk:=hg _ (List.getElem_mem hkl)
  have cD:=mementoref16_Do_con L[k] c (hgk.ok hn) hgk.next (by omega) (fun x hx=>k5 x hx)
  generalize doV L[k] c = D at hZ cD
  subst hZ
  have hM : (L.set k D.v).map volC = (L.map volC).set k (volC D.v):=List.map_set
  have hdr:=drows_vol (L.set k D.v)
  rw [hM,vC_eq D.v] at hdr
  refine C_mementoref16_Machine_Apply nl nl ?_
  simp only [cz,A_mementoref16_Machine_Apply,argL,objL,List.length_nil,List.length_cons,Nat.zero_add,zX]
  refine aR 16 ?_
  refine aB 64 ?_
  refine rC [] (cR) ?_ (hs:=(by exact .inr ⟨pureTA (fun x hx=>cmdC_pure _ x hx),trivial⟩))
  refine aEs (fun Q hQ=>by simp (disch:=intros;contradiction) only [zS,cmdC,cC,simprocAttr];exact hQ) ?_
  refine aR 224 ?_
  refine aF ?_
  refine aB 288 ?_
  refine rO [0] [] (cF) ?_
  refine aE ?_
  refine aS 400 (fun Q hQ=>by simp (disch:=intros;contradiction) only [zS,zW,simprocAttr];repeat refine ⟨by (exact ⟨by (intro q hq;obtain ⟨_,_,rfl⟩:=List.mem_map.1 hq;rfl),by omega⟩),?_⟩;exact hQ) ?_
  refine aR 528 ?_
  refine aw_cond _ rfl trivial (fun ht=>by simp at ht;omega) (fun hf=>?_)
  simp only [zX]
  refine aR 608 ?_
  refine aF ?_
  refine aw_draw 672 (RG.go fun Q hQ=>?_)
  simp (disch:=first | (intros;contradiction) | omega | (simp only [zN];omega)) only [zS,zW,vC_eq,simprocAttr]
  repeat refine ⟨by (omega),?_⟩
  refine hQ ?_
  refine rC [] (cD) ?_ (hs:=(by exact .inr ⟨doR_pure _,trivial⟩))
  refine aEDs (fun Q hQ=>by simp (disch:=intros;contradiction) only [zS,vC_eq,repC,simprocAttr];exact hQ) ?_
  refine aw_reg 912 (RG.go fun Q hQ=>?_)
  simp (disch:=first | (intros;contradiction) | omega | (simp only [zN];omega)) only [zS,zW,vC_eq,simprocAttr]
  repeat refine ⟨by (omega),?_⟩
  refine hQ (RG.nil ?_)
  simp only [zX]
  refine aR 1024 ?_
  rw [show MB (L.set k D.v) = .box [.sl ((L.set k D.v).map volC)] from rfl,hM,vC_eq D.v]
  refine aR 1136 ?_
  refine Fin.objs [464] [] (.inr rfl) rfl (by exact ⟨trivial,trivial⟩) ?_ ?_ (by simp [objL,rlook]) (by (simp [objL,rlook];done))
  ·simp only [zL,simprocAttr]
   all_goals ((repeat' (first | exact trivial | rfl | refine ⟨?_,?_⟩)))
  ·simp only [zL,simprocAttr]
   all_goals (try ((repeat' (first | (first | assumption | (simp [C.isD];done)) | refine ⟨?_,?_⟩))))

end Go.Abs

namespace Go.Abs
open Go Go.Proofs
set_option maxRecDepth 100000
set_option linter.unusedSimpArgs false
set_option maxHeartbeats 4000000

theorem appM_good {L : List VOL} {d : List Nat} {n : Nat} (hg : ∀ v ∈ L,Vgood v n) (h8 : ∀ c ∈ d,c < 256) : (∀ v ∈ (appM L d).1,Vgood v (n + 1))∧(appM L d).1.length≤L.length + 1:=by
 have hm : ∀ v ∈ L,Vgood v (n + 1):=fun v hv=>(hg v hv).mono (Nat.le_succ n)
 have hR:=fun c h=>readC_ok (d:=d) (c:=c) (n:=d.length) ⟨h8,Nat.le_refl _⟩ h
 unfold appM
 generalize readC d = q at hR
 obtain ⟨c,e⟩:=q
 simp only
 split
 ·exact ⟨hm,Nat.le_succ _⟩
 rename_i he
 obtain rfl : e = 0:=by omega
 obtain ⟨k1,k2,k3,k4,k5⟩:=hR c rfl
 split
 ·split
  ·exact ⟨hm,Nat.le_succ _⟩
  split
  ·exact ⟨hm,Nat.le_succ _⟩
  ·rename_i h
   have hs : shapeV (newV c) = true:=by
    unfold newR at h
    split at h
    ·assumption
    ·exact absurd (by decide) h
   have h4 : newR c = (newV c,0):=new_of hs
   rw [h4]
   simp only
   refine ⟨fun v hv=>?_,?_⟩
   ·unfold insM at hv
    rcases List.mem_append.1 hv with hv | hv
    ·exact hm v ((List.takeWhile_prefix _).subset hv)
    ·rcases List.mem_cons.1 hv with rfl | hv
     ·exact (Vgood.new hs).mono (Nat.zero_le _)
     ·exact hm v ((List.dropWhile_suffix _).subset hv)
   ·unfold insM
    have:=congrArg List.length (List.takeWhile_append_dropWhile (p:=fun w : VOL=>decide (w.id < (newV c).id)) (l:=L))
    simp only [List.length_append,List.length_cons] at this ⊢
    omega
 split
 ·exact ⟨hm,Nat.le_succ _⟩
 ·rename_i h
  rcases idxV_cases c.vol L 0 with ⟨h1,h2⟩ | ⟨k,hkl,h1,h2⟩
  ·rw [h1] at h;exact absurd (by decide) h
  ·rw [h1,Nat.zero_add,Int.toNat_natCast,List.getD_eq_getElem?_getD,List.getElem?_eq_getElem hkl,Option.getD_some]
   refine ⟨fun v hv=>?_,by simp⟩
   rcases List.mem_or_eq_of_mem_set hv with hv | rfl
   ·exact hm v hv
   ·exact (hg _ (List.getElem_mem hkl)).doV k2

theorem itsB_len2 (m : Nat) (hm : m≤1000000) : ∀ (l : List IT),(∀ x ∈ l,x.d.length≤m)→(itsB l).length≤l.length * (m + 20)
 | [],_=>by simp [itsB]
 | x :: l,h=>by
  have h3:=h x (by simp)
  have h1:=itB_len x (by omega)
  have h2:=itsB_len2 m hm l fun y hy=>h y (by simp [hy])
  have : itsB (x :: l) = itB x ++ itsB l:=rfl
  rw [this,List.length_append,List.length_cons,Nat.add_mul,Nat.one_mul];omega
theorem cmdB_len {c : CMD} {m : Nat} (hm : m≤1000) (hp : c.place.length≤1000) (hi : c.items.length≤8) (hd : ∀ x ∈ c.items,x.d.length≤m) : (cmdB c).length≤1000000:=by
 have e1:=numsL_len [c.kind,c.vol,c.blocks,c.size,c.per,c.total,c.at',c.index]
 have e2:=numsL_len c.place
 have e3:=putS1_len c.place.length
 have e4:=itsB_len2 m (by omega) c.items hd
 have e5:=putS1_len c.items.length
 have e6 : c.items.length * (m + 20)≤8 * 1020:=Nat.mul_le_mul hi (by omega)
 unfold cmdB placeB itemsB
 simp only [List.length_append,List.length_cons,List.length_nil] at e1 ⊢
 omega

structure Csmall (c : CMD) : Prop where
 b8 : byI c.items
 place : c.place.length≤1000
 items : c.items.length≤8
 data : ∀ x ∈ c.items,x.d.length≤200

theorem itsF_len (b s : Nat) : ∀ (l : List Nat) (acc : List IT),acc.length≤8→(∀ x ∈ acc,x.d.length = s)→(itsF b s l acc).length≤8∧∀ x ∈ itsF b s l acc,x.d.length = s
 | [],acc,h,h2=>⟨h,h2⟩
 | c :: l,acc,h,h2=>by
  unfold itsF
  split
  ·refine itsF_len b s l _ ?_ ?_
   ·unfold itsStep;split
    ·exact h
    ·simp;omega
   ·unfold itsStep;split
    ·exact h2
    ·intro x hx
     rcases List.mem_append.1 hx with hx | hx
     ·exact h2 x hx
     ·simp only [List.mem_singleton] at hx;subst hx;exact dataN_len _ _
  ·exact ⟨h,h2⟩
theorem itsF_by (b s : Nat) : ∀ (l : List Nat) (acc : List IT),byI acc→byI (itsF b s l acc)
 | [],acc,h=>h
 | c :: l,acc,h=>by
  unfold itsF
  split
  ·refine itsF_by b s l _ ?_
   unfold itsStep
   split
   ·exact h
   ·intro x hx
    rcases List.mem_append.1 hx with hx | hx
    ·exact h x hx
    ·simp only [List.mem_singleton] at hx;subst hx;exact dataN_by _ _
  ·exact h
theorem Csmall.its (k v : Int) (t i : Int) (b s : Nat) (l : List Nat) (hs : s≤200) : Csmall ⟨k,v,0,0,0,[],0,t,i,itsN b s l⟩:=by
 have h:=itsF_len b s l [] (by simp) (fun x hx=>(by cases hx))
 exact ⟨itsF_by b s l [] (fun x hx=>(by cases hx)),by simp,h.1,fun x hx=>by rw [h.2 x hx];exact hs⟩
theorem Csmall.no (k v : Int) (t i : Int) : Csmall ⟨k,v,0,0,0,[],0,t,i,[]⟩:=⟨fun x hx=>(by cases hx),by simp,by simp,fun x hx=>(by cases hx)⟩
theorem cmdV_small (v : VOL) (B S L w a b c : Nat) (hS : S≤200) : Csmall (cmdV v B S L w a b c):=by
 unfold cmdV
 split
 ·exact .its _ _ _ _ _ _ _ hS
 unfold cmd0
 split
 ·exact .its _ _ _ _ _ _ _ hS
 split
 ·exact .no _ _ _ _
 split
 ·exact .no _ _ _ _
 split
 ·exact .no _ _ _ _
 split
 ·exact .no _ _ _ _
 split
 ·exact .its _ _ _ _ _ _ _ hS
 ·exact .no _ _ _ _
theorem createC_small (vol blocks size per total : Nat) (h : total < 1000) : Csmall (createC vol blocks size per total):=by
 have:=(shape_lims (createC_shape vol blocks size per total h)).2.2.2.2.2.2
 refine ⟨fun x hx=>(by cases hx),?_,by simp [createC],fun x hx=>(by cases hx)⟩
 have h2 : (createC vol blocks size per total).place.length≤512:=this
 omega

def totN (c : Nat) : Nat:=if c % 4 = 0 then c / 4 % 3 + 1 else 0
theorem Cmd_new (w a b c : Nat) (hw : w < 256) (ha : a < 256) (hb : b < 256) (hc : c < 256) :
  Con Tryz.prog 30 [.agg (volC zeroV),B false,.c (.v (.int .u8 w)),.c (.v (.int .u8 a)),.c (.v (.int .u8 b)),.c (.v (.int .u8 c))] [] (.agg (cmdC (createC 0 a b c (totN c)))) []:=by
 have ht : totN c < 1000:=by unfold totN;split <;> omega
 have cC:=Create_con 0 a b c (totN c) (by omega) ha hb hc ht
 have e1 : (c : Int) % 4 = ((c % 4 : Nat) : Int):=by omega
 have e2 : ((c / 4 : Nat) : Int) % 3 = ((c / 4 % 3 : Nat) : Int):=by omega
 have e3 : (c : Int) / 4 = ((c / 4 : Nat) : Int):=by omega
 have e4 : (c : Int).tdiv 4 = ((c / 4 : Nat) : Int):=by rw [Int.tdiv_eq_ediv_of_nonneg (by omega)];omega
 have e5 : IntKind.u8.wrap 0 = 0:=by decide
 have hdr : (SV.agg (cmdC (createC 0 a b c (totN c)))).pureD:=cmdC_pure _
 refine C_mementoseat_Cmd nl nl ?_
 simp only [cz,A_mementoseat_Cmd,argL,objL,List.length_nil,Nat.zero_add,zX,simprocAttr]
 refine aS 16 (fun Q hQ=>by simp (disch:=intros;contradiction) only [zS,vC_eq,zeroV,simprocAttr];exact hQ) ?_
 refine aR 80 ?_
 refine aT ?_
 refine aw_reg 144 (RG.go fun Q hQ=>?_)
 simp (disch:=intros;contradiction) only [zS,simprocAttr]
 refine hQ (RG.nil ?_)
 simp only [zY]
 refine aw_joinS (Y:=Unit) [3,4,5,6,12] (fun y=>[(13,I (totN c))]) [16,32] (fun y=>[]) (by (repeat' (first | exact cl_fin | refine cl_then ?_ ?_))) ?_ ?_
 ·skip
  simp only [zX]
  refine aw_reg 192 (RG.go fun Q hQ=>?_)
  simp (disch:=first | (intros;contradiction) | omega | (simp only [zN];omega)) only [zS,zW,e1,simprocAttr]
  repeat refine ⟨by (omega),?_⟩
  refine hQ (RG.nil ?_)
  simp only [zX]
  refine aw_cond _ rfl trivial (fun ht=>?_) (fun hf=>?_)
  ·skip
   try simp at ht
   have e6 : ((c / 4 % 3 : Nat) : Int) + 1 = (totN c : Int):=by unfold totN;rw [if_pos (by omega)];rfl
   refine aw_reg 272 (RG.go fun Q hQ=>?_)
   simp (disch:=first | (intros;contradiction) | omega | (simp only [zN];omega)) only [zS,zW,e2,e3,e6,simprocAttr]
   repeat refine ⟨by (omega),?_⟩
   refine hQ (RG.nil ?_)
   simp only [zX]
   refine ⟨(),?_⟩
   simp only [keepS,keepE,Option.getD_some,lk_cons,lkE_cons,List.cons_append,List.nil_append,simprocAttr]
   refine Le.lit [] [] _ _ ?_ ?_ ?_ ?_
   ·simp only [zL,simprocAttr]
   ·simp only [zL,simprocAttr]
   ·simp [rlook]
   ·(simp;done)
  try simp at hf
  simp only [zX]
  have e6 : totN c = 0:=by unfold totN;rw [if_neg (by omega)]
  refine ⟨(),?_⟩
  simp only [keepS,keepE,Option.getD_some,lk_cons,lkE_cons,List.cons_append,List.nil_append,simprocAttr]
  refine Le.lit [] [] _ _ ?_ ?_ ?_ ?_
  ·simp only [zL,simprocAttr]
   all_goals (rw [e6];rfl;skip)
  ·simp only [zL,simprocAttr]
  ·simp [rlook]
  ·(simp;done)
 rintro y
 simp only [keepS,keepE,Option.getD_some,lk_cons,lkE_cons,List.cons_append,List.nil_append,simprocAttr]
 simp only [zX]
 refine aBs 400 (fun Q hQ=>by simp (disch:=intros;contradiction) only [zS,e5,simprocAttr];exact hQ) ?_
 refine rC [] (cC) ?_ (hs:=(by exact .inr ⟨hdr,trivial⟩))
 refine aEs (fun Q hQ=>by simp (disch:=intros;contradiction) only [zS,cmdC,simprocAttr];repeat refine ⟨by ((simp;done)),?_⟩;exact hQ) ?_
 refine Fin.data [] (.inr rfl) rfl (by (exact ⟨trivial,trivial⟩)) ?_
 simp only [zL]
 all_goals ((repeat' (first | exact trivial | rfl | refine ⟨?_,?_⟩)))

end Go.Abs

namespace Go.Abs
open Go Go.Proofs
set_option maxRecDepth 100000
set_option linter.unusedSimpArgs false
set_option maxHeartbeats 8000000

def putB (c : CMD) : List Nat:=if cmdR c = true then cmdB c else []
def putE (c : CMD) : Int:=if cmdR c = true then 0 else 23
theorem PutB_con (c : CMD) (h : Csmall c) : Con Tryz.prog 29 [.agg (cmdC c)] [] (.tup [.c (.sl ((putB c).map brow)),I (putE c)]) [] :=
 PutCmd_con c (by have:=h.place;omega) (by have:=h.items;omega) (fun x hx=>by have:=h.data x hx;omega)
def seatC (L : List VOL) (w a b c : Nat) : CMD :=
 if (volM L 0).2 = true then cmdV (volM L 0).1 (volM L 0).1.blocks.toNat (volM L 0).1.size.toNat (volM L 0).1.ws.length w a b c else createC 0 a b c (totN c)
def seatS (L : List VOL) (w a b c : Nat) : List VOL:=(appM L (putB (seatC L w a b c))).1
def seatN (l : List Nat) : Nat→List VOL
 | 0=>[]
 | k + 1=>seatS (seatN l k) (l.getD (4 * k) 0) (l.getD (4 * k + 1) 0) (l.getD (4 * k + 2) 0) (l.getD (4 * k + 3) 0)
def vol0 : VOL:=newV (createC 0 3 1 1 0)
def seatV (l : List Nat) : VOL:=(seatN l (l.length / 4)).headD vol0

theorem volM_cases (L : List VOL) (id : Int) (n : Nat) (hg : ∀ v ∈ L,Vgood v n) : ((volM L id).2 = true∧Vgood (volM L id).1 n)∨((volM L id).2 = false∧(volM L id).1 = zeroV):=by
 rcases idxV_cases id L 0 with ⟨h1,h2⟩ | ⟨k,hk,h1,h2⟩
 ·right
  have : volM L id = (zeroV,false):=by unfold volM;rw [h1,if_pos (by decide)]
  rw [this];exact ⟨rfl,rfl⟩
 ·left
  have : volM L id = (L[k],true):=by
   unfold volM;rw [h1,Nat.zero_add,if_neg (by omega),Int.toNat_natCast,List.getD_eq_getElem?_getD,List.getElem?_eq_getElem hk];rfl
  rw [this];exact ⟨rfl,hg _ (List.getElem_mem hk)⟩

theorem seatC_small (L : List VOL) (n : Nat) (hg : ∀ v ∈ L,Vgood v n) (w a b c : Nat) : Csmall (seatC L w a b c):=by
 unfold seatC
 rcases volM_cases L 0 n hg with ⟨h1,h2⟩ | ⟨h1,h2⟩
 ·rw [if_pos h1]
  exact cmdV_small _ _ _ _ _ _ _ _ (by have:=(shape_lims (rightV_iff.1 h2.right).1).2.2.1;omega)
 ·rw [if_neg (by simp [h1])]
  exact createC_small _ _ _ _ _ (by unfold totN;split <;> omega)

theorem putB_ok {c : CMD} (h : Csmall c) : (∀ x ∈ putB c,x < 256)∧(putB c).length≤1000000:=by
 unfold putB
 split
 ·exact ⟨cmdB_by _ h.b8,cmdB_len (m:=200) (by omega) h.place h.items h.data⟩
 ·simp
theorem seatB_ok {L : List VOL} {n : Nat} (hg : ∀ v ∈ L,Vgood v n) (w a b c : Nat) :
  (∀ x ∈ putB (seatC L w a b c),x < 256)∧(putB (seatC L w a b c)).length≤1000000:=putB_ok (seatC_small L n hg w a b c)

theorem Cmd_any (L : List VOL) (n : Nat) (hg : ∀ v ∈ L,Vgood v n) (hn : n≤50000) (w a b c : Nat) (hw : w < 256) (ha : a < 256) (hb : b < 256) (hc : c < 256) :
  Con Tryz.prog 30 [.agg (volC (volM L 0).1),B (volM L 0).2,.c (.v (.int .u8 w)),.c (.v (.int .u8 a)),.c (.v (.int .u8 b)),.c (.v (.int .u8 c))] [] (.agg (cmdC (seatC L w a b c))) []:=by
 unfold seatC
 rcases volM_cases L 0 n hg with ⟨h1,h2⟩ | ⟨h1,h2⟩
 ·rw [if_pos h1,h1];exact Cmd_there _ n h2 hn w a b c hw ha hb hc
 ·rw [if_neg (by simp [h1]),h1,h2];exact Cmd_new w a b c hw ha hb hc

theorem seatN_good (l : List Nat) : ∀ k,(∀ v ∈ seatN l k,Vgood v k)∧(seatN l k).length≤k
 | 0=>⟨fun v hv=>(by cases hv),Nat.le_refl _⟩
 | k + 1=>by
  have h:=seatN_good l k
  have h2:=appM_good h.1 (seatB_ok h.1 (l.getD (4 * k) 0) (l.getD (4 * k + 1) 0) (l.getD (4 * k + 2) 0) (l.getD (4 * k + 3) 0)).1
  exact ⟨h2.1,Nat.le_trans h2.2 (by omega)⟩

theorem seatV_good (l : List Nat) : Vgood (seatV l) (l.length / 4):=by
 have h:=(seatN_good l (l.length / 4)).1
 unfold seatV
 cases hs : seatN l (l.length / 4) with
 | nil=>exact (Vgood.new (createC_shape 0 3 1 1 0 (by omega))).mono (Nat.zero_le _)
 | cons v r=>rw [hs] at h;exact h v (by simp)

theorem getD_lt {l : List Nat} {i : Nat} (h : i < l.length) : l.getD i 0 = l[i]:=by rw [List.getD_eq_getElem?_getD,List.getElem?_eq_getElem h];rfl

theorem Volume_con (l : List Nat) (h8 : ∀ c ∈ l,c < 256) (hl : l.length≤10000) : Con Tryz.prog 9 [.c (.sl (l.map brow))] [] (.agg (volC (seatV l))) []:=by
 have cC:=Create_con 0 3 1 1 0 (by omega) (by omega) (by omega) (by omega) (by omega)
 have hsh:=createC_shape 0 3 1 1 0 (by omega)
 have hpl:=(shape_lims hsh).2.2.2.2.2.2
 have hN:=mementoref16_New_con (createC 0 3 1 1 0) (by have : (createC 0 3 1 1 0).place.length≤512:=hpl;omega)
 rw [new_of hsh] at hN
 obtain ⟨N,hN4⟩ : ∃ N,N = l.length / 4:=⟨_,rfl⟩
 have hV : seatV l = (seatN l N).headD vol0:=by rw [hN4];rfl
 obtain ⟨R,hR⟩ : ∃ R,R = seatN l N:=⟨_,rfl⟩
 rw [hV,← hR]
 refine C_mementoseat_Volume nl nl ?_
 simp only [cz,A_mementoseat_Volume,argL,objL,List.length_nil,zX]
 refine aR 16 ?_
 refine aR 64 ?_
 refine aR 144 ?_
 refine aw_loopK (X:={ p : Nat × Nat × List VOL // p.1≤N∧p.2.1 = 4 * p.1∧p.2.2 = seatN l p.1 }) [0,2,3] (fun p=>[(4,I p.1.2.1)]) [16] (fun p=>[(80,MB p.1.2.2)]) (fun p=>N - p.1.1) (⟨(0,0,[]),by simp,by simp,rfl⟩) ?_ ?_
 ·skip
  simp only [keepS,keepE,Option.getD_some,lk_cons,lkE_cons,List.cons_append,List.nil_append,simprocAttr]
  refine Le.lit [] [] _ _ ?_ ?_ ?_ ?_
  ·simp only [zL,simprocAttr]
  ·simp only [zL,simprocAttr]
  ·simp [rlook]
  ·(simp;done)
 rintro ⟨⟨k,i,L⟩,hk,hik,hLs⟩
 simp only [keepS,keepE,Option.getD_some,lk_cons,lkE_cons,List.cons_append,List.nil_append,simprocAttr]
 simp only [zX]
 simp only at hk hik hLs
 have hGd:=(seatN_good l k).1
 have hL:=(seatN_good l k).2
 rw [← hLs] at hGd hL
 refine aS 192 (fun Q hQ=>by simp (disch:=first | (intros;contradiction) | omega | (simp only [zN];omega)) only [zS,zW,simprocAttr];exact hQ) ?_
 refine aw_cond _ rfl trivial (fun ht=>?_) (fun hf=>?_)
 ·skip
  try simp at ht
  simp only [zX]
  have h3 : i + 3 < l.length:=by omega
  obtain ⟨i1,hi1⟩ : ∃ i1,i1 = i + 1:=⟨_,rfl⟩
  obtain ⟨i2,hi2⟩ : ∃ i2,i2 = i + 2:=⟨_,rfl⟩
  obtain ⟨i3,hi3⟩ : ∃ i3,i3 = i + 3:=⟨_,rfl⟩
  obtain ⟨i4,hi4⟩ : ∃ i4,i4 = i + 4:=⟨_,rfl⟩
  have b0 : i < l.length:=by omega
  have b1 : i1 < l.length:=by omega
  have b2 : i2 < l.length:=by omega
  have b3 : i3 < l.length:=by omega
  have hs : seatN l (k + 1) = seatS L l[i] l[i1] l[i2] l[i3]:=by
   rw [seatN,← hLs,← hik,← hi1,← hi2,← hi3,getD_lt b0,getD_lt b1,getD_lt b2,getD_lt b3]
  have t0:=h8 _ (List.getElem_mem b0)
  have t1:=h8 _ (List.getElem_mem b1)
  have t2:=h8 _ (List.getElem_mem b2)
  have t3:=h8 _ (List.getElem_mem b3)
  have cM:=MVolume_con L 0 (by omega)
  have cD:=Cmd_any L k hGd (by omega) l[i] l[i1] l[i2] l[i3] t0 t1 t2 t3
  have hB:=seatB_ok hGd l[i] l[i1] l[i2] l[i3]
  have hsm:=seatC_small L k hGd l[i] l[i1] l[i2] l[i3]
  unfold seatS at hs
  have cA:=Apply_con L _ k (by omega) hGd (by omega) hB.1 hB.2
  generalize seatC L l[i] l[i1] l[i2] l[i3] = C0 at cD hB hsm cA hs
  have cP:=PutB_con C0 hsm
  generalize putB C0 = bs at cA hs hB cP
  generalize appM L bs = Z at cA hs
  obtain ⟨L2,rp⟩:=Z
  simp only at cA hs
  have hs2 : seatN l (k + 1) = L2∧True:=⟨hs,trivial⟩
  clear hs
  generalize volM L 0 = V0 at cM cD
  obtain ⟨v0,b0⟩:=V0
  simp only at cM cD
  have e1 : (i : Int) + 1 = (i1 : Int):=by omega
  have e2 : (i : Int) + 2 = (i2 : Int):=by omega
  have e3 : (i : Int) + 3 = (i3 : Int):=by omega
  have e4 : (i : Int) + 4 = (i4 : Int):=by omega
  refine aBs 304 (fun Q hQ=>by simp (disch:=intros;contradiction) only [zS,e3,simprocAttr];exact hQ) ?_
  refine rO [80] [] (cM) ?_
  refine aEs (fun Q hQ=>by simp (disch:=intros;contradiction) only [zS,vC_eq,simprocAttr];exact hQ) ?_
  refine aw_draw 464 (RG.go fun Q hQ=>?_)
  simp (disch:=first | (intros;contradiction) | omega | (simp only [zN];omega)) only [zS,zW,brow,e1,e2,e3,simprocAttr]
  repeat refine ⟨by (omega),?_⟩
  refine hQ ?_
  refine rC [] (cD) ?_ (hs:=(by exact .inr ⟨cmdC_pure _,trivial⟩))
  refine aM ?_
  refine rC [] (cP) ?_ (hs:=(by exact .inr ⟨pureTC,trivial⟩))
  refine aED ?_
  refine aB 944 ?_
  refine rO [80] [] (cA) ?_
  refine aE ?_
  refine aS 1024 (fun Q hQ=>by simp (disch:=first | (intros;contradiction) | omega | (simp only [zN];omega)) only [zS,zW,e4,simprocAttr];exact hQ) ?_
  refine ⟨⟨(k + 1,i4,L2),by simp only;omega,by simp only;omega,by simp only;rw [hs2.1]⟩,?_,by first | omega | (simp only;omega)⟩
  refine Le.lit [] [] _ _ ?_ ?_ ?_ ?_
  ·simp only [zL,simprocAttr]
  ·simp only [zL,simprocAttr]
   all_goals (trivial;skip)
  ·simp [rlook]
  ·(simp;done)
 try simp at hf
 simp only [zX,↓reduceIte]
 have hkN : k = N:=by omega
 have hLR : L = R:=by rw [hLs,hR,hkN]
 by_cases hn : L = []
 ·skip
  refine aS 1104 (fun Q hQ=>by simp (disch:=intros;contradiction) only [zS,zW,simprocAttr];exact hQ) ?_
  refine aw_cond _ rfl trivial (fun ht=>?_) (fun hf=>by rw [hn] at hf;simp at hf)
  simp only [zX]
  refine aBs 1232 (fun Q hQ=>by simp (disch:=intros;contradiction) only [zS,↓reduceIte];exact hQ) ?_
  refine rC [] (cC) ?_ (hs:=(by exact .inr ⟨cmdC_pure _,trivial⟩))
  refine aM ?_
  refine rC [] (hN) ?_ (hs:=(by exact .inr ⟨pureTA (fun c hc=>volC_pure _ c hc),trivial⟩))
  refine aEs (fun Q hQ=>by simp (disch:=intros;contradiction) only [zS,vC_eq,simprocAttr];exact hQ) ?_
  rw [show R.headD vol0 = newV (createC 0 3 1 1 0) from by rw [← hLR,hn];rfl]
  refine aR 1392 ?_
  refine Fin.data [] (.inr rfl) rfl (by (exact ⟨trivial,trivial⟩)) ?_
  simp only [zL]
  all_goals ((repeat' (first | exact trivial | rfl | refine ⟨?_,?_⟩)))
 obtain ⟨v,r,hvr⟩:=List.exists_cons_of_ne_nil hn
 subst hvr
 refine aS 1456 (fun Q hQ=>by simp (disch:=intros;contradiction) only [zS,zW,vC_eq,simprocAttr];exact hQ) ?_
 refine aw_cond _ rfl trivial (fun ht=>by simp at ht;omega) (fun hf=>?_)
 simp only [zX]
 refine aS 1584 (fun Q hQ=>by simp (disch:=intros;contradiction) only [zS,zW,vC_eq,simprocAttr];repeat refine ⟨by (omega),?_⟩;exact hQ) ?_
 rw [show R.headD vol0 = v from by rw [← hLR];rfl]
 refine Fin.data [] (.inr rfl) rfl (by (exact ⟨trivial,trivial⟩)) ?_
 simp only [zL]
 all_goals ((repeat' (first | exact trivial | rfl | refine ⟨?_,?_⟩)))

end Go.Abs

namespace Go.Abs
open Go Go.Proofs
set_option maxRecDepth 100000
set_option linter.unusedSimpArgs false
set_option maxHeartbeats 4000000

theorem TrL.of {α β : Type} {S : α→β→Prop} : ∀ {xs : List α} {ys : List β},xs.length = ys.length→(∀ (i : Nat) x y,xs[i]? = some x→ys[i]? = some y→S x y)→TrL S xs ys
 | [],[],_,_=>trivial
 | x :: xs,y :: ys,h,hh=>⟨hh 0 x y rfl rfl,TrL.of (by simpa using h) fun i a b h1 h2=>hh (i + 1) a b (by simpa using h1) (by simpa using h2)⟩

section
variable {F A : Nat} {T T' : TypeId} {l l' : SL} {H : List (List IT)} {r r' : EL}

end
end Go.Abs

namespace Go.Abs
open Go Go.Proofs
set_option maxRecDepth 100000
set_option linter.unusedSimpArgs false
set_option maxHeartbeats 4000000

section
variable {F A : Nat} {T T' : TypeId} {l l' : SL} {H : List (List IT)} {r r' es : EL}

end
end Go.Abs

namespace Go.Abs
open Go Go.Proofs
set_option maxRecDepth 100000
set_option linter.unusedSimpArgs false
set_option maxHeartbeats 8000000

def hStep (s : Int) (H : List (List IT)) (x : IT) : List (List IT):=if 0≤x.b∧x.b < H.length then H.set x.b.toNat (H.getD x.b.toNat [] ++ [⟨s,x.d⟩]) else H
def hW (H : List (List IT)) (w : WR) : List (List IT):=w.its.foldl (hStep w.s) H
def hAll (n : Nat) (ws : List WR) : List (List IT):=ws.foldl hW (List.replicate n [])

def HOk (k : Int) (m : Nat) (H : List (List IT)) : Prop:=∀ h ∈ H,h.length≤m∧rise h∧∀ x ∈ h,x.b≤k∧x.d.length≤1000000
theorem rise_snoc : ∀ {l : List IT} {x : IT},rise l→(∀ y ∈ l,y.b≤x.b)→rise (l ++ [x])
 | [],x,_,_=>⟨fun y hy=>(by cases hy),trivial⟩
 | y :: l,x,h,hx=>by
  refine ⟨fun z hz=>?_,rise_snoc h.2 fun z hz=>hx z (by simp [hz])⟩
  rcases List.mem_append.1 hz with hz | hz
  ·exact h.1 z hz
  ·simp only [List.mem_singleton] at hz;subst hz;exact hx y (by simp)
theorem hStep_len (s : Int) (H : List (List IT)) (x : IT) : (hStep s H x).length = H.length:=by unfold hStep;split <;> simp
theorem HOk.step {k s : Int} {m : Nat} {H : List (List IT)} (h : HOk k m H) (hks : k≤s) {x : IT} (hd : x.d.length≤1000000) : HOk s (m + 1) (hStep s H x):=by
 have h0 : ∀ g ∈ H,g.length≤m + 1∧rise g∧∀ y ∈ g,y.b≤s∧y.d.length≤1000000:=fun g hg=>by
  obtain ⟨h1,h2,h3⟩:=h g hg
  exact ⟨by omega,h2,fun y hy=>⟨by have:=(h3 y hy).1;omega,(h3 y hy).2⟩⟩
 unfold hStep
 split
 ·rename_i hb
  intro g hg
  rcases List.mem_or_eq_of_mem_set hg with hg | rfl
  ·exact h0 g hg
  ·have hi : x.b.toNat < H.length:=by omega
   rw [List.getD_eq_getElem?_getD,List.getElem?_eq_getElem hi,Option.getD_some]
   obtain ⟨h1,h2,h3⟩:=h _ (List.getElem_mem hi)
   refine ⟨by simp;omega,rise_snoc h2 fun y hy=>by have:=(h3 y hy).1;simp only;omega,fun y hy=>?_⟩
   rcases List.mem_append.1 hy with hy | hy
   ·exact ⟨by have:=(h3 y hy).1;omega,(h3 y hy).2⟩
   ·simp only [List.mem_singleton] at hy;subst hy;exact ⟨Int.le_refl _,hd⟩
 ·exact h0

def atF (size : Nat) (t : Int) (h : List IT) : List Nat:=if 0 < behN t h then (h.take (behN t h)).getLast?.elim [] (·.d) else List.replicate size 0
theorem HOk.mono {k k' : Int} {m m' : Nat} {H : List (List IT)} (h : HOk k m H) (h1 : k≤k') (h2 : m≤m') : HOk k' m' H:=fun g hg=>by
 obtain ⟨a,b,c⟩:=h g hg
 exact ⟨by omega,b,fun x hx=>⟨by have:=(c x hx).1;omega,(c x hx).2⟩⟩
theorem wsR_at {b s : Int} : ∀ {l : List WR} {k i : Nat} (hi : i < l.length),wsR b s k l = true→l[i].s = ((k + i : Nat) : Int) + 1∧itemsR b s l[i].its = true
 | w :: l,k,0,_,h=>by
  simp only [wsR,Bool.and_eq_true,decide_eq_true_eq] at h
  exact ⟨by simpa using h.1.1,h.1.2⟩
 | w :: l,k,i + 1,hi,h=>by
  simp only [wsR,Bool.and_eq_true] at h
  have:=wsR_at (l:=l) (k:=k + 1) (i:=i) (by simpa using hi) h.2
  rw [show k + 1 + i = k + (i + 1) by omega] at this
  simpa using this

end Go.Abs

namespace Go.Abs
open Go Go.Proofs
set_option maxRecDepth 100000
set_option linter.unusedSimpArgs false
set_option maxHeartbeats 8000000

def rStep (R : List (List Nat)) (x : IT) : List (List Nat):=R.set x.b.toNat x.d
def rW (R : List (List Nat)) (w : WR) : List (List Nat):=w.its.foldl rStep R
def zB (v : VOL) : List (List Nat):=List.replicate v.blocks.toNat (List.replicate v.size.toNat 0)
def bodV (v : VOL) (t : Int) : List (List Nat):=(v.ws.take t.toNat).foldl rW (zB v)
def bodE (v : VOL) (t : Int) : List (List Nat):=if timeE v.floor t (lenV v) = 0 then bodV v t else []

theorem takeW_snoc {α : Type} {p : α→Bool} {x : α} (hx : p x = false) : ∀ l : List α,(l ++ [x]).takeWhile p = l.takeWhile p
 | []=>by simp [hx]
 | y :: l=>by simp only [List.cons_append,List.takeWhile_cons,takeW_snoc hx l]
theorem atF_le {size : Nat} {t : Int} {h : List IT} {x : IT} (hh : ∀ y ∈ h,y.b≤t) (hx : x.b≤t) : atF size t (h ++ [x]) = x.d:=by
 have hb : behN t (h ++ [x]) = (h ++ [x]).length:=by
  unfold behN
  rw [List.takeWhile_append_of_pos (fun y hy=>by simpa using hh y hy)]
  simp [hx]
 unfold atF
 rw [if_pos (by rw [hb];simp),hb,List.take_length]
 simp
theorem atF_gt {size : Nat} {t : Int} {h : List IT} {x : IT} (hx : t < x.b) : atF size t (h ++ [x]) = atF size t h:=by
 have hb : behN t (h ++ [x]) = behN t h:=by
  unfold behN
  rw [takeW_snoc (by simp;omega)]
 unfold atF
 rw [hb,List.take_append_of_le_length (behN_le t h)]
theorem atF_nil {size : Nat} {t : Int} : atF size t [] = List.replicate size 0:=rfl

def Tle (k : Int) (H : List (List IT)) : Prop:=∀ h ∈ H,∀ y ∈ h,y.b≤k
theorem Tle.step {s : Int} {H : List (List IT)} {x : IT} (h : Tle s H) : Tle s (hStep s H x):=by
 unfold hStep
 split
 ·rename_i hb
  intro g hg
  rcases List.mem_or_eq_of_mem_set hg with hg | rfl
  ·exact h g hg
  ·have hi : x.b.toNat < H.length:=by omega
   rw [List.getD_eq_getElem?_getD,List.getElem?_eq_getElem hi,Option.getD_some]
   intro y hy
   rcases List.mem_append.1 hy with hy | hy
   ·exact h _ (List.getElem_mem hi) y hy
   ·simp only [List.mem_singleton] at hy;subst hy;exact Int.le_refl _
 ·exact h

theorem hStep_at {size : Nat} {t s : Int} {H : List (List IT)} {x : IT} (hx : 0≤x.b∧x.b < H.length) (hH : Tle s H) :
  (hStep s H x).map (atF size t) = if s≤t then rStep (H.map (atF size t)) x else H.map (atF size t):=by
 have hi : x.b.toNat < H.length:=by omega
 unfold hStep rStep
 rw [if_pos hx,List.map_set,List.getD_eq_getElem?_getD,List.getElem?_eq_getElem hi,Option.getD_some]
 split
 ·rename_i h
  rw [atF_le (fun y hy=>Int.le_trans (hH _ (List.getElem_mem hi) y hy) h) h]
 ·rename_i h
  rw [atF_gt (by simp only;omega)]
  have e : atF size t H[x.b.toNat] = (H.map (atF size t))[x.b.toNat]'(by simpa using hi):=(List.getElem_map ..).symm
  rw [e,List.set_getElem_self]

theorem hIts_at {size : Nat} {t s : Int} {n : Nat} : ∀ (l : List IT) (H : List (List IT)),(∀ x ∈ l,0≤x.b∧x.b < (n : Int))→H.length = n→Tle s H →
  (l.foldl (hStep s) H).map (atF size t) = (if s≤t then l.foldl rStep (H.map (atF size t)) else H.map (atF size t))∧Tle s (l.foldl (hStep s) H)∧(l.foldl (hStep s) H).length = n
 | [],H,_,h2,h3=>⟨by split <;> rfl,h3,h2⟩
 | x :: l,H,h1,h2,h3=>by
  have hx:=h1 x (by simp)
  obtain ⟨e1,e2,e3⟩:=hIts_at l (hStep s H x) (fun y hy=>h1 y (by simp [hy])) (by rw [hStep_len];exact h2) h3.step
  rw [List.foldl_cons]
  refine ⟨?_,e2,e3⟩
  rw [e1,hStep_at (by rw [h2];exact hx) h3]
  split
  ·rw [List.foldl_cons]
  ·rfl

theorem hWs_at {b s : Int} {size n : Nat} {t : Int} (hb : b = n) : ∀ (l : List WR) (k : Nat) (H : List (List IT)),wsR b s k l = true→H.length = n→Tle k H →
  (l.foldl hW H).map (atF size t) = (l.take (t - k).toNat).foldl rW (H.map (atF size t))
 | [],k,H,_,_,_=>by simp
 | w :: l,k,H,hw,hn,hT=>by
  simp only [wsR,Bool.and_eq_true,decide_eq_true_eq] at hw
  obtain ⟨⟨h1,h2⟩,h3⟩:=hw
  have hit : ∀ x ∈ w.its,0≤x.b∧x.b < (n : Int):=fun x hx=>by
   obtain ⟨a,c,_⟩:=itemsR_mem h2 x hx
   omega
  obtain ⟨e1,e2,e3⟩:=hIts_at (size:=size) (t:=t) (s:=w.s) w.its H hit hn (fun h hh y hy=>by have:=hT h hh y hy;omega)
  rw [List.foldl_cons]
  have hs : w.s = ((k + 1 : Nat) : Int):=by omega
  rw [hWs_at hb l (k + 1) (hW H w) h3 e3 (by rw [← hs];exact e2)]
  show _ = _
  rw [show (hW H w).map (atF size t) = _ from e1]
  by_cases ht : w.s≤t
  ·rw [if_pos ht,show (t - (k : Int)).toNat = (t - ((k + 1 : Nat) : Int)).toNat + 1 by omega,List.take_succ_cons,List.foldl_cons]
   rfl
  ·rw [if_neg ht,show (t - (k : Int)).toNat = 0 by omega,show (t - ((k + 1 : Nat) : Int)).toNat = 0 by omega]
   rfl

theorem rStep_len (R : List (List Nat)) (x : IT) : (rStep R x).length = R.length:=by simp [rStep]
theorem rIts_len : ∀ (l : List IT) (R : List (List Nat)),(l.foldl rStep R).length = R.length
 | [],R=>rfl
 | x :: l,R=>by rw [List.foldl_cons,rIts_len,rStep_len]
theorem rWs_len : ∀ (l : List WR) (R : List (List Nat)),(l.foldl rW R).length = R.length
 | [],R=>rfl
 | w :: l,R=>by rw [List.foldl_cons,rWs_len];exact rIts_len _ _
theorem bodV_len (v : VOL) (t : Int) : (bodV v t).length = v.blocks.toNat:=by unfold bodV zB;rw [rWs_len];simp
def R8 (R : List (List Nat)) : Prop:=∀ x ∈ R,∀ c ∈ x,c < 256
theorem rIts_8 : ∀ (l : List IT) (R : List (List Nat)),byI l→R8 R→R8 (l.foldl rStep R)
 | [],R,_,h=>h
 | x :: l,R,h1,h2=>by
  rw [List.foldl_cons]
  refine rIts_8 l _ (fun y hy=>h1 y (by simp [hy])) fun y hy=>?_
  rcases List.mem_or_eq_of_mem_set hy with hy | rfl
  ·exact h2 y hy
  ·exact h1 x (by simp)
theorem rWs_8 : ∀ (l : List WR) (R : List (List Nat)),byW l→R8 R→R8 (l.foldl rW R)
 | [],R,_,h=>h
 | w :: l,R,h1,h2=>by
  rw [List.foldl_cons]
  exact rWs_8 l _ (fun y hy=>h1 y (by simp [hy])) (rIts_8 _ _ (h1 w (by simp)) h2)
theorem bodV_8 {v : VOL} (t : Int) (h : byW v.ws) : R8 (bodV v t):=by
 refine rWs_8 _ _ (fun w hw=>h w (List.mem_of_mem_take hw)) fun x hx c hc=>?_
 unfold zB at hx
 rw [List.eq_of_mem_replicate hx] at hc
 rw [List.eq_of_mem_replicate hc];omega
theorem wk2_snoc {σ : Nat→Option Ent} {ρ : Nat→Nat} {dom : Nat→Prop} {E' : TypeId} {s' k : Nat} {d : List (List C)} (hk : σ k = some (.arr E' s' d true)) (hd : isDRows d) :
  ∀ {rows : List (List C)},isDRows rows→TrL (TrL (WkC σ ρ dom)) (rows ++ [[.sl d]]) (rows ++ [[.osl k]])
 | [],_=>⟨⟨⟨⟨_,_,hk⟩,hd⟩,trivial⟩,trivial⟩
 | r :: rows,h=>⟨TrL.of rfl fun i x y h1 h2=>by
   rw [h1] at h2;cases h2
   have:=h r (by simp) x (List.mem_of_getElem? h1)
   cases x <;> first | (cases this;done) | exact (rfl : _ = _),wk2_snoc hk hd (rows:=rows) fun r' hr=>h r' (by simp [hr])⟩

theorem refState_con (v : VOL) (t : Int) (hg : ∃ n,n≤50000∧Vgood v n) :
  Con Tryz.prog 14 [.agg (volC v),I t] [] (.tup [.c (.sl ((bodE v t).map bodyR)),I (timeE v.floor t (lenV v))]) []:=by
 obtain ⟨nG,hnG,hG⟩:=hg
 obtain ⟨r1,r2,r3,r4,r5,r6,r7,r8⟩:=rightV_iff.1 hG.right
 obtain ⟨s1,s2,s3,s4,s5,s6,s7⟩:=shape_lims r1
 have hwl:=hG.ws
 have cL:=mementoref16_Len_con v
 obtain ⟨n,hn⟩ : ∃ n : Nat,v.blocks = n:=⟨v.blocks.toNat,by omega⟩
 obtain ⟨sz,hsz⟩ : ∃ sz : Nat,v.size = sz:=⟨v.size.toNat,by omega⟩
 obtain ⟨z,hz⟩ : ∃ z,z = List.replicate sz 0:=⟨_,rfl⟩
 have hz2 : List.replicate sz [C.v (.int .u8 0)] = z.map brow:=by rw [hz,List.map_replicate];rfl
 have hzB : zB v = List.replicate n z:=by unfold zB;rw [hn,hsz,hz];rfl
 refine C_mementoref16_State nl nl ?_
 simp only [cz,A_mementoref16_State,argL,objL,List.length_nil,Nat.zero_add,zX]
 refine aS 16 (fun Q hQ=>by simp (disch:=intros;contradiction) only [zS,vC_eq,simprocAttr];exact hQ) ?_
 refine aR 96 ?_
 refine aw_cond _ rfl trivial (fun ht=>?_) (fun hf=>?_)
 ·skip
  try simp at ht
  simp only [zX]
  have he : timeE v.floor t (lenV v) = 30:=by unfold timeE;rw [if_pos ht]
  have hb : bodE v t = []:=by unfold bodE;rw [if_neg (by omega)]
  rw [he,hb]
  refine aR 192 ?_
  refine Fin.data [] (.inr rfl) rfl (by (exact trivial)) ?_
  simp only [zL,simprocAttr]
  all_goals (exact ⟨rfl,trivial⟩)
 try simp at hf
 simp only [zX]
 refine aB 256 ?_
 refine rC [] (cL) ?_
 refine aE ?_
 refine aw_cond _ rfl trivial (fun ht=>?_) (fun hf=>?_)
 ·skip
  try simp at ht
  simp only [zX]
  have he : timeE v.floor t (lenV v) = 31:=by unfold timeE;rw [if_neg (by omega),if_pos ht]
  have hb : bodE v t = []:=by unfold bodE;rw [if_neg (by omega)]
  rw [he,hb]
  refine aR 352 ?_
  refine Fin.data [] (.inr rfl) rfl (by (exact trivial)) ?_
  simp only [zL,simprocAttr]
  all_goals (exact ⟨rfl,trivial⟩)
 try simp at hf
 simp only [zX]
 have he : timeE v.floor t (lenV v) = 0:=timeE_of.2 ⟨by omega,by omega⟩
 have hb : bodE v t = bodV v t:=by unfold bodE;rw [if_pos he]
 rw [he,hb]
 have hsx : (if v.size < 0 then 0 else v.size) = (sz : Int):=by rw [if_neg (by omega)];exact hsz
 refine aS 416 (fun Q hQ=>by simp (disch:=intros;contradiction) only [zS,hn,hsz,simprocAttr];exact hQ) ?_
 refine aR 464 ?_
 refine aw_loopK (X:={ i : Nat // i≤n }) [1,2] (fun i=>[(6,.c (.osl 5000)),(7,I i.1)]) [16] (fun i=>[(5000,.arr 22 1 ((List.replicate i.1 z).map bodyR) false)]) (fun i=>n - i.1) (⟨0,by omega⟩) ?_ ?_
 ·skip
  simp only [keepS,keepE,Option.getD_some,lk_cons,lkE_cons,List.cons_append,List.nil_append,simprocAttr]
  refine (Le.own 6 5000 22 1 rfl rfl (by decide)).trans ?_
  simp only [setS_cons,setE_cons,setE_nil,simprocAttr]
  refine Le.lit [] [] _ _ ?_ ?_ ?_ ?_
  ·simp only [zL,simprocAttr]
  ·simp only [zL,simprocAttr]
   all_goals (try ((repeat' (((simp [C.isD];done))))))
  ·simp [rlook]
  ·(simp;done)
 rintro ⟨i,hi⟩
 simp only [keepS,keepE,Option.getD_some,lk_cons,lkE_cons,List.cons_append,List.nil_append,simprocAttr]
 simp only [zX]
 refine aR 512 ?_
 refine aw_cond _ rfl trivial (fun ht=>?_) (fun hf=>?_)
 ·skip
  try simp at ht
  simp only [zX]
  have hin : i < n:=by omega
  have hrep : List.map bodyR (List.replicate (i + 1) z) = List.map bodyR (List.replicate i z) ++ [[.sl (z.map brow)]]:=by rw [List.replicate_succ',List.map_append];rfl
  refine aw_reg 608 (RG.go fun Q hQ=>?_)
  simp (disch:=intros;contradiction) only [zS,zW,hz2,simprocAttr]
  repeat refine ⟨by (first | omega | (simp;omega)),?_⟩
  refine hQ (RG.nil ?_)
  simp only [zX]
  refine aS 752 (fun Q hQ=>by simp (disch:=first | (intros;contradiction) | omega | (simp only [zN];omega)) only [zS,zW,simprocAttr];exact hQ) ?_
  refine ⟨⟨i + 1,hin⟩,?_,by first | omega | (simp only;omega)⟩
  refine Le.lit2 [656] [(5000,688)] _ _ ?_ ?_ ?_ ?_
  ·simp only [zL,simprocAttr]
   all_goals (try ((repeat' (rfl))))
  ·simp only [zL,simprocAttr]
   all_goals (exact ⟨by rw [hrep];simp,.inr (by rw [hrep];exact wk2_snoc rfl (drows_brow _) (drows_body _))⟩;skip)
  ·simp [rlook]
  ·(simp;done)
 try simp at hf
 simp only [zX,↓reduceIte]
 rw [show i = n by omega,← hzB]
 obtain ⟨k,hk⟩ : ∃ k : Nat,t = k:=⟨t.toNat,by omega⟩
 have hkl : k≤v.ws.length:=by
  have:=(timeE_of.1 he).2
  unfold lenV at this
  omega
 obtain ⟨l,hl⟩ : ∃ l,l = v.ws.take k:=⟨_,rfl⟩
 have hll : l.length = k:=by rw [hl,List.length_take];omega
 have hbod : bodV v t = l.foldl rW (zB v):=by unfold bodV;rw [hk,Int.toNat_natCast,hl]
 have hzl : (zB v).length = n:=by rw [hzB];simp
 refine aR 832 ?_
 refine aw_loopK (X:={ x : Nat × List (List Nat) // x.1≤k∧x.2.length = n∧(l.drop x.1).foldl rW x.2 = bodV v t }) [1,2,6] (fun x=>[(8,I x.1.1)]) [16] (fun x=>[(5000,.arr 22 1 (x.1.2.map bodyR) false)]) (fun x=>k - x.1.1) (⟨(0,zB v),by simp only;omega,hzl,hbod.symm⟩) ?_ ?_
 ·skip
  simp only [keepS,keepE,Option.getD_some,lk_cons,lkE_cons,List.cons_append,List.nil_append,simprocAttr]
  refine Le.lit [] [] _ _ ?_ ?_ ?_ ?_
  ·simp only [zL,simprocAttr]
  ·simp only [zL,simprocAttr]
   all_goals (try ((repeat' ((exact drows_body _)))))
  ·simp [rlook]
  ·(simp;done)
 rintro ⟨⟨i2,R⟩,hi2,hRn,hfo⟩
 simp only [keepS,keepE,Option.getD_some,lk_cons,lkE_cons,List.cons_append,List.nil_append,simprocAttr]
 simp only [zX]
 simp only at hi2 hRn hfo
 refine aR 880 ?_
 refine aw_cond _ rfl trivial (fun ht=>?_) (fun hf=>?_)
 ·skip
  try simp at ht
  simp only [zX]
  have hik : i2 < k:=by omega
  have hiw : i2 < v.ws.length:=by omega
  obtain ⟨hws,hwi⟩:=wsR_at hiw r8
  have hwl8:=itemsR_len hwi
  have hwm:=itemsR_mem hwi
  have hlw : l[i2] = v.ws[i2]:=by simp only [hl,List.getElem_take]
  rw [drop_get (show i2 < l.length by omega),List.foldl_cons,hlw] at hfo
  obtain ⟨w,hw⟩ : ∃ w,w = v.ws[i2]:=⟨_,rfl⟩
  rw [← hw] at hws hwi hwl8 hwm hfo
  have hw' : v.ws[i2] = w:=hw.symm
  refine aS 960 (fun Q hQ=>by simp (disch:=first | (intros;contradiction) | omega | (simp only [zN];omega)) only [zS,zW,hw',wrow,wrC,simprocAttr];repeat refine ⟨by (omega),?_⟩;exact hQ) ?_
  refine aR 1104 ?_
  refine aw_loopK (X:={ x : Nat × List (List Nat) // x.1≤w.its.length∧x.2.length = n∧(w.its.drop x.1).foldl rStep x.2 = rW R w }) [1,2,6,8,9] (fun x=>[(10,I x.1.1)]) [16,1040] (fun x=>[(5000,.arr 22 1 (x.1.2.map bodyR) false)]) (fun x=>w.its.length - x.1.1) (⟨(0,R),by simp only;omega,hRn,rfl⟩) ?_ ?_
  ·skip
   simp only [keepS,keepE,Option.getD_some,lk_cons,lkE_cons,List.cons_append,List.nil_append,simprocAttr]
   refine Le.lit [] [] _ _ ?_ ?_ ?_ ?_
   ·simp only [zL,simprocAttr]
   ·simp only [zL,simprocAttr]
    all_goals (try ((repeat' ((exact drows_body _)))))
   ·simp [rlook]
   ·(simp;done)
  rintro ⟨⟨j,R1⟩,hj,hR1,hf1⟩
  simp only [keepS,keepE,Option.getD_some,lk_cons,lkE_cons,List.cons_append,List.nil_append,simprocAttr]
  simp only [zX]
  simp only at hj hR1 hf1
  refine aS 1152 (fun Q hQ=>by simp (disch:=intros;contradiction) only [zS,zW,simprocAttr];exact hQ) ?_
  refine aw_cond _ rfl trivial (fun ht=>?_) (fun hf=>?_)
  ·skip
   try simp at ht
   simp only [zX]
   have hjl : j < w.its.length:=by omega
   obtain ⟨hx1,hx2,hx3⟩:=hwm _ (List.getElem_mem hjl)
   obtain ⟨x,hx⟩ : ∃ x,x = w.its[j]:=⟨_,rfl⟩
   have hx' : w.its[j] = x:=hx.symm
   rw [hx'] at hx1 hx2 hx3
   obtain ⟨b,hb⟩ : ∃ b : Nat,x.b = b:=⟨x.b.toNat,by omega⟩
   have hbR : b < R1.length:=by omega
   rw [drop_get hjl,List.foldl_cons,hx'] at hf1
   have hst : rStep R1 x = R1.set b x.d:=by unfold rStep;rw [hb,Int.toNat_natCast]
   rw [hst] at hf1
   have hmap : List.map bodyR (R1.set b x.d) = (List.map bodyR R1).set b [.sl (x.d.map brow)]:=by rw [List.map_set];rfl
   have hdr : ∀ r ∈ (List.map bodyR R1).set b [.sl (x.d.map brow)],∀ c ∈ r,c.isD = true:=by rw [← hmap];exact drows_body _
   have hget : (List.map bodyR R1)[b]? = some [.sl (R1[b].map brow)]:=by rw [List.getElem?_map,List.getElem?_eq_getElem hbR];rfl
   refine aw_draw 1264 (RG.go fun Q hQ=>?_)
   simp (disch:=first | (intros;contradiction) | omega | (simp only [zN];omega)) only [zS,zW,irow,itC,hx',hb,hget,simprocAttr]
   repeat refine ⟨by (omega),?_⟩
   refine hQ (RG.nil ⟨by decide +kernel,?_⟩)
   simp only [zX]
   refine aS 1536 (fun Q hQ=>by simp (disch:=first | (intros;contradiction) | omega | (simp only [zN];omega)) only [zS,zW,simprocAttr];exact hQ) ?_
   refine ⟨⟨(j + 1,R1.set b x.d),by simp only;omega,by simp only [List.length_set];exact hR1,hf1⟩,?_,by first | omega | (simp only;omega)⟩
   simp only [hmap]
   refine Le.lit [] [] _ _ ?_ ?_ ?_ ?_
   ·simp only [zL,simprocAttr]
    all_goals (try ((repeat' (rfl))))
   ·simp only [zL,simprocAttr]
    all_goals (try ((repeat' ((assumption)))))
   ·simp [rlook]
   ·(simp;done)
  try simp at hf
  simp only [zX,↓reduceIte]
  have hjj : j = w.its.length:=by omega
  rw [hjj,List.drop_length,List.foldl_nil] at hf1
  rw [← hf1] at hfo
  refine aS 1616 (fun Q hQ=>by simp (disch:=first | (intros;contradiction) | omega | (simp only [zN];omega)) only [zS,zW,simprocAttr];exact hQ) ?_
  refine ⟨⟨(i2 + 1,R1),by simp only;omega,hR1,hfo⟩,?_,by first | omega | (simp only;omega)⟩
  refine Le.lit [] [] _ _ ?_ ?_ ?_ ?_
  ·simp only [zL,simprocAttr]
   all_goals (try ((repeat' (rfl))))
  ·simp only [zL,simprocAttr]
   all_goals (try ((repeat' ((exact drows_body _)))))
  ·simp [rlook]
  ·(simp;done)
 try simp at hf
 simp only [zX,↓reduceIte]
 have hii : i2 = l.length:=by omega
 rw [hii,List.drop_length,List.foldl_nil] at hfo
 rw [← hfo]
 refine aR 1696 ?_
 refine Fin.data [5000] (.inr rfl) rfl (by (exact trivial)) ?_
 simp only [zL,simprocAttr]
 all_goals (exact ⟨⟨_,_,rfl⟩,drows_body _⟩)

end Go.Abs

namespace Go.Abs
open Go Go.Proofs
set_option maxRecDepth 100000
set_option linter.unusedSimpArgs false
set_option maxHeartbeats 8000000
end Go.Abs

namespace Go.Abs
open Go Go.Proofs
set_option maxRecDepth 100000
set_option linter.unusedSimpArgs false

theorem slices_Clone_api_Version_api_Version_con (rows : List (List C)) (hd : isDRows rows) (h1 : ∀ r ∈ rows,r.length = 2) (hb : rows.length≤1000000) : Con Tryz.prog 113 [.c (.sl rows)] [] (.c (.osl 0)) [.arr 102 2 rows false]:=by
 by_cases hr : rows = []
 ·subst hr
  refine Con.split1 ?_ fun ad cap=>?_
  ·skip
   refine C_slices_Clone_api_Version_api_Version nl nl ?_
   simp only [cz,A_slices_Clone_api_Version_api_Version,argL,objL,List.length_nil,zX]
   refine aR 16 ?_
   refine aR 160 ?_
   refine aT ?_
   refine aR 320 ?_
   exact Fin.ownNil (.inr rfl) rfl trivial (by decide)
  ·skip
   refine C_slices_Clone_api_Version_api_Version nl nl ?_
   simp only [cz,A_slices_Clone_api_Version_api_Version,argL,objL,List.length_nil,zX]
   refine aR 16 ?_
   refine aR 160 ?_
   refine aF ?_
   refine aw_reg 320 (RG.go fun Q hQ=>?_)
   simp only [zS,simprocAttr]
   refine ⟨by simp,hQ (RG.nil ?_)⟩
   simp only [zX]
   refine Fin.objs [] [(0,352)] (.inr rfl) rfl trivial ?_ ?_ ?_ ?_
   ·skip
    simp only [zL,simprocAttr]
   ·skip
    simp only [zL,simprocAttr]
    simp
   ·simp [objL]
   ·simp
 ·skip
  refine C_slices_Clone_api_Version_api_Version nl nl ?_
  simp only [cz,A_slices_Clone_api_Version_api_Version,argL,objL,List.length_nil,zX]
  refine aR 16 ?_
  refine aw_reg 160 (RG.go fun Q hQ=>?_)
  simp only [zS,simprocAttr]
  refine ⟨hr,hQ (RG.nil ?_)⟩
  simp only [zX]
  refine aF ?_
  refine aw_reg 320 (RG.go fun Q hQ=>?_)
  simp only [zS,simprocAttr]
  refine ⟨⟨h1,by omega⟩,hQ (RG.nil ?_)⟩
  simp only [zX]
  refine Fin.objs [] [(0,352)] (.inr rfl) rfl trivial ?_ ?_ ?_ ?_
  ·skip
   simp only [zL,simprocAttr]
  ·skip
   simp only [zL,simprocAttr]
   exact hd
  ·simp [objL]
  ·simp



theorem slices_Clone_LLapi_Version_api_Version_con (rows : List (List C)) (hd : isDRows rows) (h1 : ∀ r ∈ rows,r.length = 1) (hb : rows.length≤1000000) : Con Tryz.prog 112 [.c (.sl rows)] [] (.c (.osl 0)) [.arr 100 1 rows false]:=by
 by_cases hr : rows = []
 ·subst hr
  refine Con.split1 ?_ fun ad cap=>?_
  ·skip
   refine C_slices_Clone_LLapi_Version_api_Version nl nl ?_
   simp only [cz,A_slices_Clone_LLapi_Version_api_Version,argL,objL,List.length_nil,zX]
   refine aR 16 ?_
   refine aR 160 ?_
   refine aT ?_
   refine aR 320 ?_
   exact Fin.ownNil (.inr rfl) rfl trivial (by decide)
  ·skip
   refine C_slices_Clone_LLapi_Version_api_Version nl nl ?_
   simp only [cz,A_slices_Clone_LLapi_Version_api_Version,argL,objL,List.length_nil,zX]
   refine aR 16 ?_
   refine aR 160 ?_
   refine aF ?_
   refine aw_reg 320 (RG.go fun Q hQ=>?_)
   simp only [zS,simprocAttr]
   refine ⟨by simp,hQ (RG.nil ?_)⟩
   simp only [zX]
   refine Fin.objs [] [(0,352)] (.inr rfl) rfl trivial ?_ ?_ ?_ ?_
   ·skip
    simp only [zL,simprocAttr]
   ·skip
    simp only [zL,simprocAttr]
    simp
   ·simp [objL]
   ·simp
 ·skip
  refine C_slices_Clone_LLapi_Version_api_Version nl nl ?_
  simp only [cz,A_slices_Clone_LLapi_Version_api_Version,argL,objL,List.length_nil,zX]
  refine aR 16 ?_
  refine aw_reg 160 (RG.go fun Q hQ=>?_)
  simp only [zS,simprocAttr]
  refine ⟨hr,hQ (RG.nil ?_)⟩
  simp only [zX]
  refine aF ?_
  refine aw_reg 320 (RG.go fun Q hQ=>?_)
  simp only [zS,simprocAttr]
  refine ⟨⟨h1,by omega⟩,hQ (RG.nil ?_)⟩
  simp only [zX]
  refine Fin.objs [] [(0,352)] (.inr rfl) rfl trivial ?_ ?_ ?_ ?_
  ·skip
   simp only [zL,simprocAttr]
  ·skip
   simp only [zL,simprocAttr]
   exact hd
  ·simp [objL]
  ·simp




end Go.Abs

namespace Go.Abs
open Go Go.Proofs
set_option maxRecDepth 100000
set_option linter.unusedSimpArgs false
set_option maxHeartbeats 8000000

structure CH where
 vol : Int
 chunk : Int
 count : Int
 size : Int
 mark : Int
 floor : Int
 hist : List (List IT)
def hrow (h : List IT) : List C:=[.sl (h.map irow)]
def chO (vol chunk count size mark floor : Int) (h : C) : List C:=[.v (.int .i64 vol),.v (.int .i64 chunk),.v (.int .i64 count),.v (.int .i64 size),.v (.int .i64 mark),.v (.int .i64 floor),h]
def chC (c : CH) : List C:=chO c.vol c.chunk c.count c.size c.mark c.floor (.sl (c.hist.map hrow))
theorem ch_eq {a b : CH} : a = b ↔ a.vol = b.vol∧a.chunk = b.chunk∧a.count = b.count∧a.size = b.size∧a.mark = b.mark∧a.floor = b.floor∧a.hist = b.hist:=by cases a;cases b;simp
instance : DecidableEq CH:=fun _ _=>decidable_of_iff _ ch_eq.symm
theorem drows_hrow (l : List (List IT)) : isDRows (l.map hrow):=by
 intro r hr c hc
 obtain ⟨p,_,rfl⟩:=List.mem_map.1 hr
 simp only [hrow,List.mem_singleton] at hc
 subst hc;rfl
theorem hrow_len (l : List (List IT)) : ∀ r ∈ l.map hrow,r.length = 1:=by
 intro r hr;obtain ⟨p,_,rfl⟩:=List.mem_map.1 hr;rfl
theorem chC_pure (c : CH) : (SV.agg (chC c)).pureD:=by
 intro x hx
 simp only [chC,chO,List.mem_cons,List.not_mem_nil,or_false] at hx
 rcases hx with rfl | rfl | rfl | rfl | rfl | rfl | rfl <;> rfl

def shapeC (vol chunk count size : Int) : Bool:=inR vol 0 7 && inR chunk 0 255 && inR count 1 256 && inR size 1 32

theorem chunk_within_con (n a b : Int) : Con Tryz.prog 115 [I n,I a,I b] [] (B (inR n a b)) []:=by
 refine C_chunk_within nl nl ?_
 simp only [cz,A_chunk_within,argL,objL,List.length_nil,Nat.zero_add,zX,simprocAttr]
 refine aR 16 ?_
 refine aR 64 ?_
 refine Fin.b (.inr rfl) rfl trivial ?_
 simp [inR]

theorem chunk_shape_con (vol chunk count size : Int) : Con Tryz.prog 114 [I vol,I chunk,I count,I size] [] (B (shapeC vol chunk count size)) []:=by
 refine C_chunk_shape nl nl ?_
 simp only [cz,A_chunk_shape,argL,objL,List.length_nil,Nat.zero_add,zX,simprocAttr]
 refine aR 16 ?_
 refine aB 64 ?_
 refine rC [] (chunk_within_con vol 0 7) ?_
 refine aM ?_
 refine rG _ _ (chunk_within_con chunk 0 255) ?_
 refine aM ?_
 refine rG _ _ (chunk_within_con count 1 256) ?_
 refine aM ?_
 refine rG _ _ (chunk_within_con size 1 32) ?_
 refine aE ?_
 refine Fin.b (.inr rfl) rfl trivial ?_
 rfl

theorem mementoref13_shape_con (vol chunk count size : Int) : Con Tryz.prog 91 [I vol,I chunk,I count,I size] [] (B (shapeC vol chunk count size)) []:=by
 refine C_mementoref13_shape nl nl ?_
 simp only [cz,A_mementoref13_shape,argL,objL,List.length_nil,Nat.zero_add,zX,simprocAttr]
 refine aR 16 ?_
 refine aR 64 ?_
 refine Fin.b (.inr rfl) rfl trivial ?_
 rw [Bool.eq_iff_iff];simp [shapeC,inR];omega

theorem chunk_items_con (l : List IT) (count size : Int) (hb : l.length≤1000000) (hd : ∀ x ∈ l,x.d.length≤1000000) : Con Tryz.prog 116 [.c (.sl (l.map irow)),I count,I size] [] (B (itemsR count size l)) []:=by
 refine C_chunk_items nl nl ?_
 simp only [cz,A_chunk_items,argL,objL,List.length_nil,Nat.zero_add,zX,simprocAttr]
 refine aR 16 ?_
 refine aR 64 ?_
 refine aS 128 (fun Q hQ=>by simp (disch:=intros;contradiction) only [zS,zW,simprocAttr];exact hQ) ?_
 refine aw_loopK (X:={ i : Nat // i≤l.length∧(l.take i).all (itOk count size) = true∧onceB (l.take i) = true }) [0,1,2,7,11,12] (fun i=>[(13,I i.1)]) [] (fun i=>[(64,.mp false (seenM (l.take i.1)))]) (fun i=>l.length - i.1) (⟨0,by omega,rfl,rfl⟩) ?_ ?_
 ·skip
  simp only [keepS,keepE,lk_cons,List.cons_append,List.nil_append,simprocAttr]
  refine Le.lit [] [] _ _ ?_ ?_ ?_ ?_
  ·simp only [zL,simprocAttr]
  ·simp only [zL,↓reduceIte]
   all_goals (rfl;skip)
  ·simp [rlook]
  ·(simp;done)
 rintro ⟨i,hi,hall,honce⟩
 simp only [keepS,keepE,lk_cons,List.cons_append,List.nil_append,simprocAttr]
 simp only [zX]
 refine aR 208 ?_
 refine aw_cond _ rfl trivial (fun ht=>?_) (fun hf=>?_)
 ·skip
  try simp at ht
  simp only [zX]
  have hi' : i < l.length:=by omega
  have hdl:=hd _ (List.getElem_mem hi')
  have hmf:=mfind_seen l[i].b (l.take i)
  have hk:=seen_keys (l.take i) l[i].b
  have hone : List.length ((if ((l.take i).any fun y=>decide (y.b = l[i].b)) = true then some [C.v (.bool true)] else none).getD [C.v (.bool false)]) = 1:=by split <;> rfl
  have hbb : ((((if ((l.take i).any fun y=>decide (y.b = l[i].b)) = true then some [C.v (.bool true)] else none).getD [C.v (.bool false)])[0]?).getD (C.v (.bool false))) = C.v (.bool ((l.take i).any fun y=>decide (y.b = l[i].b))):=by
   cases (l.take i).any fun y=>decide (y.b = l[i].b) <;> rfl
  refine aS 256 (fun Q hQ=>by simp (disch:=first | (intros;contradiction) | omega | (simp only [zN];omega)) only [zS,zW,irow,itC,simprocAttr];repeat refine ⟨by (omega),?_⟩;exact hQ) ?_
  refine aw_reg 352 (RG.go fun Q hQ=>?_)
  simp (disch:=intros;contradiction) only [zS,zW,hmf,hone,hbb,simprocAttr]
  repeat refine ⟨by (first | omega | (simp;done)),?_⟩
  refine hQ (RG.nil ?_)
  simp only [zX]
  refine aw_cond _ rfl trivial (fun ht=>?_) (fun hf=>?_)
  ·skip
   simp only [zX]
   refine aR 736 ?_
   refine Fin.b (.inr rfl) rfl trivial ?_
   rw [eq_comm,Bool.eq_false_iff]
   intro hs
   simp only [itemsR,Bool.and_eq_true] at hs
   have h1:=List.all_eq_true.1 hs.1.2 _ (List.getElem_mem hi')
   have h2:=onceB_take hs.2 (i + 1)
   rw [take_one l i hi',onceB_append] at h2
   simp only [Bool.and_eq_true,Bool.not_eq_true'] at h2
   rw [h2.2] at ht
   simp [itOk] at h1 ht
   omega
  simp only [zX]
  have hsn : ((l.take i).any fun y=>decide (y.b = l[i].b)) = false:=by
   cases hh : (l.take i).any fun y=>decide (y.b = l[i].b) with
   | false=>rfl
   | true=>rw [hh] at hf;simp at hf
  have hok : itOk count size l[i] = true:=by
   rw [hsn] at hf
   simp at hf
   simp [itOk];omega
  have hms:=mset_seen l[i] (l.take i) hsn
  rw [← take_one l i hi'] at hms
  refine aw_reg 784 (RG.go fun Q hQ=>?_)
  simp (disch:=intros;contradiction) only [zS,hms,simprocAttr]
  refine ⟨⟨by simp [C.isD],hk⟩,hQ (RG.nil ?_)⟩
  simp only [zX]
  refine aS 880 (fun Q hQ=>by simp (disch:=first | (intros;contradiction) | omega | (simp only [zN];omega)) only [zS,zW,simprocAttr];exact hQ) ?_
  refine ⟨⟨i + 1,hi',by rw [all_succ hi',hall,hok];rfl,by rw [take_one l i hi',onceB_append,honce,hsn];rfl⟩,?_,by first | omega | (simp only;omega)⟩
  refine Le.lit [] [] _ _ ?_ ?_ ?_ ?_
  ·simp only [zL,simprocAttr]
   all_goals (try ((repeat' (rfl))))
  ·simp only [zL,↓reduceIte]
   all_goals (rfl;skip)
  ·simp [rlook]
  ·(simp;done)
 try simp at hf
 simp only [zX,↓reduceIte]
 have hi' : i = l.length:=by omega
 rw [hi',List.take_length] at hall honce
 refine aS 944 (fun Q hQ=>by simp (disch:=intros;contradiction) only [zS,zW,simprocAttr];exact hQ) ?_
 refine Fin.b (.inr rfl) rfl trivial ?_
 rw [Bool.eq_iff_iff];simp [itemsR,hall,honce];omega

def hst (prev : Int) : List IT→Bool
 | []=>true
 | x :: l=>decide (prev < x.b) && decide (x.b≤1099511627776) && hst x.b l
def histR (l : List IT) : Bool:=hst 0 l
def wsP (count size to last : Int) : List WR→Bool
 | []=>true
 | w :: l=>decide (last < w.s) && decide (w.s≤to) && itemsR count size w.its && wsP count size to w.s l
def pushR (p : PU) : Bool:=shapeC p.vol p.chunk p.count p.size && inR p.to 0 1099511627776 && inR p.frm 0 p.to && inR p.floor 0 p.to && decide (p.ws.length≤4) && wsP p.count p.size p.to p.frm p.ws
def lastW (f : Int) (l : List WR) (i : Nat) (h : i≤l.length) : Int:=if h0 : i = 0 then f else (l[i - 1]'(by omega)).s
def Pok (p : PU) : Prop:=p.ws.length≤1000000∧∀ w ∈ p.ws,w.its.length≤1000000∧∀ x ∈ w.its,x.d.length≤1000000

theorem chunk_PushRight_con (p : PU) (ok : Pok p) : Con Tryz.prog 99 [.agg (pushC p)] [] (B (pushR p)) []:=by
 obtain ⟨ok1,ok2⟩:=ok
 refine C_chunk_PushRight nl nl ?_
 simp only [cz,A_chunk_PushRight,argL,objL,List.length_nil,zX]
 refine aS 16 (fun Q hQ=>by simp (disch:=intros;contradiction) only [zS,pushC,puC,simprocAttr];exact hQ) ?_
 refine aB 80 ?_
 refine rC [] (chunk_shape_con p.vol p.chunk p.count p.size) ?_
 refine aM ?_
 refine rG _ _ (chunk_within_con p.to 0 1099511627776) ?_
 refine aMs (fun Q hQ=>by simp (disch:=intros;contradiction) only [zS,simprocAttr];repeat refine ⟨by ((simp;done)),?_⟩;exact hQ) ?_
 refine rG _ _ (chunk_within_con p.frm 0 p.to) ?_
 refine aMs (fun Q hQ=>by simp (disch:=intros;contradiction) only [zS,simprocAttr];repeat refine ⟨by ((simp;done)),?_⟩;exact hQ) ?_
 refine rG _ _ (chunk_within_con p.floor 0 p.to) ?_
 refine RG.go fun Q hQ=>?_
 simp (disch:=intros;contradiction) only [zS,zW,simprocAttr]
 repeat refine ⟨by ((simp;done)),?_⟩
 refine hQ (RG.nil ?_)
 simp only [zX]
 refine aw_cond _ rfl trivial (fun ht=>?_) (fun hf=>?_)
 ·skip
  try simp at ht
  simp only [zX]
  refine aR 720 ?_
  refine Fin.b (.inr rfl) rfl trivial ?_
  rw [eq_comm,Bool.eq_false_iff];intro h;simp only [pushR,Bool.and_eq_true] at h;simp [h] at ht;simp at h;omega
 try simp at hf
 simp only [zX]
 have hpre : (shapeC p.vol p.chunk p.count p.size && inR p.to 0 1099511627776 && inR p.frm 0 p.to && inR p.floor 0 p.to && decide (p.ws.length≤4)) = true:=by
  simp only [Bool.and_eq_true];simp at hf ⊢;simp [hf];omega
 have hR : pushR p = wsP p.count p.size p.to p.frm p.ws:=by unfold pushR;rw [hpre];rfl
 rw [hR]
 refine aR 768 ?_
 refine aS 848 (fun Q hQ=>by simp (disch:=intros;contradiction) only [zS,zW,simprocAttr];exact hQ) ?_
 refine aw_loopK (X:={ i : Nat // ∃ h : i≤p.ws.length,wsP p.count p.size p.to (lastW p.frm p.ws i h) (p.ws.drop i) = wsP p.count p.size p.to p.frm p.ws }) [1,47,48] (fun i=>[(3,I (lastW p.frm p.ws i.1 i.2.1)),(49,I i.1)]) [16] (fun i=>[]) (fun i=>p.ws.length - i.1) (⟨0,by omega,rfl⟩) ?_ ?_
 ·skip
  simp only [keepS,keepE,Option.getD_some,lk_cons,lkE_cons,List.cons_append,List.nil_append,simprocAttr]
  refine Le.lit [] [] _ _ ?_ ?_ ?_ ?_
  ·simp only [zL,simprocAttr]
   all_goals (try ((repeat' (rfl))))
  ·simp only [zL,↓reduceIte]
  ·simp [rlook]
  ·(simp;done)
 rintro ⟨i,hi,hinv⟩
 simp only [keepS,keepE,Option.getD_some,lk_cons,lkE_cons,List.cons_append,List.nil_append,simprocAttr]
 simp only [zX]
 refine aR 944 ?_
 refine aw_cond _ rfl trivial (fun ht=>?_) (fun hf=>?_)
 ·skip
  try simp at ht
  simp only [zX]
  have hi' : i < p.ws.length:=by omega
  rw [drop_get hi',wsP] at hinv
  obtain ⟨k1,k2⟩:=ok2 _ (List.getElem_mem hi')
  have cI:=chunk_items_con p.ws[i].its p.count p.size k1 k2
  refine aS 992 (fun Q hQ=>by simp (disch:=first | (intros;contradiction) | omega | (simp only [zN];omega)) only [zS,zW,wrow,wrC,simprocAttr];repeat refine ⟨by (omega),?_⟩;exact hQ) ?_
  refine aBs 1088 (fun Q hQ=>by simp (disch:=intros;contradiction) only [zS,simprocAttr];repeat refine ⟨by ((simp;done)),?_⟩;exact hQ) ?_
  refine rG _ _ (cI) ?_
  refine aEs (fun Q hQ=>by simp (disch:=intros;contradiction) only [zS,simprocAttr];repeat refine ⟨by ((simp;done)),?_⟩;exact hQ) ?_
  refine aw_cond _ rfl trivial (fun ht=>?_) (fun hf=>?_)
  ·skip
   try simp at ht
   simp only [zX]
   refine aR 1456 ?_
   refine Fin.b (.inr rfl) rfl trivial ?_
   rw [← hinv,eq_comm,Bool.eq_false_iff];intro h;simp only [Bool.and_eq_true] at h;simp [h] at ht;simp at h;omega
  try simp at hf
  simp only [zX]
  have e : wsP p.count p.size p.to p.ws[i].s (p.ws.drop (i + 1)) = wsP p.count p.size p.to p.frm p.ws:=by rw [← hinv];simp at hf ⊢;simp [hf] <;> omega
  refine aR 1504 ?_
  refine aS 1584 (fun Q hQ=>by simp (disch:=first | (intros;contradiction) | omega | (simp only [zN];omega)) only [zS,zW,simprocAttr];exact hQ) ?_
  refine ⟨⟨i + 1,hi',by simpa [lastW] using e⟩,?_,by first | omega | (simp only;omega)⟩
  refine Le.lit [] [] _ _ ?_ ?_ ?_ ?_
  ·simp only [zL,simprocAttr]
   all_goals (try ((repeat' (first | rfl | refine ⟨?_,?_⟩))))
  ·simp only [zL,↓reduceIte]
  ·simp [rlook]
  ·(simp;done)
 try simp at hf
 simp only [zX,↓reduceIte]
 obtain rfl : i = p.ws.length:=by omega
 rw [List.drop_length] at hinv
 refine aw_reg 1648 (RG.go fun Q hQ=>?_)
 simp (disch:=intros;contradiction) only [zS,simprocAttr]
 refine hQ (RG.nil ?_)
 simp only [zX]
 refine Fin.b (.inr rfl) rfl trivial ?_
 rw [← hinv];rfl

theorem mementoref13_PushRight_con (p : PU) (ok : Pok p) : Con Tryz.prog 65 [.agg (pushC p)] [] (B (pushR p)) []:=by
 obtain ⟨ok1,ok2⟩:=ok
 refine C_mementoref13_PushRight nl nl ?_
 simp only [cz,A_mementoref13_PushRight,argL,objL,List.length_nil,zX]
 refine aS 16 (fun Q hQ=>by simp (disch:=intros;contradiction) only [zS,pushC,puC,simprocAttr];exact hQ) ?_
 refine aB 80 ?_
 refine rC [] (mementoref13_shape_con p.vol p.chunk p.count p.size) ?_
 refine RG.go fun Q hQ=>?_
 simp (disch:=intros;contradiction) only [zS,zW,simprocAttr]
 repeat refine ⟨by ((simp;done)),?_⟩
 refine hQ (RG.nil ?_)
 simp only [zX]
 refine aw_cond _ rfl trivial (fun ht=>?_) (fun hf=>?_)
 ·skip
  try simp at ht
  simp only [zX]
  refine aR 832 ?_
  refine Fin.b (.inr rfl) rfl trivial ?_
  rw [eq_comm,Bool.eq_false_iff];intro h;simp only [pushR,Bool.and_eq_true] at h;simp [h] at ht;simp [inR] at h;omega
 try simp at hf
 simp only [zX]
 have hpre : (shapeC p.vol p.chunk p.count p.size && inR p.to 0 1099511627776 && inR p.frm 0 p.to && inR p.floor 0 p.to && decide (p.ws.length≤4)) = true:=by
  simp only [Bool.and_eq_true];simp [inR] at hf ⊢;simp [hf];omega
 have hR : pushR p = wsP p.count p.size p.to p.frm p.ws:=by unfold pushR;rw [hpre];rfl
 rw [hR]
 refine aR 880 ?_
 refine aR 960 ?_
 refine aw_loopK (X:={ i : Nat // ∃ h : i≤p.ws.length,wsP p.count p.size p.to (lastW p.frm p.ws i h) (p.ws.drop i) = wsP p.count p.size p.to p.frm p.ws }) [1] (fun i=>[(3,I (lastW p.frm p.ws i.1 i.2.1)),(4,I i.1)]) [16] (fun i=>[]) (fun i=>p.ws.length - i.1) (⟨0,by omega,rfl⟩) ?_ ?_
 ·skip
  simp only [keepS,keepE,Option.getD_some,lk_cons,lkE_cons,List.cons_append,List.nil_append,simprocAttr]
  refine Le.lit [] [] _ _ ?_ ?_ ?_ ?_
  ·simp only [zL,simprocAttr]
   all_goals (try ((repeat' (rfl))))
  ·simp only [zL,↓reduceIte]
  ·simp [rlook]
  ·(simp;done)
 rintro ⟨i,hi,hinv⟩
 simp only [keepS,keepE,Option.getD_some,lk_cons,lkE_cons,List.cons_append,List.nil_append,simprocAttr]
 simp only [zX]
 refine aS 1008 (fun Q hQ=>by simp (disch:=intros;contradiction) only [zS,zW,simprocAttr];exact hQ) ?_
 refine aw_cond _ rfl trivial (fun ht=>?_) (fun hf=>?_)
 ·skip
  try simp at ht
  simp only [zX]
  have hi' : i < p.ws.length:=by omega
  rw [drop_get hi',wsP] at hinv
  obtain ⟨k1,k2⟩:=ok2 _ (List.getElem_mem hi')
  have cI:=mementoref13_ItemsRight_con p.count p.size p.ws[i].its k1 k2
  refine aS 1120 (fun Q hQ=>by simp (disch:=first | (intros;contradiction) | omega | (simp only [zN];omega)) only [zS,zW,wrow,wrC,simprocAttr];repeat refine ⟨by (omega),?_⟩;exact hQ) ?_
  refine aBs 1264 (fun Q hQ=>by simp (disch:=intros;contradiction) only [zS,simprocAttr];repeat refine ⟨by ((simp;done)),?_⟩;exact hQ) ?_
  refine rG _ _ (cI) ?_
  refine aEs (fun Q hQ=>by simp (disch:=intros;contradiction) only [zS,simprocAttr];repeat refine ⟨by ((simp;done)),?_⟩;exact hQ) ?_
  refine aw_cond _ rfl trivial (fun ht=>?_) (fun hf=>?_)
  ·skip
   try simp at ht
   simp only [zX]
   refine aR 1632 ?_
   refine Fin.b (.inr rfl) rfl trivial ?_
   rw [← hinv,eq_comm,Bool.eq_false_iff];intro h;simp only [Bool.and_eq_true] at h;simp [h] at ht;simp at h;omega
  try simp at hf
  simp only [zX]
  have e : wsP p.count p.size p.to p.ws[i].s (p.ws.drop (i + 1)) = wsP p.count p.size p.to p.frm p.ws:=by rw [← hinv];simp at hf ⊢;simp [hf] <;> omega
  refine aR 1680 ?_
  refine aS 1760 (fun Q hQ=>by simp (disch:=first | (intros;contradiction) | omega | (simp only [zN];omega)) only [zS,zW,simprocAttr];exact hQ) ?_
  refine ⟨⟨i + 1,hi',by simpa [lastW] using e⟩,?_,by first | omega | (simp only;omega)⟩
  refine Le.lit [] [] _ _ ?_ ?_ ?_ ?_
  ·simp only [zL,simprocAttr]
   all_goals (try ((repeat' (first | rfl | refine ⟨?_,?_⟩))))
  ·simp only [zL,↓reduceIte]
  ·simp [rlook]
  ·(simp;done)
 try simp at hf
 simp only [zX,↓reduceIte]
 obtain rfl : i = p.ws.length:=by omega
 rw [List.drop_length] at hinv
 refine aR 1840 ?_
 refine Fin.b (.inr rfl) rfl trivial ?_
 rw [← hinv];rfl

end Go.Abs

namespace Go.Abs
open Go Go.Proofs
set_option maxRecDepth 100000
set_option linter.unusedSimpArgs false
set_option maxHeartbeats 8000000

theorem FinQ.le {n : Nat} {rs : List AR} {res : SV} {out : List Ent} {e : Exit} {st st' : St} (h : Le n st st') (hq : FinQ n rs res out e st') : FinQ n rs res out e st:=by
 obtain ⟨a,h1,h2⟩:=hq
 exact ⟨a,h.trans h1,h2⟩

theorem hist_copied_con (l : List IT) (hl : l.length≤1000000) (hd : ∀ x ∈ l,x.d.length≤1000000) : Con Tryz.prog 117 [.c (.sl (l.map irow))] [] (.c (.osl 0)) [.arr 102 2 (l.map irow) false]:=by
 refine C_hist_copied nl nl ?_
 simp only [cz,A_hist_copied,argL,objL,List.length_nil,zX]
 refine aR 16 ?_
 refine aB 64 ?_
 refine rO [] [] (slices_Clone_api_Version_api_Version_con (l.map irow) (drows_irow l) (irow_len l) (by simp;omega)) ?_
 refine aE ?_
 refine aS 144 (fun Q hQ=>by simp (disch:=intros;contradiction) only [zS,zW,simprocAttr];exact hQ) ?_
 refine aw_loopK (X:={ i : Nat // i≤l.length }) [3,8] (fun i=>[(9,I i.1)]) [80] (fun i=>[]) (fun i=>l.length - i.1) (⟨0,by omega⟩) ?_ ?_
 ·skip
  simp only [keepS,keepE,Option.getD_some,lk_cons,lkE_cons,List.cons_append,List.nil_append,simprocAttr]
  refine Le.lit [] [] _ _ ?_ ?_ ?_ ?_
  ·simp only [zL,simprocAttr]
  ·simp only [zL,simprocAttr]
   all_goals (exact drows_irow _;skip)
  ·simp [rlook]
  ·(simp;done)
 rintro ⟨i,hi⟩
 simp only [keepS,keepE,Option.getD_some,lk_cons,lkE_cons,List.cons_append,List.nil_append,simprocAttr]
 simp only [zX]
 refine aR 224 ?_
 refine aw_cond _ rfl trivial (fun ht=>?_) (fun hf=>?_)
 ·skip
  try simp at ht
  simp only [zX]
  have hi' : i < l.length:=by omega
  have hdl:=hd _ (List.getElem_mem hi')
  have hset : (l.map irow).set ((i : Int)).toNat [.v (.int .i64 l[i].b),.sl (l[i].d.map brow)] = l.map irow:=set_same irow hi'
  have hset2 : (l.map irow).set i [.v (.int .i64 l[i].b),.sl (l[i].d.map brow)] = l.map irow:=set_same irow hi'
  refine aR 272 ?_
  refine aw_reg 336 (RG.go fun Q hQ=>?_)
  simp (disch:=first | (intros;contradiction) | omega | (simp only [zN];omega)) only [zS,zW,irow,itC,simprocAttr]
  repeat refine ⟨by (omega),?_⟩
  refine hQ ?_
  refine rC [] (cloneB_con l[i].d hdl) ?_
  refine RG.go fun Q hQ=>?_
  simp (disch:=first | (intros;contradiction) | omega | (simp only [zN];omega)) only [zS,zW,irow,itC,hset2,simprocAttr]
  repeat refine ⟨by (omega),?_⟩
  refine hQ (RG.nil ?_)
  simp only [zX]
  refine aS 544 (fun Q hQ=>by simp (disch:=first | (intros;contradiction) | omega | (simp only [zN];omega)) only [zS,zW,simprocAttr];exact hQ) ?_
  refine ⟨⟨i + 1,hi'⟩,?_,by first | omega | (simp only;omega)⟩
  refine Le.lit [] [] _ _ ?_ ?_ ?_ ?_
  ·simp only [zL,simprocAttr]
   all_goals (try ((repeat' (rfl))))
  ·simp only [zL,simprocAttr]
   all_goals (exact drows_irow _;skip)
  ·simp [rlook]
  ·(simp;done)
 try simp at hf
 simp only [zX,↓reduceIte]
 refine aw_reg 608 (RG.go fun Q hQ=>?_)
 simp (disch:=intros;contradiction) only [zS,simprocAttr]
 refine hQ (RG.nil ?_)
 simp only [zX]
 refine Fin.objs [] [(0,80)] (.inr rfl) rfl (by exact trivial) ?_ ?_ (by simp [objL,rlook]) (by (simp [objL,rlook];done))
 ·simp only [zL,simprocAttr]
 ·simp only [zL,simprocAttr]
  all_goals (exact drows_irow _)

theorem hist_copiedD_con (l : List IT) (hl : l.length≤1000000) (hd : ∀ x ∈ l,x.d.length≤1000000) : Con Tryz.prog 117 [.c (.sl (l.map irow))] [] (.c (.sl (l.map irow))) [] :=
 (hist_copied_con l hl hd).rows (drows_irow l)

def addNo (l : List IT) (s : Int) : Bool:=decide (s < 1) || decide (1099511627776 < s) || l.getLast?.elim false fun x=>decide (s≤x.b)
def addH (l : List IT) (s : Int) (d : List Nat) : List IT:=if addNo l s = true then l else l ++ [⟨s,d⟩]
theorem addNo_iff {l : List IT} {s : Int} : addNo l s = true ↔ s < 1∨1099511627776 < s∨∃ h : 0 < l.length,s≤(l[l.length - 1]'(by omega)).b:=by
 unfold addNo
 rw [Bool.or_eq_true,Bool.or_eq_true,decide_eq_true_eq,decide_eq_true_eq,or_assoc,List.getLast?_eq_getElem?]
 by_cases h : 0 < l.length
 ·rw [List.getElem?_eq_getElem (by omega)];simp [h]
 ·rw [List.getElem?_eq_none (by omega)]
  constructor
  ·rintro (h1 | h1 | h1)
   ·exact .inl h1
   ·exact .inr (.inl h1)
   ·cases h1
  ·rintro (h1 | h1 | ⟨h1,_⟩)
   ·exact .inl h1
   ·exact .inr (.inl h1)
   ·exact absurd h1 h
theorem addH_no {l : List IT} {s : Int} {d : List Nat} (h : (s < 1∨1099511627776 < s)∨∃ h : 0 < l.length,s≤(l[l.length - 1]'(by omega)).b) : addH l s d = l:=by
 unfold addH;rw [if_pos (addNo_iff.2 (by rcases h with (h | h) | h;exact .inl h;exact .inr (.inl h);exact .inr (.inr h)))]
theorem addH_yes {l : List IT} {s : Int} {d : List Nat} (h1 : 1≤s) (h2 : s≤1099511627776) (h3 : ∀ h : 0 < l.length,(l[l.length - 1]'(by omega)).b < s) : addH l s d = l ++ [⟨s,d⟩]:=by
 unfold addH
 rw [if_neg]
 rw [addNo_iff]
 rintro (h | h | ⟨h,h'⟩)
 ·omega
 ·omega
 ·have:=h3 h;omega

theorem hist_Add_con (l : List IT) (s : Int) (d : List Nat) (hl : l.length≤1000000) (hd : ∀ x ∈ l,x.d.length≤1000000) (hdd : d.length≤1000000) : Con Tryz.prog 100 [.c (.sl (l.map irow)),I s,.c (.sl (d.map brow))] [] (.c (.sl ((addH l s d).map irow))) []:=by
 refine C_hist_Add nl nl ?_
 simp only [cz,A_hist_Add,argL,objL,List.length_nil,Nat.zero_add,zX,simprocAttr]
 refine aR 16 ?_
 refine aB 64 ?_
 refine rO [] [] (hist_copied_con l hl hd) ?_
 refine aE ?_
 by_cases h0 : l.length = 0
 ·skip
  obtain rfl : l = []:=List.eq_nil_of_length_eq_zero h0
  refine aw_reg 144 (RG.go fun Q hQ=>?_)
  simp (disch:=first | (intros;contradiction) | omega | (simp only [zN];omega)) only [zS,zW,simprocAttr]
  repeat refine ⟨by ((simp;done)),?_⟩
  refine hQ (RG.nil ?_)
  simp only [zX]
  refine aw_cond _ rfl trivial (fun ht=>?_) (fun hf=>?_)
  ·skip
   try simp at ht
   simp only [zX]
   have : addH [] s d = []:=addH_no (.inl (by omega))
   rw [this]
   refine aR 528 ?_
   refine Fin.data [80] (.inr rfl) rfl (by (exact trivial)) ?_
   simp only [zL,simprocAttr]
   all_goals (exact ⟨⟨_,_,rfl⟩,drows_irow []⟩)
  try simp at hf
  simp only [zX]
  have : addH [] s d = [⟨s,d⟩]:=addH_yes (by omega) (by omega) (fun h=>by simp at h)
  rw [this]
  refine aB 592 ?_
  refine rC [] (cloneB_con d hdd) ?_
  refine aEs (fun Q hQ=>by simp (disch:=intros;contradiction) only [zS,simprocAttr];repeat refine ⟨by ((simp;done)),?_⟩;exact hQ) ?_
  refine Fin.data [688] (.inr rfl) rfl (by (exact trivial)) ?_
  simp only [zL,simprocAttr]
  all_goals (exact ⟨⟨_,_,rfl⟩,drows_irow [⟨s,d⟩]⟩)
 have hl1 : l.length - 1 < l.length:=by omega
 have hw : IntKind.i64.wrap ((l.length : Int) - 1) = ((l.length - 1 : Nat) : Int):=by rw [w64 _ (by omega) (by omega)];omega
 refine aw_reg 752 (RG.go fun Q hQ=>?_)
 simp (disch:=first | (intros;contradiction) | omega | (simp only [zN];omega)) only [zS,zW,irow,itC,hw,simprocAttr]
 repeat refine ⟨by (first | (simp;omega) | (simp;done)),?_⟩
 refine hQ (RG.nil ?_)
 simp only [zX]
 refine aw_cond _ rfl trivial (fun ht=>?_) (fun hf=>?_)
 ·skip
  try simp at ht
  simp only [zX]
  have : addH l s d = l:=addH_no (by rcases ht with ht | ht;exact .inl (by omega);exact .inr ⟨by omega,by omega⟩)
  rw [this]
  refine aR 1136 ?_
  refine Fin.data [80] (.inr rfl) rfl (by (exact trivial)) ?_
  simp only [zL,simprocAttr]
  all_goals (exact ⟨⟨_,_,rfl⟩,drows_irow l⟩)
 try simp at hf
 simp only [zX]
 have hf1:=hf.1
 have hf2:=hf.2 (by omega)
 have : addH l s d = l ++ [⟨s,d⟩]:=addH_yes (by omega) (by omega) (fun h=>by omega)
 rw [this]
 refine aB 1200 ?_
 refine RG.call [] (cloneB_con d hdd) (by (repeat' (first | exact tr_nil | refine tr_cons ?_ ?_ | exact tr_sl))) trivial (by (exact .inr ⟨rfl,trivial⟩)) ?_
 refine RG.go fun Q hQ=>?_
 simp (disch:=intros;contradiction) only [zS,zW,simprocAttr]
 repeat refine ⟨by ((simp;omega)),?_⟩
 refine hQ (RG.nil ?_)
 simp only [zX]
 refine Fin.data [1296] (.inr rfl) rfl (by (exact trivial)) ?_
 simp only [zL,simprocAttr]
 all_goals (rw [List.map_append];exact ⟨⟨_,_,rfl⟩,by rw [← List.map_append];exact drows_irow _⟩)

theorem mementoref13_Add_con (l : List IT) (s : Int) (d : List Nat) (hl : l.length≤1000000) (hdd : d.length≤1000000) : Con Tryz.prog 66 [.c (.sl (l.map irow)),I s,.c (.sl (d.map brow))] [] (.c (.sl ((addH l s d).map irow))) []:=by
 refine C_mementoref13_Add nl nl ?_
 simp only [cz,A_mementoref13_Add,argL,objL,List.length_nil,Nat.zero_add,zX,simprocAttr]
 by_cases h0 : l.length = 0
 ·skip
  obtain rfl : l = []:=List.eq_nil_of_length_eq_zero h0
  refine aR 16 ?_
  refine aw_reg 64 (RG.go fun Q hQ=>?_)
  simp (disch:=first | (intros;contradiction) | omega | (simp only [zN];omega)) only [zS,zW,simprocAttr]
  repeat refine ⟨by ((simp;done)),?_⟩
  refine hQ (RG.nil ?_)
  simp only [zX]
  refine aw_cond _ rfl trivial (fun ht=>?_) (fun hf=>?_)
  ·skip
   try simp at ht
   simp only [zX]
   have : addH [] s d = []:=addH_no (.inl (by omega))
   rw [this]
   refine aR 448 ?_
   refine Fin.data [] (.inr rfl) rfl (by (exact trivial)) ?_
   simp only [zL,simprocAttr]
   all_goals (exact drows_irow [])
  try simp at hf
  simp only [zX]
  have : addH [] s d = [⟨s,d⟩]:=addH_yes (by omega) (by omega) (fun h=>by simp at h)
  rw [this]
  refine aw_reg 512 (RG.go fun Q hQ=>?_)
  simp (disch:=intros;contradiction) only [zS,zW,simprocAttr]
  repeat refine ⟨by (first | exact ⟨by (intro q hq;obtain ⟨_,_,rfl⟩:=List.mem_map.1 hq;rfl),by omega⟩ | (simp;done)),?_⟩
  refine hQ (RG.nil ?_)
  simp only [zX]
  refine FinQ.le (Le.tell [576] 624 102 2 _ ([⟨s,d⟩].map irow) false rfl ⟨⟨.inl rfl,.inr (.inr ⟨_,_,_,_,rfl,rfl,rfl,drows_brow _⟩),trivial⟩,trivial⟩) ?_
  refine Fin.data [624] (.inr rfl) rfl (by (exact trivial)) ?_
  simp only [zL,simprocAttr]
  all_goals (exact ⟨⟨_,_,rfl⟩,drows_irow [⟨s,d⟩]⟩)
 have hl1 : l.length - 1 < l.length:=by omega
 have hw : IntKind.i64.wrap ((l.length : Int) - 1) = ((l.length - 1 : Nat) : Int):=by rw [w64 _ (by omega) (by omega)];omega
 refine aR 688 ?_
 refine aw_reg 736 (RG.go fun Q hQ=>?_)
 simp (disch:=first | (intros;contradiction) | omega | (simp only [zN];omega)) only [zS,zW,irow,itC,hw,simprocAttr]
 repeat refine ⟨by (first | (simp;omega) | (simp;done)),?_⟩
 refine hQ (RG.nil ?_)
 simp only [zX]
 refine aw_cond _ rfl trivial (fun ht=>?_) (fun hf=>?_)
 ·skip
  try simp at ht
  simp only [zX]
  have : addH l s d = l:=addH_no (by rcases ht with ht | ht;exact .inl (by omega);exact .inr ⟨by omega,by omega⟩)
  rw [this]
  refine aR 1120 ?_
  refine Fin.data [] (.inr rfl) rfl (by (exact trivial)) ?_
  simp only [zL,simprocAttr]
  all_goals (exact drows_irow l)
 try simp at hf
 simp only [zX]
 have hf1:=hf.1
 have hf2:=hf.2 (by omega)
 have : addH l s d = l ++ [⟨s,d⟩]:=addH_yes (by omega) (by omega) (fun h=>by omega)
 rw [this]
 refine aw_reg 1184 (RG.go fun Q hQ=>?_)
 simp (disch:=intros;contradiction) only [zS,zW,simprocAttr]
 repeat refine ⟨by (first | exact ⟨by (intro q hq;obtain ⟨_,_,rfl⟩:=List.mem_map.1 hq;rfl),by omega⟩ | (simp;omega)),?_⟩
 refine hQ (RG.nil ?_)
 simp only [zX]
 refine FinQ.le (Le.tell [1248] 1296 102 2 _ ((l ++ [(⟨s,d⟩ : IT)]).map irow) false rfl (by rw [List.map_append];refine tell_app ?_ _;exact ⟨⟨.inl rfl,.inr (.inr ⟨_,_,_,_,rfl,rfl,rfl,drows_brow _⟩),trivial⟩,trivial⟩)) ?_
 refine Fin.data [1296] (.inr rfl) rfl (by (exact trivial)) ?_
 simp only [zL,simprocAttr]
 all_goals (exact ⟨⟨_,_,rfl⟩,drows_irow _⟩)

def pruneH (f : Int) (l : List IT) : List IT:=l.drop (behN f l - 1)

theorem hist_Prune_con (l : List IT) (f : Int) (hl : l.length≤1000000) (hd : ∀ x ∈ l,x.d.length≤1000000) (hr : rise l) : Con Tryz.prog 101 [.c (.sl (l.map irow)),I f] [] (.c (.sl ((pruneH f l).map irow))) []:=by
 have hk:=behN_le f l
 have cB:=hist_behind_con l f hl hr
 have cC:=hist_copiedD_con (pruneH f l) (by simp [pruneH];omega) (fun x hx=>hd x (List.mem_of_mem_drop hx))
 unfold pruneH at cC ⊢
 generalize behN f l = k at *
 have hto : (if (k : Int) - 1 < 0 then 0 else (k : Int) - 1).toNat = k - 1:=by split <;> omega
 have hw : IntKind.i64.wrap ((k : Int) - 1) = (k : Int) - 1:=w64 _ (by omega) (by omega)
 refine C_hist_Prune nl nl ?_
 simp only [cz,A_hist_Prune,argL,objL,List.length_nil,Nat.zero_add,zX]
 refine aR 16 ?_
 refine aB 64 ?_
 refine rC [] (cB) ?_
 refine aMs (fun Q hQ=>by simp (disch:=intros;contradiction) only [zS,zW,hw,hto,simprocAttr];repeat refine ⟨by ((refine ⟨?_,?_⟩ <;> (repeat' (first | omega | (intro q hq;obtain ⟨_,_,rfl⟩:=List.mem_map.1 hq;rfl) | refine ⟨?_,?_⟩)))),?_⟩;exact hQ) ?_
 refine rC [] (cC) ?_
 refine aE ?_
 refine Fin.data [] (.inr rfl) rfl (by (exact trivial)) ?_
 simp only [zL,simprocAttr]
 all_goals (exact drows_irow _)

theorem mementoref13_Prune_con (l : List IT) (f : Int) (hl : l.length≤1000000) (hr : rise l) : Con Tryz.prog 67 [.c (.sl (l.map irow)),I f] [] (.c (.sl ((pruneH f l).map irow))) []:=by
 have hk:=behN_le f l
 have h1:=behN_lt f l
 have h2:=behN_ge f l hr
 unfold pruneH
 generalize behN f l = k at *
 refine C_mementoref13_Prune nl nl ?_
 simp only [cz,A_mementoref13_Prune,argL,objL,List.length_nil,Nat.zero_add,zX]
 refine aR 16 ?_
 refine aR 64 ?_
 refine aR 112 ?_
 refine aw_loopK (X:={ i : Nat // i≤l.length }) [0,1] (fun i=>[(5,.c (.osl 5000)),(6,I i.1)]) [] (fun i=>[(5000,.arr 102 2 (((l.take i.1).drop (k - 1)).map irow) false)]) (fun i=>l.length - i.1) (⟨0,by omega⟩) ?_ ?_
 ·skip
  simp only [keepS,keepE,lk_cons,List.cons_append,List.nil_append,simprocAttr]
  refine (Le.own 5 5000 102 2 rfl rfl (by decide)).trans ?_
  simp only [setS_cons,setE_nil,simprocAttr]
  refine Le.lit [] [] _ _ ?_ ?_ ?_ ?_
  ·simp only [zL,simprocAttr]
  ·simp only [zL,simprocAttr]
   all_goals (try ((repeat' (((simp [C.isD];done))))))
  ·simp [rlook]
  ·(simp;done)
 rintro ⟨i,hi⟩
 simp only [keepS,keepE,lk_cons,List.cons_append,List.nil_append,simprocAttr]
 simp only [zX]
 refine aS 160 (fun Q hQ=>by simp (disch:=intros;contradiction) only [zS,zW,simprocAttr];exact hQ) ?_
 refine aw_cond _ rfl trivial (fun ht=>?_) (fun hf=>?_)
 ·skip
  try simp at ht
  simp only [zX]
  have hi' : i < l.length:=by omega
  have hlen : ((l.take i).drop (k - 1)).length≤1000000:=by simp;omega
  have hstep : (l.take (i + 1)).drop (k - 1) = if k≤i + 1 then (l.take i).drop (k - 1) ++ [l[i]] else (l.take i).drop (k - 1):=by
   rw [take_one l i hi']
   split
   ·rw [List.drop_append_of_le_length (by simp;omega)]
   ·rw [List.drop_of_length_le (by simp;omega),List.drop_of_length_le (by simp;omega)]
  by_cases hlast : i + 1 = l.length
  ·skip
   have hge : k≤i + 1:=by omega
   rw [if_pos hge] at hstep
   have e2 : ((l.take i).drop (k - 1)).map irow ++ [[.v (.int .i64 l[i].b),.sl (l[i].d.map brow)]] = ((l.take (i + 1)).drop (k - 1)).map irow:=by rw [hstep,List.map_append];rfl
   refine aw_reg 256 (RG.go fun Q hQ=>?_)
   simp (disch:=first | (intros;contradiction) | omega | (simp only [zN];omega)) only [zS,zW,simprocAttr]
   repeat refine ⟨by ((simp;omega)),?_⟩
   refine hQ (RG.nil ?_)
   simp only [zX]
   refine aw_cond _ rfl trivial (fun ht=>?_) (fun hf=>by simp at hf;omega)
   refine aw_reg 528 (RG.go fun Q hQ=>?_)
   simp (disch:=first | (intros;contradiction) | omega | (simp only [zN];omega)) only [zS,zW,irow,itC,e2,simprocAttr]
   repeat refine ⟨by (first | omega | (simp;omega)),?_⟩
   refine hQ (RG.nil ?_)
   simp only [zX]
   refine aS 688 (fun Q hQ=>by simp (disch:=first | (intros;contradiction) | omega | (simp only [zN];omega)) only [zS,zW,simprocAttr];exact hQ) ?_
   refine ⟨⟨i + 1,hi'⟩,?_,by first | omega | (simp only;omega)⟩
   refine Le.lit [] [(5000,624)] _ _ ?_ ?_ ?_ ?_
   ·simp only [zL,simprocAttr]
    all_goals (try ((repeat' (rfl))))
   ·simp only [zL,simprocAttr]
    all_goals (exact drows_irow _;skip)
   ·simp [rlook]
   ·(simp;done)
  have hi1 : i + 1 < l.length:=by omega
  refine aw_reg 768 (RG.go fun Q hQ=>?_)
  simp (disch:=first | (intros;contradiction) | omega | (simp only [zN];omega)) only [zS,zW,irow,itC,simprocAttr]
  repeat refine ⟨by (first | (simp;omega) | (simp;done)),?_⟩
  refine hQ (RG.nil ?_)
  simp only [zX]
  refine aw_cond _ rfl trivial (fun ht=>?_) (fun hf=>?_)
  ·skip
   try simp at ht
   have hge : k≤i + 1:=by
    refine Decidable.by_contra fun hh=>?_
    have:=h1 (i + 1) hi1 (by omega)
    omega
   rw [if_pos hge] at hstep
   have e2 : ((l.take i).drop (k - 1)).map irow ++ [[.v (.int .i64 l[i].b),.sl (l[i].d.map brow)]] = ((l.take (i + 1)).drop (k - 1)).map irow:=by rw [hstep,List.map_append];rfl
   refine aw_reg 1040 (RG.go fun Q hQ=>?_)
   simp (disch:=first | (intros;contradiction) | omega | (simp only [zN];omega)) only [zS,zW,irow,itC,e2,simprocAttr]
   repeat refine ⟨by (first | omega | (simp;omega)),?_⟩
   refine hQ (RG.nil ?_)
   simp only [zX]
   refine aS 1200 (fun Q hQ=>by simp (disch:=first | (intros;contradiction) | omega | (simp only [zN];omega)) only [zS,zW,simprocAttr];exact hQ) ?_
   refine ⟨⟨i + 1,hi'⟩,?_,by first | omega | (simp only;omega)⟩
   refine Le.lit [] [(5000,1136)] _ _ ?_ ?_ ?_ ?_
   ·simp only [zL,simprocAttr]
    all_goals (try ((repeat' (rfl))))
   ·simp only [zL,simprocAttr]
    all_goals (exact drows_irow _;skip)
   ·simp [rlook]
   ·(simp;done)
  try simp at hf
  simp only [zX]
  have hge : ¬ k≤i + 1:=fun hh=>by
   have:=h2 (i + 1) hi1 hh
   omega
  rw [if_neg hge] at hstep
  refine aS 1280 (fun Q hQ=>by simp (disch:=first | (intros;contradiction) | omega | (simp only [zN];omega)) only [zS,zW,simprocAttr];exact hQ) ?_
  refine ⟨⟨i + 1,hi'⟩,?_,by first | omega | (simp only;omega)⟩
  refine Le.lit [] [] _ _ ?_ ?_ ?_ ?_
  ·simp only [zL,simprocAttr]
   all_goals (try ((repeat' (rfl))))
  ·simp only [zL,simprocAttr]
   all_goals (rw [hstep];(repeat' (first | (first | exact drows_irow _ | (simp [C.isD];done)) | refine ⟨?_,?_⟩)))
  ·simp [rlook]
  ·(simp;done)
 try simp at hf
 simp only [zX,↓reduceIte]
 obtain rfl : i = l.length:=by omega
 rw [List.take_length]
 refine aR 1360 ?_
 refine Fin.data [5000] (.inr rfl) rfl (by (exact trivial)) ?_
 simp only [zL,simprocAttr]
 all_goals (exact ⟨⟨_,_,rfl⟩,drows_irow _⟩)

def chgH (f t : Int) (l : List IT) : Bool:=l.any fun x=>decide (f < x.b) && decide (x.b≤t)
theorem chgH_iff {f t : Int} {l : List IT} (hr : rise l) : chgH f t l = decide (behN f l < behN t l):=by
 rw [Bool.eq_iff_iff,decide_eq_true_eq]
 unfold chgH
 simp only [List.any_eq_true,Bool.and_eq_true,decide_eq_true_eq]
 have hk:=behN_le t l
 constructor
 ·rintro ⟨x,hx,h1,h2⟩
  obtain ⟨i,hi,rfl⟩:=List.getElem_of_mem hx
  have a1 : behN f l≤i:=Decidable.by_contra fun h=>by have:=behN_lt f l i hi (by omega);omega
  have a2 : i < behN t l:=Decidable.by_contra fun h=>by have:=behN_ge t l hr i hi (by omega);omega
  omega
 ·intro h
  have hi : behN f l < l.length:=by omega
  exact ⟨_,List.getElem_mem hi,behN_ge f l hr _ hi (Nat.le_refl _),behN_lt t l _ hi h⟩

theorem hist_Changed_con (l : List IT) (f t : Int) (hl : l.length≤1000000) (hr : rise l) : Con Tryz.prog 71 [.c (.sl (l.map irow)),I f,I t] [] (B (chgH f t l)) []:=by
 rw [chgH_iff hr]
 have k1:=behN_le f l
 have k2:=behN_le t l
 refine C_hist_Changed nl nl ?_
 simp only [cz,A_hist_Changed,argL,objL,List.length_nil,Nat.zero_add,zX,simprocAttr]
 refine aR 16 ?_
 refine aB 64 ?_
 refine rC [] (hist_behind_con l t hl hr) ?_
 refine aM ?_
 refine rC [] (hist_behind_con l f hl hr) ?_
 refine aE ?_
 refine Fin.b (.inr rfl) rfl trivial ?_
 simp

theorem mementoref13_At_con (l : List IT) (t : Int) (hl : l.length≤1000000) (hr : rise l) :
  Con Tryz.prog 94 [.c (.sl (l.map irow)),I t] [] (.tup [.c (.sl (((l.take (behN t l)).getLast?.elim [] (·.d)).map brow)),B (decide (0 < behN t l))]) []:=by
 have hk:=behN_le t l
 have h1:=behN_lt t l
 have h2:=behN_ge t l hr
 generalize behN t l = k at *
 have hw : IntKind.i64.wrap ((l.length : Int) - 1) = (l.length : Int) - 1:=w64 _ (by omega) (by omega)
 refine C_mementoref13_At nl nl ?_
 simp only [cz,A_mementoref13_At,argL,objL,List.length_nil,Nat.zero_add,zX]
 refine aR 16 ?_
 refine aS 80 (fun Q hQ=>by simp (disch:=intros;contradiction) only [zS,zW,hw,simprocAttr];exact hQ) ?_
 refine aw_loopK (X:={ i : Nat // i≤l.length∧k≤i }) [0,1] (fun i=>[(6,I ((i.1 : Int) - 1))]) [] (fun i=>[]) (fun i=>i.1) (⟨l.length,by omega,hk⟩) ?_ ?_
 ·skip
  simp only [keepS,keepE,lk_cons,List.cons_append,List.nil_append,simprocAttr]
  refine Le.lit [] [] _ _ ?_ ?_ ?_ ?_
  ·simp only [zL,simprocAttr]
  ·simp only [zL,simprocAttr]
  ·simp [rlook]
  ·(simp;done)
 rintro ⟨i,hi,hki⟩
 simp only [keepS,keepE,lk_cons,List.cons_append,List.nil_append,simprocAttr]
 simp only [zX]
 refine aR 176 ?_
 refine aw_cond _ rfl trivial (fun ht=>?_) (fun hf=>?_)
 ·skip
  try simp at ht
  simp only [zX]
  have hi' : i - 1 < l.length:=by omega
  have hwi : ((i : Int) - 1).toNat = i - 1:=by omega
  have hr1 : ((l.map irow)[((i : Int) - 1).toNat]?).getD [] = [.v (.int .i64 l[i - 1].b),.sl (l[i - 1].d.map brow)]:=by rw [hwi];exact map_get irow hi' []
  refine aS 240 (fun Q hQ=>by simp (disch:=first | (intros;contradiction) | omega | (simp only [zN];omega)) only [zS,zW,irow,itC,hwi,simprocAttr];repeat refine ⟨by (omega),?_⟩;exact hQ) ?_
  refine aw_cond _ rfl trivial (fun ht=>?_) (fun hf=>?_)
  ·skip
   try simp at ht
   simp only [zX]
   have hik : i = k:=by
    have : i - 1 < k:=Decidable.by_contra fun hh=>by have:=h2 (i - 1) hi' (by omega);omega
    omega
   subst hik
   have hlast : (l.take i).getLast?.elim [] (·.d) = l[i - 1].d:=by
    obtain ⟨j,rfl⟩ : ∃ j,i = j + 1:=⟨i - 1,by omega⟩
    simp only [Nat.add_sub_cancel]
    rw [take_one l j (by omega),List.getLast?_concat];rfl
   have hk0 : 0 < i:=by omega
   rw [hlast,decide_eq_true hk0]
   refine aS 384 (fun Q hQ=>by simp (disch:=first | (intros;contradiction) | omega | (simp only [zN];omega)) only [zS,zW,irow,itC,hwi,simprocAttr];repeat refine ⟨by (omega),?_⟩;exact hQ) ?_
   refine Fin.data [] (.inr rfl) rfl (by (exact trivial)) ?_
   simp only [zL,simprocAttr]
   all_goals (simp)
  try simp at hf
  simp only [zX]
  have hw2 : IntKind.i64.wrap ((i : Int) - 1 - 1) = ((i - 1 : Nat) : Int) - 1:=by rw [w64 _ (by omega) (by omega)];omega
  have hk9 : k≤i - 1:=Decidable.by_contra fun hh=>by have:=h1 (i - 1) hi' (by omega);omega
  refine aS 528 (fun Q hQ=>by simp (disch:=intros;contradiction) only [zS,hw2,simprocAttr];exact hQ) ?_
  refine ⟨⟨i - 1,by omega,hk9⟩,?_,by first | omega | (simp only;omega)⟩
  refine Le.lit [] [] _ _ ?_ ?_ ?_ ?_
  ·simp only [zL,simprocAttr]
  ·simp only [zL,simprocAttr]
  ·simp [rlook]
  ·(simp;done)
 try simp at hf
 simp only [zX,↓reduceIte]
 have hk0 : k = 0:=by omega
 subst hk0
 refine aR 608 ?_
 refine Fin.data [] (.inr rfl) rfl (by (exact trivial)) ?_
 simp only [zL,simprocAttr]
 all_goals (simp)

end Go.Abs

namespace Go.Abs
open Go Go.Proofs
set_option maxRecDepth 100000
set_option linter.unusedSimpArgs false
set_option maxHeartbeats 8000000

theorem wk2_set {σ : Nat→Option Ent} {ρ : Nat→Nat} {dom : Nat→Prop} {E : TypeId} {s k i : Nat} {d : List (List C)} {rows : List (List C)} (hi : i < rows.length) (hr : rows[i] = [.sl d]) (hk : σ k = some (.arr E s d true)) (hd : isDRows d) (h : isDRows rows) :
  TrL (TrL (WkC σ ρ dom)) rows (rows.set i [.osl k]) :=
 TrL.of (by simp) fun j x y h1 h2=>by
  by_cases hj : j = i
  ·subst hj
   rw [List.getElem?_eq_getElem hi,hr] at h1
   rw [List.getElem?_set_self hi] at h2
   cases h1;cases h2
   exact ⟨⟨⟨_,_,hk⟩,hd⟩,trivial⟩
  ·rw [List.getElem?_set_ne (fun e=>hj e.symm),h1] at h2
   cases h2
   have hx:=h x (List.mem_of_getElem? h1)
   refine TrL.of rfl fun j' a b ha hb=>?_
   rw [ha] at hb;cases hb
   have:=hx a (List.mem_of_getElem? ha)
   cases a <;> first | (cases this;done) | exact (rfl : _ = _)
theorem wk2_self {σ : Nat→Option Ent} {ρ : Nat→Nat} {dom : Nat→Prop} {k i : Nat} {rows : List (List C)} (hi : i < rows.length) (hk : ρ k = k) (hdk : dom k) (h : isDRows rows) :
  TrL (TrL (WkC σ ρ dom)) (rows.set i [.osl k]) (rows.set i [.osl k]) :=
 TrL.of rfl fun j x y h1 h2=>by
  rw [h1] at h2;cases h2
  by_cases hj : j = i
  ·subst hj
   rw [List.getElem?_set_self hi] at h1
   cases h1
   exact ⟨⟨hk,hdk⟩,trivial⟩
  ·rw [List.getElem?_set_ne (fun e=>hj e.symm)] at h1
   have hx:=h x (List.mem_of_getElem? h1)
   refine TrL.of rfl fun j' a b ha hb=>?_
   rw [ha] at hb;cases hb
   have:=hx a (List.mem_of_getElem? ha)
   cases a <;> first | (cases this;done) | exact (rfl : _ = _)

def HG (n : Nat) (H : List (List IT)) : Prop:=∀ h ∈ H,histR h = true∧h.length≤n∧∀ x ∈ h,x.d.length≤1000000∧∀ c ∈ x.d,c < 256

theorem chunk_copied_con (c : CH) (hl : c.hist.length≤1000000) (hg : HG 1000000 c.hist) : Con Tryz.prog 98 [.agg (chC c)] [] (.agg (chO c.vol c.chunk c.count c.size c.mark c.floor (.osl 0))) [.arr 100 1 (c.hist.map hrow) false]:=by
 refine C_chunk_copied nl nl ?_
 simp only [cz,A_chunk_copied,argL,objL,List.length_nil,zX]
 refine aS 16 (fun Q hQ=>by simp (disch:=intros;contradiction) only [zS,chC,chO,simprocAttr];exact hQ) ?_
 refine aB 80 ?_
 refine RG.callo [] [] (slices_Clone_LLapi_Version_api_Version_con (c.hist.map hrow) (drows_hrow _) (hrow_len _) (by simp;omega)) (.mk (by (repeat' (first | exact tr_nil | refine tr_cons ?_ ?_ | exact tr_sl))) (by trivial) (by simp) (by simp) (trivial) (by (simp [lkE_cons,lkE_nil];done)) (by (simp [Ent.pure];repeat' ((exact drows_hrow _)))) (by simp) (by simp)) ?_
 refine aE ?_
 refine aS 192 (fun Q hQ=>by simp (disch:=intros;contradiction) only [zS,zW,simprocAttr];exact hQ) ?_
 refine aw_loopK (X:={ i : Nat // i≤c.hist.length }) [1,2,11,12] (fun i=>[(13,I i.1)]) [16,32,112] (fun i=>[]) (fun i=>c.hist.length - i.1) (⟨0,by omega⟩) ?_ ?_
 ·skip
  simp only [keepS,keepE,Option.getD_some,lk_cons,lkE_cons,List.cons_append,List.nil_append,simprocAttr]
  refine Le.lit [] [] _ _ ?_ ?_ ?_ ?_
  ·simp only [zL,simprocAttr]
  ·simp only [zL,simprocAttr]
   all_goals (exact drows_hrow _;skip)
  ·simp [rlook]
  ·(simp;done)
 rintro ⟨i,hi⟩
 simp only [keepS,keepE,Option.getD_some,lk_cons,lkE_cons,List.cons_append,List.nil_append,simprocAttr]
 simp only [zX]
 refine aR 288 ?_
 refine aw_cond _ rfl trivial (fun ht=>?_) (fun hf=>?_)
 ·skip
  try simp at ht
  simp only [zX]
  have hi' : i < c.hist.length:=by omega
  obtain ⟨g1,g2,g3⟩:=hg _ (List.getElem_mem hi')
  refine aw_reg 336 (RG.go fun Q hQ=>?_)
  simp (disch:=first | (intros;contradiction) | omega | (simp only [zN];omega)) only [zS,zW,hrow,simprocAttr]
  repeat refine ⟨by (omega),?_⟩
  refine hQ (RG.nil ?_)
  simp only [zX]
  refine aBD 448 ?_
  refine rO [] [] (slices_Clone_api_Version_api_Version_con (c.hist[i].map irow) (drows_irow _) (irow_len _) (by simp;omega)) ?_
  refine RG.go fun Q hQ=>?_
  simp (disch:=first | (intros;contradiction) | omega | (simp only [zN];omega)) only [zS,zW,hrow,simprocAttr]
  have hlm : i < (c.hist.map hrow).length:=by simpa using hi'
  have hget : (((c.hist.map hrow).set i [.osl 512])[i]?).getD [] = [.osl 512]:=by rw [List.getElem?_set_self hlm];rfl
  repeat refine ⟨by (omega),?_⟩
  refine hQ (RG.nil ⟨by decide +kernel,?_⟩)
  simp only [zX]
  have hset0 : ∀ (σ : Nat→Option Ent) (ρ : Nat→Nat) (dom : Nat→Prop) (k : Nat),ρ k = k→dom k→TrL (TrL (WkC σ ρ dom)) ((c.hist.map hrow).set i [.osl k]) ((c.hist.map hrow).set i [.osl k]):=fun σ ρ dom k h1 h2=>wk2_self hlm h1 h2 (drows_hrow _)
  refine aw_reg 592 (RG.go fun Q hQ=>?_)
  simp (disch:=intros;contradiction) only [zS,zW,hget,simprocAttr]
  repeat refine ⟨by (omega),?_⟩
  refine hQ (RG.nil ?_)
  simp only [zX]
  refine aw_loopK (X:={ k : Nat // k≤c.hist[i].length }) [1,2,3,11,12,13,29] (fun k=>[(30,I k.1)]) [16,32,112,512] (fun k=>[]) (fun k=>c.hist[i].length - k.1) (⟨0,by omega⟩) ?_ ?_
  ·skip
   simp only [keepS,keepE,Option.getD_some,lk_cons,lkE_cons,List.cons_append,List.nil_append,simprocAttr]
   refine Le.lit2 [] [] _ _ ?_ ?_ ?_ ?_
   ·simp only [zL,simprocAttr]
   ·simp only [zL,simprocAttr]
    all_goals (exact ⟨.inr (hset0 _ _ _ _ rfl (by simp)),.inl (drows_irow _)⟩;skip)
   ·simp [rlook]
   ·(simp;done)
  rintro ⟨k,hk⟩
  simp only [keepS,keepE,Option.getD_some,lk_cons,lkE_cons,List.cons_append,List.nil_append,simprocAttr]
  simp only [zX]
  refine aR 736 ?_
  refine aw_cond _ rfl trivial (fun ht=>?_) (fun hf=>?_)
  ·skip
   try simp at ht
   simp only [zX]
   have hk' : k < c.hist[i].length:=by omega
   obtain ⟨g4,g5⟩:=g3 _ (List.getElem_mem hk')
   have hset : (c.hist[i].map irow).set ((k : Int)).toNat [.v (.int .i64 c.hist[i][k].b),.sl (c.hist[i][k].d.map brow)] = c.hist[i].map irow:=set_same irow hk'
   have hset2 : (c.hist[i].map irow).set k [.v (.int .i64 c.hist[i][k].b),.sl (c.hist[i][k].d.map brow)] = c.hist[i].map irow:=set_same irow hk'
   refine aR 784 ?_
   refine aw_draw 848 (RG.go fun Q hQ=>?_)
   simp (disch:=first | (intros;contradiction) | omega | (simp only [zN];omega)) only [zS,zW,hget,irow,itC,simprocAttr]
   repeat refine ⟨by (omega),?_⟩
   refine hQ ?_
   refine rC [] (cloneB_con c.hist[i][k].d g4) ?_
   refine RG.go fun Q hQ=>?_
   simp (disch:=first | (intros;contradiction) | omega | (simp only [zN];omega)) only [zS,zW,irow,itC,hset2,simprocAttr]
   repeat refine ⟨by (omega),?_⟩
   refine hQ (RG.nil ⟨by decide +kernel,?_⟩)
   simp only [zX]
   refine aS 1184 (fun Q hQ=>by simp (disch:=first | (intros;contradiction) | omega | (simp only [zN];omega)) only [zS,zW,simprocAttr];exact hQ) ?_
   refine ⟨⟨k + 1,hk'⟩,?_,by first | omega | (simp only;omega)⟩
   refine Le.lit2 [] [] _ _ ?_ ?_ ?_ ?_
   ·simp only [zL,simprocAttr]
    all_goals (try ((repeat' (rfl))))
   ·simp only [zL,simprocAttr]
    all_goals (exact ⟨.inr (hset0 _ _ _ _ rfl (by simp)),.inl (drows_irow _)⟩;skip)
   ·simp [rlook]
   ·(simp;done)
  try simp at hf
  simp only [zX,↓reduceIte]
  obtain rfl : k = c.hist[i].length:=by omega
  refine aS 1248 (fun Q hQ=>by simp (disch:=first | (intros;contradiction) | omega | (simp only [zN];omega)) only [zS,zW,simprocAttr];exact hQ) ?_
  refine ⟨⟨i + 1,hi'⟩,?_,by first | omega | (simp only;omega)⟩
  refine Le.lit2 [512] [] _ _ ?_ ?_ ?_ ?_
  ·simp only [zL,simprocAttr]
   all_goals (try ((repeat' (rfl))))
  ·simp only [zL,simprocAttr]
   all_goals (exact ⟨by simp,.inr (wk2_set hlm (by simp [hrow]) rfl (drows_irow _) (drows_hrow _))⟩;skip)
  ·simp [rlook]
  ·(simp;done)
 try simp at hf
 simp only [zX,↓reduceIte]
 refine aR 1312 ?_
 refine Fin.objs [] [(0,112)] (.inr rfl) rfl (by exact ⟨trivial,trivial⟩) ?_ ?_ (by simp [objL,rlook]) (by (simp [objL,rlook];done))
 ·simp only [zL]
  all_goals (try ((repeat' (first | exact trivial | rfl | (simp;done) | refine ⟨?_,?_⟩))))
 ·simp only [zL,simprocAttr]
  all_goals (exact drows_hrow _)

end Go.Abs

namespace Go.Abs
open Go Go.Proofs
set_option maxRecDepth 100000
set_option linter.unusedSimpArgs false
set_option maxHeartbeats 8000000

def applyI (mark s : Int) (H : List (List IT)) (x : IT) : List (List IT):=if mark < s then H.set x.b.toNat (addH (H.getD x.b.toNat []) s x.d) else H
def applyW (mark : Int) (H : List (List IT)) (w : WR) : List (List IT):=w.its.foldl (applyI mark w.s) H
def applyOk (c : CH) (p : PU) : Bool:=pushR p && decide (p.vol = c.vol) && decide (p.chunk = c.chunk) && decide (p.count = c.count) && decide (p.size = c.size) && decide (p.frm≤c.mark)
def applyC (c : CH) (p : PU) : CH :=
 if applyOk c p = true then ⟨c.vol,c.chunk,c.count,c.size,max c.mark p.to,max c.floor p.floor,(p.ws.foldl (applyW c.mark) c.hist).map (pruneH (max c.floor p.floor))⟩ else c

theorem hst_lt {p : Int} : ∀ {l : List IT},hst p l = true→∀ x ∈ l,p < x.b∧x.b≤1099511627776
 | [],_,x,hx=>by cases hx
 | y :: l,h,x,hx=>by
  simp only [hst,Bool.and_eq_true,decide_eq_true_eq] at h
  obtain ⟨⟨h1,h2⟩,h3⟩:=h
  rcases List.mem_cons.1 hx with rfl | hx
  ·exact ⟨h1,h2⟩
  ·have:=hst_lt h3 x hx;omega
theorem hst_rise {p : Int} : ∀ {l : List IT},hst p l = true→rise l
 | [],_=>trivial
 | y :: l,h=>by
  simp only [hst,Bool.and_eq_true,decide_eq_true_eq] at h
  exact ⟨fun x hx=>by have:=hst_lt h.2 x hx;omega,hst_rise h.2⟩
theorem histR_rise {l : List IT} (h : histR l = true) : rise l:=hst_rise h
theorem hst_add {x : IT} (h1 : 1≤x.b) (h2 : x.b≤1099511627776) : ∀ {l : List IT} {p : Int},hst p l = true→p < x.b→(∀ h : 0 < l.length,(l[l.length - 1]'(by omega)).b < x.b)→hst p (l ++ [x]) = true
 | [],p,_,hp,_=>by simp [hst,hp,h2]
 | y :: l,p,h,hp,hl=>by
  simp only [hst,Bool.and_eq_true,decide_eq_true_eq,List.cons_append] at h ⊢
  have hy : y.b < x.b:=by
   by_cases h0 : l.length = 0
   ·obtain rfl : l = []:=List.eq_nil_of_length_eq_zero h0
    exact hl (by simp)
   ·have a:=hst_lt h.2 (l[l.length - 1]'(by omega)) (List.getElem_mem _)
    have b:=hl (by simp)
    have c : (y :: l)[(y :: l).length - 1]'(by simp) = l[l.length - 1]'(by omega):=by
     obtain ⟨j,hj⟩ : ∃ j,l.length = j + 1:=⟨l.length - 1,by omega⟩
     simp [hj]
    rw [c] at b
    omega
  refine ⟨h.1,hst_add h1 h2 h.2 hy fun h0=>?_⟩
  have b:=hl (by simp)
  have c : (y :: l)[(y :: l).length - 1]'(by simp) = l[l.length - 1]'(by omega):=by
   obtain ⟨j,hj⟩ : ∃ j,l.length = j + 1:=⟨l.length - 1,by omega⟩
   simp [hj]
  rw [c] at b
  exact b
theorem addH_right {l : List IT} {s : Int} {d : List Nat} (h : histR l = true) : histR (addH l s d) = true:=by
 unfold addH
 split
 ·exact h
 ·rename_i hn
  rw [addNo_iff] at hn
  refine hst_add (x:=⟨s,d⟩) (by simp only;omega) (by simp only;omega) h (by simp only;omega) fun h0=>?_
  refine Decidable.by_contra fun hh=>hn (.inr (.inr ⟨h0,by simp only at hh;omega⟩))
theorem HG.mono {n m : Nat} {H : List (List IT)} (h : HG n H) (hm : n≤m) : HG m H:=fun x hx=>⟨(h x hx).1,by have:=(h x hx).2.1;omega,(h x hx).2.2⟩
theorem HG.add {n : Nat} {H : List (List IT)} (h : HG n H) {b : Nat} (hb : b < H.length) {s : Int} {d : List Nat} (hd : d.length≤1000000) (h8 : ∀ c ∈ d,c < 256) : HG (n + 1) (H.set b (addH H[b] s d)):=by
 intro x hx
 rcases List.mem_or_eq_of_mem_set hx with hx | rfl
 ·exact h.mono (Nat.le_succ n) x hx
 ·obtain ⟨a1,a2,a3⟩:=h _ (List.getElem_mem hb)
  refine ⟨addH_right a1,?_,?_⟩
  ·unfold addH;split
   ·omega
   ·simp;omega
  ·unfold addH;split
   ·exact a3
   ·intro y hy
    rcases List.mem_append.1 hy with hy | hy
    ·exact a3 y hy
    ·simp only [List.mem_singleton] at hy;subst hy;exact ⟨hd,h8⟩
theorem applyI_no {mark s : Int} (h : ¬ mark < s) : ∀ (l : List IT) (H : List (List IT)),l.foldl (applyI mark s) H = H
 | [],H=>rfl
 | x :: l,H=>by rw [List.foldl_cons];unfold applyI;rw [if_neg h];exact applyI_no h l H
theorem wsP_mem {count size to : Int} : ∀ {l : List WR} {last : Int},wsP count size to last l = true→∀ w ∈ l,last < w.s∧w.s≤to∧itemsR count size w.its = true
 | [],_,_,w,hw=>by cases hw
 | x :: l,last,h,w,hw=>by
  simp only [wsP,Bool.and_eq_true,decide_eq_true_eq] at h
  obtain ⟨⟨⟨h1,h2⟩,h3⟩,h4⟩:=h
  rcases List.mem_cons.1 hw with rfl | hw
  ·exact ⟨h1,h2,h3⟩
  ·have:=wsP_mem h4 w hw;exact ⟨by omega,this.2⟩
theorem pushR_facts {p : PU} (h : pushR p = true) : ((0≤p.vol∧p.vol≤7)∧(0≤p.chunk∧p.chunk≤255)∧(1≤p.count∧p.count≤256)∧(1≤p.size∧p.size≤32))∧(0≤p.frm∧p.frm≤p.to∧p.to≤1099511627776)∧(0≤p.floor∧p.floor≤p.to)∧p.ws.length≤4∧∀ w ∈ p.ws,p.frm < w.s∧w.s≤p.to∧itemsR p.count p.size w.its = true:=by
 simp only [pushR,shapeC,Bool.and_eq_true,inR_iff,decide_eq_true_eq] at h
 obtain ⟨⟨⟨⟨⟨⟨⟨⟨s1,s2⟩,s3⟩,s4⟩,h2⟩,h3⟩,h4⟩,h5⟩,h6⟩:=h
 exact ⟨⟨s1,s2,s3,s4⟩,⟨h3.1,h3.2,h2.2⟩,h4,h5,wsP_mem h6⟩

def pF (f : Int) (H : List (List IT)) (i : Nat) : List (List IT):=(H.take i).map (pruneH f) ++ H.drop i
theorem pF_len (f : Int) (H : List (List IT)) (i : Nat) (hi : i≤H.length) : (pF f H i).length = H.length:=by simp [pF];omega
theorem pF_get (f : Int) (H : List (List IT)) (i : Nat) (hi : i < H.length) (h : i < (pF f H i).length) : (pF f H i)[i] = H[i]:=by
 have : (pF f H i)[i]? = some H[i]:=by
  unfold pF
  rw [List.getElem?_append_right (by simp;omega)]
  simp [Nat.min_eq_left (Nat.le_of_lt hi),hi]
 exact (List.getElem?_eq_some_iff.1 this).2
theorem pF_set (f : Int) (H : List (List IT)) (i : Nat) (hi : i < H.length) : (pF f H i).set i (pruneH f H[i]) = pF f H (i + 1):=by
 have hl : ((H.take i).map (pruneH f)).length = i:=by simp;omega
 unfold pF
 rw [List.set_append,if_neg (by omega),hl,Nat.sub_self,drop_get hi,List.set_cons_zero,take_one H i hi,List.map_append,List.append_assoc]
 rfl

structure Cok (c : CH) (n : Nat) : Prop where
 len : (c.hist.length : Int) = c.count
 cnt : c.count≤256
 hg : HG n c.hist

theorem chunk_Apply_con (c : CH) (p : PU) (n : Nat) (hn : n≤100000) (hc : Cok c n) (ok : Pok p) (hp8 : byW p.ws) : Con Tryz.prog 73 [.agg (chC c),.agg (pushC p)] [] (.agg (chC (applyC c p))) []:=by
 obtain ⟨hc1,hc2,hc3⟩:=hc
 have cC:=chunk_copied_con c (by omega) (hc3.mono (by omega))
 have cP:=chunk_PushRight_con p ok
 obtain ⟨ok1,ok2⟩:=ok
 refine C_chunk_Apply nl nl ?_
 simp only [cz,A_chunk_Apply,argL,objL,List.length_nil,Nat.zero_add,zX]
 refine aS 16 (fun Q hQ=>by simp (disch:=intros;contradiction) only [zS,chC,chO,pushC,puC,simprocAttr];exact hQ) ?_
 refine aB 96 ?_
 refine RG.callo [] [] (cC) (.mk (by (repeat' (first | exact tr_nil | refine tr_cons ?_ ?_ | exact tr_agg (by repeat' (first | exact trivial | rfl | refine ⟨?_,?_⟩))))) (by trivial) (by simp) (by simp) (trivial) (by (simp [lkE_cons,lkE_nil];done)) (by (simp [Ent.pure];repeat' ((exact drows_hrow _)))) (by simp) (by simp)) ?_
 refine aEs (fun Q hQ=>by simp (disch:=intros;contradiction) only [zS,chO,simprocAttr];exact hQ) ?_
 refine aB 176 ?_
 refine rC [] (cP) ?_
 refine RG.go fun Q hQ=>?_
 simp (disch:=intros;contradiction) only [zS,simprocAttr]
 repeat refine ⟨by ((simp;done)),?_⟩
 refine hQ (RG.nil ?_)
 simp only [zX]
 refine aw_cond _ rfl trivial (fun ht=>?_) (fun hf=>?_)
 ·skip
  try simp at ht
  simp only [zX]
  have hno : applyC c p = c:=by
   unfold applyC
   rw [if_neg]
   intro h
   simp only [applyOk,Bool.and_eq_true,decide_eq_true_eq] at h
   simp [h] at ht
   omega
  rw [hno]
  refine aR 816 ?_
  refine Fin.data [112] (.inr rfl) rfl (by (exact ⟨trivial,trivial⟩)) ?_
  simp only [zL,simprocAttr]
  all_goals ((repeat' (first | exact trivial | rfl | (refine ⟨⟨_,_,rfl⟩,?_⟩;(exact drows_hrow _)) | refine ⟨?_,?_⟩)))
 try simp at hf
 simp only [zX]
 have hyes : applyOk c p = true:=by
  simp only [applyOk,Bool.and_eq_true,decide_eq_true_eq]
  simp [hf] <;> omega
 have hR : applyC c p = ⟨c.vol,c.chunk,c.count,c.size,max c.mark p.to,max c.floor p.floor,(p.ws.foldl (applyW c.mark) c.hist).map (pruneH (max c.floor p.floor))⟩:=by unfold applyC;rw [if_pos hyes]
 rw [hR]
 have hpr : pushR p = true:=by simp only [applyOk,Bool.and_eq_true] at hyes;exact hyes.1.1.1.1.1
 have hcnt : p.count = c.count:=by simp only [applyOk,Bool.and_eq_true,decide_eq_true_eq] at hyes;exact hyes.1.1.2
 obtain ⟨q1,q2,q3,q4,q5⟩:=pushR_facts hpr
 obtain ⟨HF,hHF⟩ : ∃ H,H = p.ws.foldl (applyW c.mark) c.hist:=⟨_,rfl⟩
 rw [← hHF]
 refine aS 880 (fun Q hQ=>by simp (disch:=intros;contradiction) only [zS,zW,simprocAttr];exact hQ) ?_
 refine aw_loopK (X:={ x : Nat × List (List IT) // x.1≤p.ws.length∧x.2.length = c.hist.length∧HG (n + x.1 * 8) x.2∧(p.ws.drop x.1).foldl (applyW c.mark) x.2 = HF }) [2,3,4,53,54] (fun x=>[(55,I x.1.1)]) [16,32,48] (fun x=>[(112,.arr 100 1 (x.1.2.map hrow) false)]) (fun x=>p.ws.length - x.1.1) (⟨(0,c.hist),by simp only;omega,rfl,hc3.mono (by simp only;omega),hHF.symm⟩) ?_ ?_
 ·skip
  simp only [keepS,keepE,Option.getD_some,lk_cons,lkE_cons,List.cons_append,List.nil_append,simprocAttr]
  refine Le.lit [] [] _ _ ?_ ?_ ?_ ?_
  ·simp only [zL,simprocAttr]
  ·simp only [zL,simprocAttr]
   all_goals (exact drows_hrow _;skip)
  ·simp [rlook]
  ·(simp;done)
 rintro ⟨⟨i,H⟩,hi,hHl,hHg,hHf⟩
 simp only [keepS,keepE,Option.getD_some,lk_cons,lkE_cons,List.cons_append,List.nil_append,simprocAttr]
 simp only [zX]
 simp only at hi hHl hHg hHf
 refine aR 976 ?_
 refine aw_cond _ rfl trivial (fun ht=>?_) (fun hf=>?_)
 ·skip
  try simp at ht
  simp only [zX]
  have hi' : i < p.ws.length:=by omega
  obtain ⟨w1,w2,w3⟩:=q5 _ (List.getElem_mem hi')
  have hw8:=hp8 _ (List.getElem_mem hi')
  have wit:=itemsR_mem w3
  have wln:=itemsR_len w3
  rw [drop_get hi',List.foldl_cons] at hHf
  obtain ⟨w,hww⟩ : ∃ w,p.ws[i] = w:=⟨_,rfl⟩
  rw [hww] at w1 w2 w3 hw8 wit wln hHf
  obtain ⟨HW,hHW⟩ : ∃ H',H' = applyW c.mark H w:=⟨_,rfl⟩
  rw [← hHW] at hHf
  unfold applyW at hHW
  refine aS 1024 (fun Q hQ=>by simp (disch:=first | (intros;contradiction) | omega | (simp only [zN];omega)) only [zS,zW,wrow,wrC,hww,simprocAttr];repeat refine ⟨by (omega),?_⟩;exact hQ) ?_
  refine aS 1120 (fun Q hQ=>by simp (disch:=intros;contradiction) only [zS,zW,simprocAttr];exact hQ) ?_
  refine aw_loopK (X:={ x : Nat × List (List IT) // x.1≤w.its.length∧x.2.length = c.hist.length∧HG (n + i * 8 + x.1) x.2∧(w.its.drop x.1).foldl (applyI c.mark w.s) x.2 = HW }) [2,3,4,6,53,54,55,60,61] (fun x=>[(62,I x.1.1)]) [16,32,48,1056] (fun x=>[(112,.arr 100 1 (x.1.2.map hrow) false)]) (fun x=>w.its.length - x.1.1) (⟨(0,H),by simp only;omega,hHl,hHg,hHW.symm⟩) ?_ ?_
  ·skip
   simp only [keepS,keepE,Option.getD_some,lk_cons,lkE_cons,List.cons_append,List.nil_append,simprocAttr]
   refine Le.lit [] [] _ _ ?_ ?_ ?_ ?_
   ·simp only [zL,simprocAttr]
   ·simp only [zL,simprocAttr]
    all_goals (exact drows_hrow _;skip)
   ·simp [rlook]
   ·(simp;done)
  rintro ⟨⟨k,J⟩,hk,hJl,hJg,hJf⟩
  simp only [keepS,keepE,Option.getD_some,lk_cons,lkE_cons,List.cons_append,List.nil_append,simprocAttr]
  simp only [zX]
  simp only at hk hJl hJg hJf
  refine aR 1216 ?_
  refine aw_cond _ rfl trivial (fun ht=>?_) (fun hf=>?_)
  ·skip
   try simp at ht
   simp only [zX]
   have hk' : k < w.its.length:=by omega
   obtain ⟨x1,x2,x3⟩:=wit _ (List.getElem_mem hk')
   have hx8:=hw8 _ (List.getElem_mem hk')
   rw [drop_get hk',List.foldl_cons] at hJf
   obtain ⟨x,hxx⟩ : ∃ x,w.its[k] = x:=⟨_,rfl⟩
   rw [hxx] at x1 x2 x3 hx8 hJf
   obtain ⟨b,hb⟩ : ∃ b : Nat,x.b = b:=⟨x.b.toNat,by omega⟩
   have hbl : b < J.length:=by omega
   obtain ⟨j1,j2,j3⟩:=hJg _ (List.getElem_mem hbl)
   refine aS 1264 (fun Q hQ=>by simp (disch:=first | (intros;contradiction) | omega | (simp only [zN];omega)) only [zS,zW,hxx,irow,itC,hb,simprocAttr];repeat refine ⟨by (omega),?_⟩;exact hQ) ?_
   refine aS 1360 (fun Q hQ=>by simp (disch:=intros;contradiction) only [zS,zW,simprocAttr];exact hQ) ?_
   refine aw_cond _ rfl trivial (fun ht=>?_) (fun hf=>?_)
   ·skip
    try simp at ht
    have hst2 : applyI c.mark w.s J x = J.set b (addH J[b] w.s x.d):=by
     unfold applyI;rw [if_pos (by omega),hb];simp [hbl]
    rw [hst2] at hJf
    have hset : (J.map hrow).set b [.sl ((addH J[b] w.s x.d).map irow)] = (J.set b (addH J[b] w.s x.d)).map hrow:=by rw [List.map_set];rfl
    refine aw_draw 1600 (RG.go fun Q hQ=>?_)
    simp (disch:=first | (intros;contradiction) | omega | (simp only [zN];omega)) only [zS,zW,hrow,simprocAttr]
    repeat refine ⟨by (omega),?_⟩
    refine hQ ?_
    refine rC [] (hist_Add_con J[b] w.s x.d (by omega) (fun y hy=>(j3 y hy).1) (by omega)) ?_
    refine RG.go fun Q hQ=>?_
    simp (disch:=first | (intros;contradiction) | omega | (simp only [zN];omega)) only [zS,zW,hrow,hset,simprocAttr]
    repeat refine ⟨by (omega),?_⟩
    refine hQ (RG.nil ⟨by decide +kernel,?_⟩)
    simp only [zX]
    refine aS 1904 (fun Q hQ=>by simp (disch:=first | (intros;contradiction) | omega | (simp only [zN];omega)) only [zS,zW,simprocAttr];exact hQ) ?_
    refine ⟨⟨(k + 1,J.set b (addH J[b] w.s x.d)),by simp only;omega,by simp only [List.length_set];exact hJl,HG.add (n:=n + i * 8 + k) hJg hbl (by omega) hx8,hJf⟩,?_,by first | omega | (simp only;omega)⟩
    refine Le.lit [] [] _ _ ?_ ?_ ?_ ?_
    ·simp only [zL,simprocAttr]
     all_goals (try ((repeat' (rfl))))
    ·simp only [zL,simprocAttr]
     all_goals (exact drows_hrow _;skip)
    ·simp [rlook]
    ·(simp;done)
   try simp at hf
   simp only [zX]
   have hst2 : applyI c.mark w.s J x = J:=by
    unfold applyI;rw [if_neg (by omega)]
   rw [hst2] at hJf
   refine aS 1968 (fun Q hQ=>by simp (disch:=first | (intros;contradiction) | omega | (simp only [zN];omega)) only [zS,zW,simprocAttr];exact hQ) ?_
   refine ⟨⟨(k + 1,J),by simp only;omega,hJl,hJg.mono (by simp only;omega),hJf⟩,?_,by first | omega | (simp only;omega)⟩
   refine Le.lit [] [] _ _ ?_ ?_ ?_ ?_
   ·simp only [zL,simprocAttr]
    all_goals (try ((repeat' (rfl))))
   ·simp only [zL,simprocAttr]
    all_goals (exact drows_hrow _;skip)
   ·simp [rlook]
   ·(simp;done)
  try simp at hf
  simp only [zX,↓reduceIte]
  obtain rfl : k = w.its.length:=by omega
  rw [List.drop_length] at hJf
  refine aS 2032 (fun Q hQ=>by simp (disch:=first | (intros;contradiction) | omega | (simp only [zN];omega)) only [zS,zW,simprocAttr];exact hQ) ?_
  refine ⟨⟨(i + 1,J),by simp only;omega,hJl,hJg.mono (by simp only;omega),by rw [show J = HW from hJf];exact hHf⟩,?_,by first | omega | (simp only;omega)⟩
  refine Le.lit [] [] _ _ ?_ ?_ ?_ ?_
  ·simp only [zL,simprocAttr]
   all_goals (try ((repeat' (rfl))))
  ·simp only [zL,simprocAttr]
   all_goals (exact drows_hrow _;skip)
  ·simp [rlook]
  ·(simp;done)
 try simp at hf
 simp only [zX,↓reduceIte]
 obtain rfl : i = p.ws.length:=by omega
 rw [List.drop_length] at hHf
 obtain rfl : H = HF:=hHf
 have hm1 : (if c.mark < p.to then p.to else c.mark) = max c.mark p.to:=by split <;> omega
 have hm2 : (if c.floor < p.floor then p.floor else c.floor) = max c.floor p.floor:=by split <;> omega
 generalize max c.mark p.to = mk at *
 generalize max c.floor p.floor = fl at *
 refine aSD 2096 (fun Q hQ=>by simp (disch:=intros;contradiction) only [zS,hm1,hm2,simprocAttr];exact hQ) ?_
 refine aS 2352 (fun Q hQ=>by simp (disch:=intros;contradiction) only [zS,zW,simprocAttr];exact hQ) ?_
 refine aw_loopK (X:={ i : Nat // i≤H.length }) [2,4,110,111] (fun i=>[(112,I i.1)]) [16,48] (fun i=>[(112,.arr 100 1 ((pF fl H i.1).map hrow) false)]) (fun i=>H.length - i.1) (⟨0,by omega⟩) ?_ ?_
 ·skip
  simp only [keepS,keepE,Option.getD_some,lk_cons,lkE_cons,List.cons_append,List.nil_append,simprocAttr]
  refine Le.lit [] [] _ _ ?_ ?_ ?_ ?_
  ·simp only [zL,simprocAttr]
  ·simp only [zL,simprocAttr]
   all_goals (rw [show pF fl H 0 = H by simp [pF]];exact ⟨rfl,drows_hrow _⟩;skip)
  ·simp [rlook]
  ·(simp;done)
 rintro ⟨i,hi⟩
 simp only [keepS,keepE,Option.getD_some,lk_cons,lkE_cons,List.cons_append,List.nil_append,simprocAttr]
 simp only [zX]
 refine aR 2448 ?_
 refine aw_cond _ rfl trivial (fun ht=>?_) (fun hf=>?_)
 ·skip
  try simp at ht
  simp only [zX]
  have hi' : i < H.length:=by omega
  have hpl:=pF_len fl H i hi
  have hpg:=pF_get fl H i hi' (by omega)
  have hps:=pF_set fl H i hi'
  have hset : ((pF fl H i).map hrow).set i [.sl ((pruneH fl H[i]).map irow)] = (pF fl H (i + 1)).map hrow:=by rw [← hps,List.map_set];rfl
  obtain ⟨g1,g2,g3⟩:=hHg _ (List.getElem_mem hi')
  refine aw_reg 2496 (RG.go fun Q hQ=>?_)
  simp (disch:=first | (intros;contradiction) | omega | (simp only [zN];omega)) only [zS,zW,hpl,hpg,hrow,simprocAttr]
  repeat refine ⟨by (omega),?_⟩
  refine hQ (RG.nil ?_)
  simp only [zX]
  refine aBD 2608 ?_
  refine rC [] (hist_Prune_con H[i] fl (by omega) (fun x hx=>(g3 x hx).1) (histR_rise g1)) ?_
  refine RG.go fun Q hQ=>?_
  simp (disch:=first | (intros;contradiction) | omega | (simp only [zN];omega)) only [zS,zW,hpl,hpg,hrow,hset,simprocAttr]
  repeat refine ⟨by (omega),?_⟩
  refine hQ (RG.nil ⟨by decide +kernel,?_⟩)
  simp only [zX]
  refine aS 2784 (fun Q hQ=>by simp (disch:=first | (intros;contradiction) | omega | (simp only [zN];omega)) only [zS,zW,simprocAttr];exact hQ) ?_
  refine ⟨⟨i + 1,hi'⟩,?_,by first | omega | (simp only;omega)⟩
  refine Le.lit [] [] _ _ ?_ ?_ ?_ ?_
  ·simp only [zL,simprocAttr]
   all_goals (try ((repeat' (rfl))))
  ·simp only [zL,simprocAttr]
   all_goals (exact drows_hrow _;skip)
  ·simp [rlook]
  ·(simp;done)
 try simp at hf
 simp only [zX,↓reduceIte]
 obtain rfl : i = H.length:=by omega
 have hpe : pF fl H H.length = H.map (pruneH fl):=by simp [pF]
 rw [hpe]
 refine aR 2848 ?_
 refine Fin.data [112] (.inr rfl) rfl (by (exact ⟨trivial,trivial⟩)) ?_
 simp only [zL,↓reduceIte]
 all_goals ((repeat' (first | exact trivial | rfl | (refine ⟨⟨_,_,rfl⟩,?_⟩;(exact drows_hrow _)) | refine ⟨?_,?_⟩)))

end Go.Abs

namespace Go.Abs
open Go Go.Proofs
set_option maxRecDepth 100000
set_option linter.unusedSimpArgs false
set_option maxHeartbeats 8000000

theorem mementoref13_Apply_con (c : CH) (p : PU) (n : Nat) (hn : n≤100000) (hc : Cok c n) (ok : Pok p) (hp8 : byW p.ws) : Con Tryz.prog 36 [.agg (chC c),.agg (pushC p)] [] (.agg (chC (applyC c p))) []:=by
 obtain ⟨hc1,hc2,hc3⟩:=hc
 have cP:=mementoref13_PushRight_con p ok
 obtain ⟨ok1,ok2⟩:=ok
 refine C_mementoref13_Apply nl nl ?_
 simp only [cz,A_mementoref13_Apply,argL,objL,List.length_nil,Nat.zero_add,zX]
 refine aS 16 (fun Q hQ=>by simp (disch:=intros;contradiction) only [zS,chC,chO,pushC,puC,simprocAttr];exact hQ) ?_
 refine aB 96 ?_
 refine rC [] (cP) ?_
 refine RG.go fun Q hQ=>?_
 simp (disch:=intros;contradiction) only [zS,simprocAttr]
 repeat refine ⟨by ((simp;done)),?_⟩
 refine hQ (RG.nil ?_)
 simp only [zX]
 refine aw_cond _ rfl trivial (fun ht=>?_) (fun hf=>?_)
 ·skip
  try simp at ht
  simp only [zX]
  have hno : applyC c p = c:=by
   unfold applyC
   rw [if_neg]
   intro h
   simp only [applyOk,Bool.and_eq_true,decide_eq_true_eq] at h
   simp [h] at ht
   omega
  rw [hno]
  refine aR 736 ?_
  refine Fin.data [] (.inr rfl) rfl (by (exact ⟨trivial,trivial⟩)) ?_
  simp only [zL]
  all_goals ((repeat' (first | exact trivial | rfl | refine ⟨?_,?_⟩)))
 try simp at hf
 simp only [zX]
 have hyes : applyOk c p = true:=by
  simp only [applyOk,Bool.and_eq_true,decide_eq_true_eq]
  simp [hf] <;> omega
 have hR : applyC c p = ⟨c.vol,c.chunk,c.count,c.size,max c.mark p.to,max c.floor p.floor,(p.ws.foldl (applyW c.mark) c.hist).map (pruneH (max c.floor p.floor))⟩:=by unfold applyC;rw [if_pos hyes]
 rw [hR]
 have hpr : pushR p = true:=by simp only [applyOk,Bool.and_eq_true] at hyes;exact hyes.1.1.1.1.1
 have hcnt : p.count = c.count:=by simp only [applyOk,Bool.and_eq_true,decide_eq_true_eq] at hyes;exact hyes.1.1.2
 obtain ⟨q1,q2,q3,q4,q5⟩:=pushR_facts hpr
 obtain ⟨HF,hHF⟩ : ∃ H,H = p.ws.foldl (applyW c.mark) c.hist:=⟨_,rfl⟩
 rw [← hHF]
 refine aS 800 (fun Q hQ=>by simp (disch:=intros;contradiction) only [zS,zW,simprocAttr];repeat refine ⟨by (exact ⟨by (intro q hq;obtain ⟨_,_,rfl⟩:=List.mem_map.1 hq;rfl),by omega⟩),?_⟩;exact hQ) ?_
 refine aR 896 ?_
 refine aw_loopK (X:={ x : Nat × List (List IT) // x.1≤p.ws.length∧x.2.length = c.hist.length∧HG (n + x.1 * 8) x.2∧(p.ws.drop x.1).foldl (applyW c.mark) x.2 = HF }) [2,3,4,5] (fun x=>[(6,I x.1.1)]) [16,32,48] (fun x=>[(832,.arr 100 1 (x.1.2.map hrow) false)]) (fun x=>p.ws.length - x.1.1) (⟨(0,c.hist),by simp only;omega,rfl,hc3.mono (by simp only;omega),hHF.symm⟩) ?_ ?_
 ·skip
  simp only [keepS,keepE,Option.getD_some,lk_cons,lkE_cons,List.cons_append,List.nil_append,simprocAttr]
  refine Le.lit [] [] _ _ ?_ ?_ ?_ ?_
  ·simp only [zL,simprocAttr]
  ·simp only [zL,simprocAttr]
   all_goals (exact drows_hrow _;skip)
  ·simp [rlook]
  ·(simp;done)
 rintro ⟨⟨i,H⟩,hi,hHl,hHg,hHf⟩
 simp only [keepS,keepE,Option.getD_some,lk_cons,lkE_cons,List.cons_append,List.nil_append,simprocAttr]
 simp only [zX]
 simp only at hi hHl hHg hHf
 refine aS 944 (fun Q hQ=>by simp (disch:=intros;contradiction) only [zS,zW,simprocAttr];exact hQ) ?_
 refine aw_cond _ rfl trivial (fun ht=>?_) (fun hf=>?_)
 ·skip
  try simp at ht
  simp only [zX]
  have hi' : i < p.ws.length:=by omega
  obtain ⟨w1,w2,w3⟩:=q5 _ (List.getElem_mem hi')
  have hw8:=hp8 _ (List.getElem_mem hi')
  have wit:=itemsR_mem w3
  have wln:=itemsR_len w3
  rw [drop_get hi',List.foldl_cons] at hHf
  obtain ⟨w,hww⟩ : ∃ w,p.ws[i] = w:=⟨_,rfl⟩
  rw [hww] at w1 w2 w3 hw8 wit wln hHf
  obtain ⟨HW,hHW⟩ : ∃ H',H' = applyW c.mark H w:=⟨_,rfl⟩
  rw [← hHW] at hHf
  unfold applyW at hHW
  refine aS 1056 (fun Q hQ=>by simp (disch:=first | (intros;contradiction) | omega | (simp only [zN];omega)) only [zS,zW,wrow,wrC,hww,simprocAttr];repeat refine ⟨by (omega),?_⟩;exact hQ) ?_
  refine aR 1200 ?_
  refine aw_loopK (X:={ x : Nat × List (List IT) // x.1≤w.its.length∧x.2.length = c.hist.length∧HG (n + i * 8 + x.1) x.2∧(w.its.drop x.1).foldl (applyI c.mark w.s) x.2 = HW }) [2,3,4,5,6,7] (fun x=>[(8,I x.1.1)]) [16,32,48,1136] (fun x=>[(832,.arr 100 1 (x.1.2.map hrow) false)]) (fun x=>w.its.length - x.1.1) (⟨(0,H),by simp only;omega,hHl,hHg,hHW.symm⟩) ?_ ?_
  ·skip
   simp only [keepS,keepE,Option.getD_some,lk_cons,lkE_cons,List.cons_append,List.nil_append,simprocAttr]
   refine Le.lit [] [] _ _ ?_ ?_ ?_ ?_
   ·simp only [zL,simprocAttr]
   ·simp only [zL,simprocAttr]
    all_goals (exact drows_hrow _;skip)
   ·simp [rlook]
   ·(simp;done)
  rintro ⟨⟨k,J⟩,hk,hJl,hJg,hJf⟩
  simp only [keepS,keepE,Option.getD_some,lk_cons,lkE_cons,List.cons_append,List.nil_append,simprocAttr]
  simp only [zX]
  simp only at hk hJl hJg hJf
  refine aS 1248 (fun Q hQ=>by simp (disch:=intros;contradiction) only [zS,zW,simprocAttr];exact hQ) ?_
  refine aw_cond _ rfl trivial (fun ht=>?_) (fun hf=>?_)
  ·skip
   try simp at ht
   simp only [zX]
   have hk' : k < w.its.length:=by omega
   obtain ⟨x1,x2,x3⟩:=wit _ (List.getElem_mem hk')
   have hx8:=hw8 _ (List.getElem_mem hk')
   rw [drop_get hk',List.foldl_cons] at hJf
   obtain ⟨x,hxx⟩ : ∃ x,w.its[k] = x:=⟨_,rfl⟩
   rw [hxx] at x1 x2 x3 hx8 hJf
   obtain ⟨b,hb⟩ : ∃ b : Nat,x.b = b:=⟨x.b.toNat,by omega⟩
   have hbl : b < J.length:=by omega
   obtain ⟨j1,j2,j3⟩:=hJg _ (List.getElem_mem hbl)
   have hst2 : applyI c.mark w.s J x = J.set b (addH J[b] w.s x.d):=by
    unfold applyI;rw [if_pos (by omega),hb];simp [hbl]
   rw [hst2] at hJf
   have hset : (J.map hrow).set b [.sl ((addH J[b] w.s x.d).map irow)] = (J.set b (addH J[b] w.s x.d)).map hrow:=by rw [List.map_set];rfl
   refine aS 1472 (fun Q hQ=>by simp (disch:=first | (intros;contradiction) | omega | (simp only [zN];omega)) only [zS,zW,hxx,irow,itC,hb,simprocAttr];repeat refine ⟨by (omega),?_⟩;exact hQ) ?_
   refine aw_draw 1616 (RG.go fun Q hQ=>?_)
   simp (disch:=first | (intros;contradiction) | omega | (simp only [zN];omega)) only [zS,zW,hxx,irow,itC,hb,hrow,simprocAttr]
   repeat refine ⟨by (omega),?_⟩
   refine hQ ?_
   refine rC [] (mementoref13_Add_con J[b] w.s x.d (by omega) (by omega)) ?_
   refine RG.go fun Q hQ=>?_
   simp (disch:=first | (intros;contradiction) | omega | (simp only [zN];omega)) only [zS,zW,hrow,hset,simprocAttr]
   repeat refine ⟨by (omega),?_⟩
   refine hQ (RG.nil ⟨by decide +kernel,?_⟩)
   simp only [zX]
   refine aS 1920 (fun Q hQ=>by simp (disch:=first | (intros;contradiction) | omega | (simp only [zN];omega)) only [zS,zW,simprocAttr];exact hQ) ?_
   refine ⟨⟨(k + 1,J.set b (addH J[b] w.s x.d)),by simp only;omega,by simp only [List.length_set];exact hJl,HG.add (n:=n + i * 8 + k) hJg hbl (by omega) hx8,hJf⟩,?_,by first | omega | (simp only;omega)⟩
   refine Le.lit [] [] _ _ ?_ ?_ ?_ ?_
   ·simp only [zL,simprocAttr]
    all_goals (try ((repeat' (rfl))))
   ·simp only [zL,simprocAttr]
    all_goals (exact drows_hrow _;skip)
   ·simp [rlook]
   ·(simp;done)
  try simp at hf
  simp only [zX,↓reduceIte]
  have hJf : J = HW:=by
   by_cases hkl : k = w.its.length
   ·rw [hkl,List.drop_length] at hJf;exact hJf
   ·rw [applyI_no (by omega)] at hJf;exact hJf
  refine aS 2000 (fun Q hQ=>by simp (disch:=first | (intros;contradiction) | omega | (simp only [zN];omega)) only [zS,zW,simprocAttr];exact hQ) ?_
  refine ⟨⟨(i + 1,J),by simp only;omega,hJl,hJg.mono (by simp only;omega),by rw [show J = HW from hJf];exact hHf⟩,?_,by first | omega | (simp only;omega)⟩
  refine Le.lit [] [] _ _ ?_ ?_ ?_ ?_
  ·simp only [zL,simprocAttr]
   all_goals (try ((repeat' (rfl))))
  ·simp only [zL,simprocAttr]
   all_goals (exact drows_hrow _;skip)
  ·simp [rlook]
  ·(simp;done)
 try simp at hf
 simp only [zX,↓reduceIte]
 obtain rfl : i = p.ws.length:=by omega
 rw [List.drop_length] at hHf
 obtain rfl : H = HF:=hHf
 have hm1 : (if c.mark < p.to then p.to else c.mark) = max c.mark p.to:=by split <;> omega
 have hm2 : (if c.floor < p.floor then p.floor else c.floor) = max c.floor p.floor:=by split <;> omega
 generalize max c.mark p.to = mk at *
 generalize max c.floor p.floor = fl at *
 refine aSD 2080 (fun Q hQ=>by simp (disch:=intros;contradiction) only [zS,hm1,hm2,simprocAttr];exact hQ) ?_
 refine aR 2336 ?_
 refine aw_loopK (X:={ i : Nat // i≤H.length }) [2,4,5] (fun i=>[(10,I i.1)]) [16,48] (fun i=>[(832,.arr 100 1 ((pF fl H i.1).map hrow) false)]) (fun i=>H.length - i.1) (⟨0,by omega⟩) ?_ ?_
 ·skip
  simp only [keepS,keepE,Option.getD_some,lk_cons,lkE_cons,List.cons_append,List.nil_append,simprocAttr]
  refine Le.lit [] [] _ _ ?_ ?_ ?_ ?_
  ·simp only [zL,simprocAttr]
  ·simp only [zL,simprocAttr]
   all_goals (rw [show pF fl H 0 = H by simp [pF]];exact ⟨rfl,drows_hrow _⟩;skip)
  ·simp [rlook]
  ·(simp;done)
 rintro ⟨i,hi⟩
 simp only [keepS,keepE,Option.getD_some,lk_cons,lkE_cons,List.cons_append,List.nil_append,simprocAttr]
 simp only [zX]
 have hpl:=pF_len fl H i hi
 refine aS 2384 (fun Q hQ=>by simp (disch:=intros;contradiction) only [zS,zW,hpl,simprocAttr];exact hQ) ?_
 refine aw_cond _ rfl trivial (fun ht=>?_) (fun hf=>?_)
 ·skip
  try simp at ht
  simp only [zX]
  have hi' : i < H.length:=by omega
  have hpg:=pF_get fl H i hi' (by omega)
  have hps:=pF_set fl H i hi'
  have hset : ((pF fl H i).map hrow).set i [.sl ((pruneH fl H[i]).map irow)] = (pF fl H (i + 1)).map hrow:=by rw [← hps,List.map_set];rfl
  obtain ⟨g1,g2,g3⟩:=hHg _ (List.getElem_mem hi')
  refine aw_draw 2480 (RG.go fun Q hQ=>?_)
  simp (disch:=first | (intros;contradiction) | omega | (simp only [zN];omega)) only [zS,zW,hpl,hpg,hrow,simprocAttr]
  repeat refine ⟨by (omega),?_⟩
  refine hQ ?_
  refine rC [] (mementoref13_Prune_con H[i] fl (by omega) (histR_rise g1)) ?_
  refine RG.go fun Q hQ=>?_
  simp (disch:=first | (intros;contradiction) | omega | (simp only [zN];omega)) only [zS,zW,hpl,hpg,hrow,hset,simprocAttr]
  repeat refine ⟨by (omega),?_⟩
  refine hQ (RG.nil ⟨by decide +kernel,?_⟩)
  simp only [zX]
  refine aS 2688 (fun Q hQ=>by simp (disch:=first | (intros;contradiction) | omega | (simp only [zN];omega)) only [zS,zW,simprocAttr];exact hQ) ?_
  refine ⟨⟨i + 1,hi'⟩,?_,by first | omega | (simp only;omega)⟩
  refine Le.lit [] [] _ _ ?_ ?_ ?_ ?_
  ·simp only [zL,simprocAttr]
   all_goals (try ((repeat' (rfl))))
  ·simp only [zL,simprocAttr]
   all_goals (exact drows_hrow _;skip)
  ·simp [rlook]
  ·(simp;done)
 try simp at hf
 simp only [zX,↓reduceIte]
 obtain rfl : i = H.length:=by omega
 have hpe : pF fl H H.length = H.map (pruneH fl):=by simp [pF]
 rw [hpe]
 refine aR 2768 ?_
 refine aR 2848 ?_
 refine Fin.data [832] (.inr rfl) rfl (by (exact ⟨trivial,trivial⟩)) ?_
 simp only [zL,↓reduceIte]
 all_goals ((repeat' (first | exact trivial | rfl | (refine ⟨⟨_,_,rfl⟩,?_⟩;(exact drows_hrow _)) | refine ⟨?_,?_⟩)))

end Go.Abs

namespace Go.Abs
open Go Go.Proofs
set_option maxRecDepth 100000
set_option linter.unusedSimpArgs false
set_option maxHeartbeats 8000000

def Cin (c : CH) : Prop:=c.hist.length≤1000000∧∀ h ∈ c.hist,h.length≤1000000∧∀ x ∈ h,x.d.length≤1000000

theorem all_bad {α : Type} {p : α→Bool} {l : List α} {i : Nat} (hi : i < l.length) (h : p l[i] = false) : l.all p = false:=by
 rw [Bool.eq_false_iff];intro hh
 rw [List.all_eq_true.1 hh _ (List.getElem_mem hi)] at h;cases h

def newC (p : PU) : CH:=⟨p.vol,p.chunk,p.count,p.size,0,0,List.replicate (min (max p.count 0) 256).toNat []⟩
theorem tell_nils {σ : Nat→Option Ent} (n : Nat) : TrL (TrL (TellC σ)) ((List.replicate n ([] : List IT)).map hrow) (List.replicate n [.v (.slice none 0 0)]) :=
 TrL.of (by simp) fun i x y h1 h2=>by
  rw [List.map_replicate] at h1
  have hx:=List.eq_of_mem_replicate (List.mem_of_getElem? h1)
  have hy:=List.eq_of_mem_replicate (List.mem_of_getElem? h2)
  subst hx;subst hy
  exact ⟨.inr (.inl ⟨rfl,rfl⟩),trivial⟩

theorem mementoref13_New_con (p : PU) : Con Tryz.prog 35 [.agg (pushC p)] [] (.agg (chC (newC p))) []:=by
 unfold newC
 obtain ⟨k,hk⟩ : ∃ k,k = (min (max p.count 0) 256).toNat:=⟨_,rfl⟩
 have hm : (if (256 : Int) < (if p.count < 0 then 0 else p.count) then 256 else (if p.count < 0 then 0 else p.count)) = (k : Int):=by split <;> split <;> omega
 have hk2 : k≤256:=by omega
 rw [← hk]
 refine C_mementoref13_New nl nl ?_
 simp only [cz,A_mementoref13_New,argL,objL,List.length_nil,zX]
 refine aS 16 (fun Q hQ=>by simp (disch:=intros;contradiction) only [zS,pushC,puC,simprocAttr];exact hQ) ?_
 refine aSD 80 (fun Q hQ=>by simp (disch:=intros;contradiction) only [zS,zW,hm,simprocAttr];repeat refine ⟨by (omega),?_⟩;exact hQ) ?_
 refine FinQ.le (Le.tell [] 272 100 1 _ ((List.replicate k ([] : List IT)).map hrow) false rfl (tell_nils k)) ?_
 refine Fin.data [272] (.inr rfl) rfl (by (exact ⟨trivial,trivial⟩)) ?_
 simp only [zL,simprocAttr]
 all_goals ((repeat' (first | exact trivial | rfl | (refine ⟨⟨_,_,rfl⟩,?_⟩;(exact drows_hrow _)) | refine ⟨?_,?_⟩)))

theorem mementoref13_SameHist_con (a b : List IT) (ha : a.length≤1000000) (hda : byI a) (hdb : byI b) : Con Tryz.prog 74 [.c (.sl (a.map irow)),.c (.sl (b.map irow))] [] (B (decide (a = b))) []:=by
 refine C_mementoref13_SameHist nl nl ?_
 simp only [cz,A_mementoref13_SameHist,argL,objL,List.length_nil,Nat.zero_add,zX]
 refine aR 16 ?_
 refine aS 64 (fun Q hQ=>by simp (disch:=intros;contradiction) only [zS,zW,simprocAttr];exact hQ) ?_
 refine aw_cond _ rfl trivial (fun ht=>?_) (fun hf=>?_)
 ·skip
  try simp at ht
  simp only [zX]
  refine aR 176 ?_
  refine Fin.b (.inr rfl) rfl trivial ?_
  rw [eq_comm,decide_eq_false_iff_not];rintro rfl;exact ht rfl
 try simp at hf
 simp only [zX]
 refine aR 224 ?_
 refine aw_loopK (X:={ i : Nat // i≤a.length∧a.take i = b.take i }) [0,1] (fun i=>[(5,I i.1)]) [] (fun i=>[]) (fun i=>a.length - i.1) (⟨0,by omega,rfl⟩) ?_ ?_
 ·skip
  simp only [keepS,keepE,lk_cons,List.cons_append,List.nil_append,simprocAttr]
  refine Le.lit [] [] _ _ ?_ ?_ ?_ ?_
  ·simp only [zL,simprocAttr]
  ·simp only [zL,simprocAttr]
  ·simp [rlook]
  ·(simp;done)
 rintro ⟨i,hi,he⟩
 simp only [keepS,keepE,lk_cons,List.cons_append,List.nil_append,simprocAttr]
 simp only [zX]
 refine aS 272 (fun Q hQ=>by simp (disch:=intros;contradiction) only [zS,zW,simprocAttr];exact hQ) ?_
 refine aw_cond _ rfl trivial (fun ht=>?_) (fun hf=>?_)
 ·skip
  try simp at ht
  simp only [zX]
  have h1 : i < a.length:=by omega
  have h2 : i < b.length:=by omega
  have hs:=str_eq a[i].d b[i].d (hda _ (List.getElem_mem h1)) (hdb _ (List.getElem_mem h2))
  refine aw_draw 368 (RG.go fun Q hQ=>?_)
  simp (disch:=first | (intros;contradiction) | omega | (simp only [zN];omega)) only [zS,zW,irow,itC,hs,simprocAttr]
  repeat refine ⟨by (first | omega | exact fun h=>⟨isByteRow_brow _,h⟩ | (simp;omega) | (simp;done)),?_⟩
  refine hQ (RG.nil ⟨by decide +kernel,?_⟩)
  simp only [zX]
  refine aw_cond _ rfl trivial (fun ht=>?_) (fun hf=>?_)
  ·skip
   try simp at ht
   simp only [zX]
   refine aR 816 ?_
   refine Fin.b (.inr rfl) rfl trivial ?_
   rw [eq_comm,decide_eq_false_iff_not]
   refine neq_of_take h1 h2 fun e=>?_
   rw [e] at ht;simp at ht
  try simp at hf
  simp only [zX]
  refine aS 864 (fun Q hQ=>by simp (disch:=first | (intros;contradiction) | omega | (simp only [zN];omega)) only [zS,zW,simprocAttr];exact hQ) ?_
  refine ⟨⟨i + 1,by omega,take_next h1 h2 he (it_eq.2 hf)⟩,?_,by first | omega | (simp only;omega)⟩
  refine Le.lit [] [] _ _ ?_ ?_ ?_ ?_
  ·simp only [zL,simprocAttr]
   all_goals (try ((repeat' (rfl))))
  ·simp only [zL,simprocAttr]
  ·simp [rlook]
  ·(simp;done)
 try simp at hf
 simp only [zX,↓reduceIte]
 have hi' : i = a.length:=by omega
 refine aw_reg 944 (RG.go fun Q hQ=>?_)
 simp (disch:=intros;contradiction) only [zS,simprocAttr]
 refine hQ (RG.nil ?_)
 simp only [zX]
 refine Fin.b (.inr rfl) rfl trivial ?_
 rw [eq_comm,decide_eq_true_iff]
 rw [List.take_of_length_le (by omega),List.take_of_length_le (by omega)] at he
 exact he

def byH (H : List (List IT)) : Prop:=∀ h ∈ H,byI h
theorem mementoref13_Same_con (a b : CH) (ha : Cin a) (h1 : byH a.hist) (h2 : byH b.hist) : Con Tryz.prog 46 [.agg (chC a),.agg (chC b)] [] (B (decide (a = b))) []:=by
 obtain ⟨a1,a2⟩:=ha
 refine C_mementoref13_Same nl nl ?_
 simp only [cz,A_mementoref13_Same,argL,objL,List.length_nil,Nat.zero_add,zX]
 refine aS 16 (fun Q hQ=>by simp (disch:=intros;contradiction) only [zS,chC,chO,simprocAttr];exact hQ) ?_
 refine aw_reg 96 (RG.go fun Q hQ=>?_)
 simp (disch:=intros;contradiction) only [zS,zW,simprocAttr]
 repeat refine ⟨by ((simp;done)),?_⟩
 refine hQ (RG.nil ?_)
 simp only [zX]
 refine aw_cond _ rfl trivial (fun ht=>?_) (fun hf=>?_)
 ·skip
  try simp at ht
  simp only [zX]
  refine aR 912 ?_
  refine Fin.b (.inr rfl) rfl trivial ?_
  rw [eq_comm,decide_eq_false_iff_not];rintro rfl;simp at ht
 try simp at hf
 simp only [zX]
 have hf0:=hf
 refine aR 960 ?_
 refine aw_loopK (X:={ i : Nat // i≤a.hist.length∧a.hist.take i = b.hist.take i }) [2,3] (fun i=>[(5,I i.1)]) [16,32] (fun i=>[]) (fun i=>a.hist.length - i.1) (⟨0,by omega,rfl⟩) ?_ ?_
 ·skip
  simp only [keepS,keepE,Option.getD_some,lk_cons,lkE_cons,List.cons_append,List.nil_append,simprocAttr]
  refine Le.lit [] [] _ _ ?_ ?_ ?_ ?_
  ·simp only [zL,simprocAttr]
  ·simp only [zL,simprocAttr]
  ·simp [rlook]
  ·(simp;done)
 rintro ⟨i,hi,he⟩
 simp only [keepS,keepE,Option.getD_some,lk_cons,lkE_cons,List.cons_append,List.nil_append,simprocAttr]
 simp only [zX]
 refine aS 1008 (fun Q hQ=>by simp (disch:=intros;contradiction) only [zS,zW,simprocAttr];exact hQ) ?_
 refine aw_cond _ rfl trivial (fun ht=>?_) (fun hf=>?_)
 ·skip
  try simp at ht
  simp only [zX]
  have k1 : i < a.hist.length:=by omega
  have k2 : i < b.hist.length:=by omega
  have cH:=mementoref13_SameHist_con a.hist[i] b.hist[i] (a2 _ (List.getElem_mem k1)).1 (h1 _ (List.getElem_mem k1)) (h2 _ (List.getElem_mem k2))
  refine aw_draw 1120 (RG.go fun Q hQ=>?_)
  simp (disch:=first | (intros;contradiction) | omega | (simp only [zN];omega)) only [zS,zW,hrow,simprocAttr]
  repeat refine ⟨by (omega),?_⟩
  refine hQ ?_
  refine rC [] (cH) ?_
  refine aED ?_
  refine aw_cond _ rfl trivial (fun ht=>?_) (fun hf=>?_)
  ·skip
   try simp at ht
   simp only [zX]
   refine aR 1344 ?_
   refine Fin.b (.inr rfl) rfl trivial ?_
   rw [eq_comm,decide_eq_false_iff_not]
   rintro rfl;exact ht rfl
  try simp at hf
  simp only [zX]
  refine aS 1392 (fun Q hQ=>by simp (disch:=first | (intros;contradiction) | omega | (simp only [zN];omega)) only [zS,zW,simprocAttr];exact hQ) ?_
  refine ⟨⟨i + 1,by omega,take_next k1 k2 he hf⟩,?_,by first | omega | (simp only;omega)⟩
  refine Le.lit [] [] _ _ ?_ ?_ ?_ ?_
  ·simp only [zL,simprocAttr]
   all_goals (try ((repeat' (rfl))))
  ·simp only [zL,simprocAttr]
  ·simp [rlook]
  ·(simp;done)
 try simp at hf
 simp only [zX,↓reduceIte]
 have hi' : i = a.hist.length:=by omega
 refine aR 1472 ?_
 refine Fin.b (.inr rfl) rfl trivial ?_
 rw [eq_comm,decide_eq_true_iff,ch_eq]
 rw [List.take_of_length_le (by omega),List.take_of_length_le (by omega)] at he
 refine ⟨?_,?_,?_,?_,?_,?_,he⟩ <;> omega

def chgF (H : List (List IT)) (f t : Int) (i : Nat) : List Int:=((List.range i).filter fun i=>chgH f t (H.getD i [])).map fun i : Nat=>(i : Int)
theorem chgF_succ (H : List (List IT)) (f t : Int) (i : Nat) : chgF H f t (i + 1) = if chgH f t (H.getD i []) = true then chgF H f t i ++ [(i : Int)] else chgF H f t i:=by
 unfold chgF
 rw [List.range_succ,List.filter_append]
 split
 ·rename_i h;simp at h;simp [h]
 ·rename_i h;simp at h;simp [h]
theorem chgF_len (H : List (List IT)) (f t : Int) (i : Nat) : (chgF H f t i).length≤i:=by
 unfold chgF;simp only [List.length_map];exact Nat.le_trans (List.length_filter_le ..) (by simp)
theorem chunk_Changed_con (c : CH) (f t : Int) (ok : Cin c) (hr : ∀ h ∈ c.hist,rise h) : Con Tryz.prog 42 [.agg (chC c),I f,I t] [] (.c (.sl ((chgF c.hist f t c.hist.length).map nrow))) []:=by
 obtain ⟨a1,a2⟩:=ok
 refine C_chunk_Changed nl nl ?_
 simp only [cz,A_chunk_Changed,argL,objL,List.length_nil,Nat.zero_add,zX,simprocAttr]
 refine aS 16 (fun Q hQ=>by simp (disch:=intros;contradiction) only [zS,chC,chO,simprocAttr];exact hQ) ?_
 refine aR 80 ?_
 refine aS 128 (fun Q hQ=>by simp (disch:=intros;contradiction) only [zS,zW,simprocAttr];exact hQ) ?_
 refine aw_loopK (X:={ i : Nat // i≤c.hist.length }) [1,2,11,12] (fun i=>[(7,.c (.osl 5000)),(13,I i.1)]) [] (fun i=>[(5000,.arr 3 1 ((chgF c.hist f t i.1).map nrow) false)]) (fun i=>c.hist.length - i.1) (⟨0,by omega⟩) ?_ ?_
 ·skip
  simp only [keepS,keepE,lk_cons,List.cons_append,List.nil_append,simprocAttr]
  refine (Le.own 7 5000 3 1 rfl rfl (by decide)).trans ?_
  simp only [setS_cons,setE_cons,setE_nil,simprocAttr]
  refine Le.lit [] [] _ _ ?_ ?_ ?_ ?_
  ·simp only [zL,simprocAttr]
  ·simp only [zL,simprocAttr]
   all_goals (try ((repeat' (first | (exact drows_nrow _) | rfl | refine ⟨?_,?_⟩))))
  ·simp [rlook]
  ·(simp;done)
 rintro ⟨i,hi⟩
 simp only [keepS,keepE,lk_cons,List.cons_append,List.nil_append,simprocAttr]
 simp only [zX]
 refine aR 224 ?_
 refine aw_cond _ rfl trivial (fun ht=>?_) (fun hf=>?_)
 ·skip
  try simp at ht
  simp only [zX]
  have hi' : i < c.hist.length:=by omega
  have hlen:=chgF_len c.hist f t i
  have hsucc:=chgF_succ c.hist f t i
  have hgd : c.hist.getD i [] = c.hist[i]:=by simp [hi']
  rw [hgd] at hsucc
  refine aS 272 (fun Q hQ=>by simp (disch:=first | (intros;contradiction) | omega | (simp only [zN];omega)) only [zS,zW,hrow,simprocAttr];repeat refine ⟨by (omega),?_⟩;exact hQ) ?_
  refine aB 384 ?_
  refine rC [] (hist_Changed_con c.hist[i] f t (a2 _ (List.getElem_mem hi')).1 (hr _ (List.getElem_mem hi'))) ?_
  refine aE ?_
  refine aw_cond _ rfl trivial (fun ht=>?_) (fun hf=>?_)
  ·skip
   try simp at ht
   rw [if_pos ht] at hsucc
   have e2 : (chgF c.hist f t i).map nrow ++ [[.v (.int .i64 i)]] = (chgF c.hist f t (i + 1)).map nrow:=by rw [hsucc,List.map_append];rfl
   refine aS 480 (fun Q hQ=>by simp (disch:=intros;contradiction) only [zS,zW,e2,simprocAttr];repeat refine ⟨by ((simp;omega)),?_⟩;exact hQ) ?_
   refine aS 592 (fun Q hQ=>by simp (disch:=first | (intros;contradiction) | omega | (simp only [zN];omega)) only [zS,zW,simprocAttr];exact hQ) ?_
   refine ⟨⟨i + 1,hi'⟩,?_,by first | omega | (simp only;omega)⟩
   refine Le.lit [] [(5000,528)] _ _ ?_ ?_ ?_ ?_
   ·simp only [zL,simprocAttr]
    all_goals (try ((repeat' (rfl))))
   ·simp only [zL,simprocAttr]
    all_goals (exact drows_nrow _;skip)
   ·simp [rlook]
   ·(simp;done)
  try simp at hf
  simp only [zX]
  rw [if_neg (by simp [hf])] at hsucc
  refine aS 656 (fun Q hQ=>by simp (disch:=first | (intros;contradiction) | omega | (simp only [zN];omega)) only [zS,zW,simprocAttr];exact hQ) ?_
  refine ⟨⟨i + 1,hi'⟩,?_,by first | omega | (simp only;omega)⟩
  refine Le.lit [] [] _ _ ?_ ?_ ?_ ?_
  ·simp only [zL,simprocAttr]
   all_goals (try ((repeat' (rfl))))
  ·simp only [zL,simprocAttr]
   all_goals (rw [hsucc];(repeat' (first | (first | exact drows_nrow _ | (simp [C.isD];done)) | refine ⟨?_,?_⟩)))
  ·simp [rlook]
  ·(simp;done)
 try simp at hf
 simp only [zX,↓reduceIte]
 obtain rfl : i = c.hist.length:=by omega
 refine aw_reg 720 (RG.go fun Q hQ=>?_)
 simp (disch:=intros;contradiction) only [zS,simprocAttr]
 refine hQ (RG.nil ?_)
 simp only [zX]
 refine Fin.data [5000] (.inr rfl) rfl (by (exact trivial)) ?_
 simp only [zL,simprocAttr]
 all_goals (exact ⟨⟨_,_,rfl⟩,drows_nrow _⟩)

def rdC (c : CH) (b : Int) (t : Int) : List Nat × Int :=
 if b < 0∨c.count≤b∨(c.hist.length : Int)≤b then ([],28) else if t < c.floor then ([],30) else if c.mark < t then ([],32) else (atF c.size.toNat t (c.hist.getD b.toNat []),0)

theorem chunk_Read_con (c : CH) (b t : Int) (ok : Cin c) (hr : ∀ h ∈ c.hist,rise h) (hs : 1≤c.size∧c.size≤32) : Con Tryz.prog 68 [.agg (chC c),I b,I t] [] (.tup [.c (.sl ((rdC c b t).1.map brow)),I (rdC c b t).2]) []:=by
 obtain ⟨a1,a2⟩:=ok
 refine C_chunk_Read nl nl ?_
 simp only [cz,A_chunk_Read,argL,objL,List.length_nil,Nat.zero_add,zX,simprocAttr]
 refine aS 16 (fun Q hQ=>by simp (disch:=intros;contradiction) only [zS,chC,chO,simprocAttr];exact hQ) ?_
 refine aw_reg 96 (RG.go fun Q hQ=>?_)
 simp (disch:=intros;contradiction) only [zS,zW,simprocAttr]
 repeat refine ⟨by ((simp;done)),?_⟩
 refine hQ (RG.nil ?_)
 simp only [zX]
 refine aw_cond _ rfl trivial (fun ht=>?_) (fun hf=>?_)
 ·skip
  try simp at ht
  simp only [zX]
  have h : rdC c b t = ([],28):=by unfold rdC;rw [if_pos (by omega)]
  rw [h]
  refine aR 384 ?_
  refine Fin.data [] (.inr rfl) rfl (by (exact trivial)) ?_
  simp only [zL,simprocAttr]
  all_goals (simp)
 try simp at hf
 simp only [zX]
 refine aR 448 ?_
 refine aw_cond _ rfl trivial (fun ht=>?_) (fun hf=>?_)
 ·skip
  try simp at ht
  simp only [zX]
  have h : rdC c b t = ([],30):=by unfold rdC;rw [if_neg (by omega),if_pos (by omega)]
  rw [h]
  refine aR 560 ?_
  refine Fin.data [] (.inr rfl) rfl (by (exact trivial)) ?_
  simp only [zL,simprocAttr]
  all_goals (simp)
 try simp at hf
 simp only [zX]
 refine aR 624 ?_
 refine aw_cond _ rfl trivial (fun ht=>?_) (fun hf=>?_)
 ·skip
  try simp at ht
  simp only [zX]
  have h : rdC c b t = ([],32):=by unfold rdC;rw [if_neg (by omega),if_neg (by omega),if_pos (by omega)]
  rw [h]
  refine aR 736 ?_
  refine Fin.data [] (.inr rfl) rfl (by (exact trivial)) ?_
  simp only [zL,simprocAttr]
  all_goals (simp)
 try simp at hf
 simp only [zX]
 obtain ⟨k,hk⟩ : ∃ k : Nat,b = k:=⟨b.toNat,by omega⟩
 subst hk
 have hkl : k < c.hist.length:=by omega
 have h : rdC c k t = (atF c.size.toNat t c.hist[k],0):=by unfold rdC;rw [if_neg (by omega),if_neg (by omega),if_neg (by omega)];simp [hkl]
 rw [h]
 obtain ⟨g1,g2⟩:=a2 _ (List.getElem_mem hkl)
 obtain ⟨l,hll⟩ : ∃ l,c.hist[k] = l:=⟨_,rfl⟩
 rw [hll] at g1 g2 ⊢
 have cA:=hist_At_con l t g1 (hr l (by rw [← hll];exact List.getElem_mem hkl)) g2
 obtain ⟨s,hss⟩ : ∃ s : Nat,c.size = s:=⟨c.size.toNat,by omega⟩
 have hat : atF s t l = if 0 < behN t l then (l.take (behN t l)).getLast?.elim [] (·.d) else List.replicate s 0:=rfl
 rw [hss,Int.toNat_natCast]
 generalize (l.take (behN t l)).getLast?.elim [] (·.d) = d at cA hat
 refine aBs 800 (fun Q hQ=>by simp (disch:=first | (intros;contradiction) | omega | (simp only [zN];omega)) only [zS,zW,hrow,hll,simprocAttr];repeat refine ⟨by (omega),?_⟩;exact hQ) ?_
 refine rC [] (cA) ?_ (hs:=(by exact .inr ⟨pureTC,trivial⟩))
 refine aE ?_
 refine aR 1024 ?_
 refine aw_cond _ rfl trivial (fun ht=>?_) (fun hf=>?_)
 ·skip
  try simp at ht
  simp only [zX]
  rw [hat,if_pos (by simpa using ht)]
  refine aR 1072 ?_
  refine Fin.data [] (.inr rfl) rfl (by (exact trivial)) ?_
  simp only [zL,simprocAttr]
  all_goals (simp)
 try simp at hf
 simp only [zX]
 rw [hat,if_neg (by simpa using hf)]
 have hsz : (if (32 : Int) < (if (s : Int) < 0 then 0 else (s : Int)) then 32 else (if (s : Int) < 0 then 0 else (s : Int))) = s:=by split <;> split <;> omega
 have hz : List.replicate s [C.v (.int .u8 0)] = (List.replicate s 0).map brow:=by simp [brow]
 refine aS 1152 (fun Q hQ=>by simp (disch:=intros;contradiction) only [zS,zW,hsz,hz,simprocAttr];repeat refine ⟨by (omega),?_⟩;exact hQ) ?_
 refine Fin.data [1216] (.inr rfl) rfl (by (exact trivial)) ?_
 simp only [zL,simprocAttr]
 all_goals (exact ⟨⟨_,_,rfl⟩,drows_brow _⟩)

theorem mementoref13_Read_con (c : CH) (b t : Int) (ok : Cin c) (hc : (c.hist.length : Int) = c.count) (hr : ∀ h ∈ c.hist,rise h) (hs : 1≤c.size∧c.size≤32) : Con Tryz.prog 70 [.agg (chC c),I b,I t] [] (.tup [.c (.sl ((rdC c b t).1.map brow)),I (rdC c b t).2]) []:=by
 obtain ⟨a1,a2⟩:=ok
 refine C_mementoref13_Read nl nl ?_
 simp only [cz,A_mementoref13_Read,argL,objL,List.length_nil,Nat.zero_add,zX,simprocAttr]
 refine aS 16 (fun Q hQ=>by simp (disch:=intros;contradiction) only [zS,chC,chO,simprocAttr];exact hQ) ?_
 refine aS 96 (fun Q hQ=>by simp (disch:=intros;contradiction) only [zS,zW,simprocAttr];repeat refine ⟨by ((simp;done)),?_⟩;exact hQ) ?_
 refine aw_cond _ rfl trivial (fun ht=>?_) (fun hf=>?_)
 ·skip
  try simp at ht
  simp only [zX]
  have h : rdC c b t = ([],28):=by unfold rdC;rw [if_pos (by omega)]
  rw [h]
  refine aR 288 ?_
  refine Fin.data [] (.inr rfl) rfl (by (exact trivial)) ?_
  simp only [zL,simprocAttr]
  all_goals (simp)
 try simp at hf
 simp only [zX]
 refine aR 352 ?_
 refine aw_cond _ rfl trivial (fun ht=>?_) (fun hf=>?_)
 ·skip
  try simp at ht
  simp only [zX]
  have h : rdC c b t = ([],30):=by unfold rdC;rw [if_neg (by omega),if_pos (by omega)]
  rw [h]
  refine aR 464 ?_
  refine Fin.data [] (.inr rfl) rfl (by (exact trivial)) ?_
  simp only [zL,simprocAttr]
  all_goals (simp)
 try simp at hf
 simp only [zX]
 refine aR 528 ?_
 refine aw_cond _ rfl trivial (fun ht=>?_) (fun hf=>?_)
 ·skip
  try simp at ht
  simp only [zX]
  have h : rdC c b t = ([],32):=by unfold rdC;rw [if_neg (by omega),if_neg (by omega),if_pos (by omega)]
  rw [h]
  refine aR 640 ?_
  refine Fin.data [] (.inr rfl) rfl (by (exact trivial)) ?_
  simp only [zL,simprocAttr]
  all_goals (simp)
 try simp at hf
 simp only [zX]
 obtain ⟨k,hk⟩ : ∃ k : Nat,b = k:=⟨b.toNat,by omega⟩
 subst hk
 have hkl : k < c.hist.length:=by omega
 have h : rdC c k t = (atF c.size.toNat t c.hist[k],0):=by unfold rdC;rw [if_neg (by omega),if_neg (by omega),if_neg (by omega)];simp [hkl]
 rw [h]
 obtain ⟨g1,g2⟩:=a2 _ (List.getElem_mem hkl)
 obtain ⟨l,hll⟩ : ∃ l,c.hist[k] = l:=⟨_,rfl⟩
 rw [hll] at g1 g2 ⊢
 have cA:=mementoref13_At_con l t g1 (hr l (by rw [← hll];exact List.getElem_mem hkl))
 obtain ⟨s,hss⟩ : ∃ s : Nat,c.size = s:=⟨c.size.toNat,by omega⟩
 have hat : atF s t l = if 0 < behN t l then (l.take (behN t l)).getLast?.elim [] (·.d) else List.replicate s 0:=rfl
 rw [hss,Int.toNat_natCast]
 generalize (l.take (behN t l)).getLast?.elim [] (·.d) = d at cA hat
 refine aBs 704 (fun Q hQ=>by simp (disch:=first | (intros;contradiction) | omega | (simp only [zN];omega)) only [zS,zW,hrow,hll,simprocAttr];repeat refine ⟨by (omega),?_⟩;exact hQ) ?_
 refine rC [] (cA) ?_ (hs:=(by exact .inr ⟨pureTC,trivial⟩))
 refine aE ?_
 refine aR 928 ?_
 refine aw_cond _ rfl trivial (fun ht=>?_) (fun hf=>?_)
 ·skip
  try simp at ht
  simp only [zX]
  rw [hat,if_neg (by simpa using ht)]
  have hz : List.replicate s [C.v (.int .u8 0)] = (List.replicate s 0).map brow:=by simp [brow]
  refine aS 992 (fun Q hQ=>by simp (disch:=intros;contradiction) only [zS,zW,hz,simprocAttr];repeat refine ⟨by (omega),?_⟩;exact hQ) ?_
  refine Fin.data [1024] (.inr rfl) rfl (by (exact trivial)) ?_
  simp only [zL,simprocAttr]
  all_goals (exact ⟨⟨_,_,rfl⟩,drows_brow _⟩)
 try simp at hf
 simp only [zX]
 rw [hat,if_pos (by simpa using hf)]
 refine aR 1104 ?_
 refine Fin.data [] (.inr rfl) rfl (by (exact trivial)) ?_
 simp only [zL,simprocAttr]
 all_goals (simp)

end Go.Abs

namespace Go.Abs
open Go Go.Proofs
set_option maxRecDepth 100000
set_option linter.unusedSimpArgs false
set_option maxHeartbeats 8000000

theorem awp_pre {P : Program} {n : Nat} {ops : List AO} {d : Bool} {Q : Exit→St→Prop} {l : SL} {es : EL} (l' : SL) (es' : EL) (h : Le n (mkSt l es) (mkSt l' es')) (h2 : awp P n (.region ops d) Q (mkSt l' es')) : awp P n (.region ops d) Q (mkSt l es):=by
 obtain ⟨s0,h3,h4⟩:=h2
 exact ⟨s0,h.trans h3,h4⟩

structure Csm (c : CH) : Prop where
 len : c.hist.length≤256
 hl : ∀ h ∈ c.hist,h.length≤100000∧∀ x ∈ h,x.d.length≤1000
theorem Csm.cin {c : CH} (h : Csm c) : Cin c:=⟨by have:=h.len;omega,fun l hl=>⟨by have:=(h.hl l hl).1;omega,fun x hx=>by have:=(h.hl l hl).2 x hx;omega⟩⟩
end Go.Abs

namespace Go.Abs
open Go Go.Proofs
set_option maxRecDepth 100000
set_option linter.unusedSimpArgs false

end Go.Abs

namespace Go.Abs
open Go Go.Proofs
set_option maxRecDepth 100000
set_option linter.unusedSimpArgs false
set_option maxHeartbeats 8000000

def zeroP : PU:=⟨0,0,0,0,0,0,0,[]⟩
def GI (n k : Nat) (l : List IT) : Prop:=l.length≤k∧byI l∧∀ x ∈ l,x.d.length≤n
end Go.Abs

namespace Go.Abs
open Go Go.Proofs
set_option maxRecDepth 100000
set_option linter.unusedSimpArgs false
set_option maxHeartbeats 8000000

end Go.Abs

namespace Go.Abs
open Go Go.Proofs
set_option maxRecDepth 100000
set_option linter.unusedSimpArgs false
set_option maxHeartbeats 8000000

def zeroCH : CH:=⟨0,0,0,0,0,0,[]⟩
abbrev TC:=(CH × Bool) × List Nat × Nat
def GH (n k : Nat) (H : List (List IT)) : Prop:=H.length≤k∧∀ h ∈ H,GI n (n + 1) h
theorem GH.cin {n k : Nat} {c : CH} (hn : n≤500000) (hk : k≤1000) (h : GH n k c.hist) : Cin c :=
 ⟨by have:=h.1;omega,fun l hl=>⟨by have:=(h.2 l hl).1;omega,fun x hx=>by have:=(h.2 l hl).2.2 x hx;omega⟩⟩

end Go.Abs

namespace Go.Abs
open Go Go.Proofs
set_option maxRecDepth 100000
set_option linter.unusedSimpArgs false
set_option maxHeartbeats 8000000

theorem pushC_pure (p : PU) : (SV.agg (pushC p)).pureD:=by
 intro c hc
 simp only [pushC,puC,List.mem_cons,List.not_mem_nil,or_false] at hc
 rcases hc with rfl | rfl | rfl | rfl | rfl | rfl | rfl | rfl <;> rfl
theorem pushT_pure (p : PU) (x : Value) : (SV.tup [.agg (pushC p),.c (.v x)]).pureD:=by
 intro s hs
 simp only [List.mem_cons,List.not_mem_nil,or_false] at hs
 rcases hs with rfl | rfl
 ·exact pushC_pure p
 ·rfl
theorem chT_pure (c : CH) (x : Value) : (SV.tup [.agg (chC c),.c (.v x)]).pureD:=by
 intro s hs
 simp only [List.mem_cons,List.not_mem_nil,or_false] at hs
 rcases hs with rfl | rfl
 ·exact chC_pure c
 ·rfl

end Go.Abs

namespace Go.Abs
open Go Go.Proofs
set_option maxRecDepth 100000
set_option linter.unusedSimpArgs false
set_option maxHeartbeats 8000000

theorem behN_snoc {f : Int} {x : IT} (hx : f < x.b) : ∀ h : List IT,behN f (h ++ [x]) = behN f h:=fun h=>by
 unfold behN
 rw [takeW_snoc (by simp;omega)]
theorem pruneH_snoc {f : Int} {h : List IT} {x : IT} (hx : f < x.b) : pruneH f (h ++ [x]) = pruneH f h ++ [x]:=by
 have:=behN_le f h
 unfold pruneH
 rw [behN_snoc hx,List.drop_append_of_le_length (by omega)]
theorem pruneH_mem {f : Int} {h : List IT} {x : IT} (hx : x ∈ pruneH f h) : x ∈ h:=List.mem_of_mem_drop hx
theorem behN_eq {f : Int} {h : List IT} {k : Nat} (hk : k≤h.length) (h1 : ∀ i (hi : i < h.length),i < k→h[i].b≤f) (h2 : ∀ i (hi : i < h.length),k≤i→f < h[i].b) : behN f h = k:=by
 have a:=behN_le f h
 rcases Nat.lt_trichotomy (behN f h) k with h0 | h0 | h0
 ·have hi : behN f h < h.length:=by omega
  have b : f < h[behN f h].b:=by
   have key : ∀ (l : List IT) (hb : behN f l < l.length),f < l[behN f l].b:=by
    intro l
    induction l with
    | nil=>intro hb;simp at hb
    | cons x l ih =>
     intro hb
     unfold behN at hb ⊢
     rw [List.takeWhile_cons] at hb
     by_cases hx : x.b≤f
     ·have e : (List.takeWhile (fun x=>decide (x.b≤f)) (x :: l)).length = (List.takeWhile (fun x=>decide (x.b≤f)) l).length + 1:=by rw [List.takeWhile_cons];simp [hx]
      simp only [hx,decide_true,if_true,List.length_cons] at hb
      have:=ih (by unfold behN;omega)
      simp only [e,List.getElem_cons_succ]
      exact this
     ·have e : (List.takeWhile (fun x=>decide (x.b≤f)) (x :: l)).length = 0:=by rw [List.takeWhile_cons];simp [hx]
      simp only [e,List.getElem_cons_zero]
      omega
   exact key h hi
  have:=h1 _ hi h0
  omega
 ·exact h0
 ·have hi : k < h.length:=by omega
  have:=behN_lt f h k hi h0
  have:=h2 k hi (Nat.le_refl _)
  omega
theorem behN_mono {f g : Int} (hfg : f≤g) {h : List IT} (hr : rise h) : behN f h≤behN g h:=Decidable.by_contra fun hh=>by
 have a:=behN_le f h
 have hi : behN g h < h.length:=by omega
 have b:=behN_ge g h hr _ hi (Nat.le_refl _)
 have c:=behN_lt f h _ hi (by omega)
 omega
theorem pruneH_two {f g : Int} (hfg : f≤g) {h : List IT} (hr : rise h) : pruneH g (pruneH f h) = pruneH g h:=by
 have a:=behN_mono hfg hr
 have b:=behN_le g h
 obtain ⟨k,hk⟩ : ∃ k,k = behN f h - 1:=⟨_,rfl⟩
 have e : behN g (h.drop k) = behN g h - k:=by
  refine behN_eq (by simp;omega) (fun i hi h1=>?_) fun i hi h2=>?_
  ·rw [List.getElem_drop]
   exact behN_lt g h _ _ (by omega)
  ·rw [List.getElem_drop]
   exact behN_ge g h hr _ _ (by omega)
 unfold pruneH
 rw [← hk,e,List.drop_drop]
 congr 1
 omega
theorem hst_drop {p : Int} (hp : 0≤p) : ∀ (k : Nat) {h : List IT},hst p h = true→∃ q,p≤q∧hst q (h.drop k) = true
 | 0,h,hh=>⟨p,Int.le_refl _,by simpa using hh⟩
 | k + 1,[],hh=>⟨p,Int.le_refl _,rfl⟩
 | k + 1,x :: h,hh=>by
  simp only [hst,Bool.and_eq_true,decide_eq_true_eq] at hh
  obtain ⟨q,h1,h2⟩:=hst_drop (p:=x.b) (by omega) k hh.2
  exact ⟨q,by omega,by simpa using h2⟩
theorem hst_weak {p q : Int} (h : p≤q) : ∀ {l : List IT},hst q l = true→hst p l = true
 | [],_=>rfl
 | x :: l,hh=>by
  simp only [hst,Bool.and_eq_true,decide_eq_true_eq] at hh ⊢
  exact ⟨⟨by omega,hh.1.2⟩,hh.2⟩
theorem histR_prune {f : Int} {h : List IT} (hh : histR h = true) : histR (pruneH f h) = true:=by
 obtain ⟨q,h1,h2⟩:=hst_drop (p:=0) (Int.le_refl _) (behN f h - 1) hh
 exact hst_weak h1 h2
theorem hst_len {p m : Int} : ∀ {l : List IT},hst p l = true→(∀ y ∈ l,y.b≤m)→p≤m→(l.length : Int)≤m - p
 | [],_,_,h=>by simp;omega
 | x :: l,hh,h,hp=>by
  simp only [hst,Bool.and_eq_true,decide_eq_true_eq] at hh
  have:=h x (by simp)
  have:=hst_len hh.2 (fun y hy=>h y (by simp [hy])) (by omega)
  simp only [List.length_cons];omega

structure HF (m : Nat) (size : Int) (H : List (List IT)) : Prop where
 r : ∀ h ∈ H,histR h = true
 t : ∀ h ∈ H,∀ y ∈ h,y.b≤m
 d : ∀ h ∈ H,∀ y ∈ h,(y.d.length : Int) = size∧∀ c ∈ y.d,c < 256
theorem HF.mono {m k : Nat} {size : Int} {H : List (List IT)} (h : HF m size H) (hk : m≤k) : HF k size H:=⟨h.r,fun x hx y hy=>by have:=h.t x hx y hy;omega,h.d⟩
theorem hStep_in {s : Int} {H : List (List IT)} {x : IT} {b : Nat} (hb : x.b = b) (hl : b < H.length) : hStep s H x = H.set b (H[b] ++ [⟨s,x.d⟩]):=by
 unfold hStep
 rw [if_pos (by omega),hb]
 simp [hl]

theorem apply_step {mark s f : Int} {H : List (List IT)} {x : IT} {b : Nat} (hb : x.b = b) (hl : b < H.length) (hy : ∀ y ∈ H[b],y.b < s) (hf : f < s) (hm : mark < s) (h1 : 1≤s) (h2 : s≤1099511627776) :
  applyI mark s (H.map (pruneH f)) x = (hStep s H x).map (pruneH f):=by
 rw [hStep_in hb hl]
 unfold applyI
 rw [if_pos hm,hb,List.map_set,pruneH_snoc hf]
 have e : (H.map (pruneH f)).getD ((b : Nat) : Int).toNat [] = pruneH f H[b]:=by simp [hl]
 rw [e,Int.toNat_natCast,addH_yes h1 h2 fun h0=>hy _ (pruneH_mem (List.getElem_mem _))]

def sl3 (first cnt : Nat) (H : List (List IT)) : List (List IT):=(H.drop first).take cnt
theorem sl3_len {first cnt : Nat} {H : List (List IT)} (h : first + cnt≤H.length) : (sl3 first cnt H).length = cnt:=by simp [sl3];omega
theorem sl3_get {first cnt : Nat} {H : List (List IT)} {i : Nat} (h : first + cnt≤H.length) (hi : i < cnt) : (sl3 first cnt H)[i]'(by rw [sl3_len h];exact hi) = H[first + i]'(by omega):=by simp [sl3]
theorem sl3_set_in {α : Type} {first cnt i : Nat} {H : List α} {v : α} (hi : i < cnt) : ((H.set (first + i) v).drop first).take cnt = ((H.drop first).take cnt).set i v:=by
 apply List.ext_getElem?
 intro j
 by_cases hj : j < cnt
 ·rw [List.getElem?_take_of_lt hj,List.getElem?_drop]
  by_cases hij : j = i
  ·subst hij
   by_cases hl : first + j < H.length
   ·rw [List.getElem?_set_self hl,List.getElem?_set_self (by simp;omega)]
   ·rw [List.getElem?_eq_none (by simp;omega),List.getElem?_eq_none (by simp;omega)]
  ·rw [List.getElem?_set_ne (by omega),List.getElem?_set_ne (by omega),List.getElem?_take_of_lt hj,List.getElem?_drop]
 ·rw [List.getElem?_eq_none (by simp;omega),List.getElem?_eq_none (by simp;omega)]
theorem sl3_set_out {α : Type} {first cnt b : Nat} {H : List α} {v : α} (hb : b < first∨first + cnt≤b) : ((H.set b v).drop first).take cnt = (H.drop first).take cnt:=by
 apply List.ext_getElem?
 intro j
 by_cases hj : j < cnt
 ·rw [List.getElem?_take_of_lt hj,List.getElem?_take_of_lt hj,List.getElem?_drop,List.getElem?_drop,List.getElem?_set_ne (by omega)]
 ·rw [List.getElem?_eq_none (by simp;omega),List.getElem?_eq_none (by simp;omega)]
theorem sl3_step {first cnt : Nat} {H : List (List IT)} (h : first + cnt≤H.length) {s : Int} {x : IT} (hx : 0≤x.b∧x.b < H.length) :
  sl3 first cnt (hStep s H x) = if inC cnt (shIt first x) = true then hStep s (sl3 first cnt H) (shIt first x) else sl3 first cnt H:=by
 obtain ⟨b,hb⟩ : ∃ b : Nat,x.b = b:=⟨x.b.toNat,by omega⟩
 have hl : b < H.length:=by omega
 rw [hStep_in hb hl]
 split
 ·rename_i hin
  simp only [inC,shIt,Bool.and_eq_true,decide_eq_true_eq,hb] at hin
  obtain ⟨i,hi⟩ : ∃ i,b = first + i:=⟨b - first,by omega⟩
  have hic : i < cnt:=by omega
  rw [hStep_in (x:=shIt first x) (b:=i) (by simp only [shIt];omega) (by rw [sl3_len h];exact hic),sl3_get h hic]
  subst hi
  exact sl3_set_in hic
 ·rename_i hin
  simp only [inC,shIt,Bool.and_eq_true,decide_eq_true_eq,hb] at hin
  exact sl3_set_out (by omega)

theorem apply_items {mark s f : Int} {first cnt m : Nat} (hf : f < s) (hm : mark < s) (h1 : 1≤s) (h2 : s≤1099511627776) : ∀ (l : List IT) (H : List (List IT)),first + cnt≤H.length→(∀ x ∈ l,0≤x.b∧x.b < H.length)→onceB l = true →
  (∀ x ∈ l,∀ (b : Nat) (hb : b < H.length),x.b = b→∀ y ∈ H[b],y.b < s) →
  (pushItems first cnt l).foldl (applyI mark s) ((sl3 first cnt H).map (pruneH f)) = (sl3 first cnt (l.foldl (hStep s) H)).map (pruneH f)
 | [],H,_,_,_,_=>rfl
 | x :: l,H,hfc,hr,ho,hy=>by
  have hx:=hr x (by simp)
  simp only [onceB,Bool.and_eq_true,Bool.not_eq_true'] at ho
  have hno : ∀ z ∈ l,z.b≠x.b:=fun z hz e=>by
   have:=ho.1
   rw [Bool.eq_false_iff] at this
   exact this (List.any_eq_true.2 ⟨z,hz,by simpa using e⟩)
  obtain ⟨b,hb⟩ : ∃ b : Nat,x.b = b:=⟨x.b.toNat,by omega⟩
  have hl : b < H.length:=by omega
  have ih:=apply_items (mark:=mark) (f:=f) (m:=m) hf hm h1 h2 l (hStep s H x) (by rw [hStep_len];exact hfc) (fun z hz=>by rw [hStep_len];exact hr z (by simp [hz])) ho.2 (fun z hz c hc hzc y hyc=>by
   have hcl : c < H.length:=by rw [hStep_len] at hc;exact hc
   have hne : b≠c:=fun e=>hno z hz (by omega)
   have e : (hStep s H x)[c] = H[c]:=by
    have : (hStep s H x)[c]? = some H[c]:=by rw [hStep_in hb hl,List.getElem?_set_ne hne,List.getElem?_eq_getElem hcl]
    exact (List.getElem?_eq_some_iff.1 this).2
   rw [e] at hyc
   exact hy z (by simp [hz]) c hcl hzc y hyc)
  rw [List.foldl_cons,← ih,sl3_step hfc hx]
  have hp : pushItems first cnt (x :: l) = if inC cnt (shIt first x) = true then shIt first x :: pushItems first cnt l else pushItems first cnt l:=by
   unfold pushItems
   rw [List.map_cons,List.filter_cons]
  rw [hp]
  split
  ·rename_i hin
   rw [List.foldl_cons]
   congr 1
   simp only [inC,shIt,Bool.and_eq_true,decide_eq_true_eq,hb] at hin
   obtain ⟨i,hi⟩ : ∃ i,b = first + i:=⟨b - first,by omega⟩
   have hic : i < cnt:=by omega
   have hil : i < (sl3 first cnt H).length:=by rw [sl3_len hfc];exact hic
   have hsub : (sl3 first cnt H)[i] = H[b]:=by rw [sl3_get hfc hic];subst hi;rfl
   exact apply_step (x:=shIt first x) (b:=i) (by simp only [shIt];omega) hil (by rw [hsub];exact hy x (by simp) b hl hb) hf hm h1 h2
  ·rfl

theorem HF.step {m : Nat} {size s : Int} {H : List (List IT)} {x : IT} {b : Nat} (h : HF (m + 1) size H) (hs : s = (m : Int) + 1) (hb : x.b = b) (hl : b < H.length) (hy : ∀ y ∈ H[b],y.b < s) (h2 : s≤1099511627776) (hd : (x.d.length : Int) = size) (h8 : ∀ c ∈ x.d,c < 256) : HF (m + 1) size (hStep s H x):=by
 rw [hStep_in hb hl]
 have hmem:=List.getElem_mem hl
 have hadd : H[b] ++ [⟨s,x.d⟩] = addH H[b] s x.d:=(addH_yes (by omega) h2 fun h0=>hy _ (List.getElem_mem _)).symm
 refine ⟨fun g hg=>?_,fun g hg y hyg=>?_,fun g hg y hyg=>?_⟩
 ·rcases List.mem_or_eq_of_mem_set hg with hg | rfl
  ·exact h.r g hg
  ·rw [hadd];exact addH_right (h.r _ hmem)
 ·rcases List.mem_or_eq_of_mem_set hg with hg | rfl
  ·exact h.t g hg y hyg
  ·rcases List.mem_append.1 hyg with hyg | hyg
   ·exact h.t _ hmem y hyg
   ·simp only [List.mem_singleton] at hyg;subst hyg;simp only;omega
 ·rcases List.mem_or_eq_of_mem_set hg with hg | rfl
  ·exact h.d g hg y hyg
  ·rcases List.mem_append.1 hyg with hyg | hyg
   ·exact h.d _ hmem y hyg
   ·simp only [List.mem_singleton] at hyg;subst hyg;exact ⟨hd,h8⟩
theorem HF.items {m : Nat} {size s : Int} (hs : s = (m : Int) + 1) (h2 : s≤1099511627776) : ∀ (l : List IT) (H : List (List IT)),HF (m + 1) size H→(∀ x ∈ l,0≤x.b∧x.b < H.length)→onceB l = true →
  (∀ x ∈ l,∀ (b : Nat) (hb : b < H.length),x.b = b→∀ y ∈ H[b],y.b < s)→(∀ x ∈ l,(x.d.length : Int) = size)→byI l→HF (m + 1) size (l.foldl (hStep s) H)
 | [],H,h,_,_,_,_,_=>h
 | x :: l,H,h,hr,ho,hy,hd,h8=>by
  have hx:=hr x (by simp)
  simp only [onceB,Bool.and_eq_true,Bool.not_eq_true'] at ho
  have hno : ∀ z ∈ l,z.b≠x.b:=fun z hz e=>by
   have:=ho.1
   rw [Bool.eq_false_iff] at this
   exact this (List.any_eq_true.2 ⟨z,hz,by simpa using e⟩)
  obtain ⟨b,hb⟩ : ∃ b : Nat,x.b = b:=⟨x.b.toNat,by omega⟩
  have hl : b < H.length:=by omega
  rw [List.foldl_cons]
  refine HF.items hs h2 l _ (h.step hs hb hl (hy x (by simp) b hl hb) h2 (hd x (by simp)) (h8 x (by simp))) (fun z hz=>by rw [hStep_len];exact hr z (by simp [hz])) ho.2 (fun z hz c hc hzc y hyc=>?_) (fun z hz=>hd z (by simp [hz])) fun z hz=>h8 z (by simp [hz])
  have hcl : c < H.length:=by rw [hStep_len] at hc;exact hc
  have hne : b≠c:=fun e=>hno z hz (by omega)
  have e : (hStep s H x)[c] = H[c]:=by
   have : (hStep s H x)[c]? = some H[c]:=by rw [hStep_in hb hl,List.getElem?_set_ne hne,List.getElem?_eq_getElem hcl]
   exact (List.getElem?_eq_some_iff.1 this).2
  rw [e] at hyc
  exact hy z (by simp [hz]) c hcl hzc y hyc

def Hm (v : VOL) (m : Nat) : List (List IT):=hAll v.blocks.toNat (v.ws.take m)
theorem Hm_succ (v : VOL) (m : Nat) (h : m < v.ws.length) : Hm v (m + 1) = hW (Hm v m) v.ws[m]:=by
 unfold Hm hAll
 rw [take_one v.ws m h,List.foldl_append];rfl
theorem hIts_len (s : Int) : ∀ (l : List IT) (H : List (List IT)),(l.foldl (hStep s) H).length = H.length
 | [],_=>rfl
 | x :: l,H=>by rw [List.foldl_cons,hIts_len,hStep_len]
theorem Hm_len (v : VOL) (m : Nat) : (Hm v m).length = v.blocks.toNat:=by
 unfold Hm hAll
 generalize v.ws.take m = l
 have : ∀ (l : List WR) (H : List (List IT)),(l.foldl hW H).length = H.length:=by
  intro l
  induction l with
  | nil=>intro H;rfl
  | cons w l ih=>intro H;rw [List.foldl_cons,ih];exact hIts_len _ _ _
 rw [this];simp
theorem ws_at {v : VOL} (hr : rightV v = true) {m : Nat} (h : m < v.ws.length) : v.ws[m].s = (m : Int) + 1∧itemsR v.blocks v.size v.ws[m].its = true:=by
 obtain ⟨r1,r2,r3,r4,r5,r6,r7,r8⟩:=rightV_iff.1 hr
 have:=wsR_at h r8
 rw [Nat.zero_add] at this
 exact this
theorem onceB_of {b s : Int} {l : List IT} (h : itemsR b s l = true) : onceB l = true:=by
 simp only [itemsR,Bool.and_eq_true] at h;exact h.2
theorem Hm_HF {v : VOL} (hr : rightV v = true) (h8 : byW v.ws) (hl : v.ws.length≤1000000) : ∀ m,m≤v.ws.length→HF m v.size (Hm v m)
 | 0,_=>by
  have : Hm v 0 = List.replicate v.blocks.toNat []:=by simp [Hm,hAll]
  rw [this]
  exact ⟨fun h hh=>by rw [List.eq_of_mem_replicate hh];rfl,fun h hh y hy=>(by rw [List.eq_of_mem_replicate hh] at hy;cases hy),fun h hh y hy=>(by rw [List.eq_of_mem_replicate hh] at hy;cases hy)⟩
 | m + 1,hm=>by
  have ih:=Hm_HF hr h8 hl m (by omega)
  obtain ⟨a1,a2⟩:=ws_at hr (show m < v.ws.length by omega)
  have a3:=itemsR_mem a2
  obtain ⟨r1,_⟩:=rightV_iff.1 hr
  obtain ⟨_,s2,_⟩:=shape_lims r1
  rw [Hm_succ v m (by omega)]
  refine HF.items a1 (by omega) _ _ (ih.mono (Nat.le_succ m)) (fun x hx=>by have:=a3 x hx;rw [Hm_len];omega) (onceB_of a2) (fun x hx b hb _ y hy=>?_) (fun x hx=>(a3 x hx).2.2) (h8 _ (List.getElem_mem _))
  have:=ih.t _ (List.getElem_mem hb) y hy
  omega

end Go.Abs

namespace Go.Abs
open Go Go.Proofs
set_option maxRecDepth 100000
set_option linter.unusedSimpArgs false
set_option maxHeartbeats 8000000

theorem pushW_fold {mark first count : Int} {w : WR} {H : List (List IT)} : (pushW first count w).foldl (applyW mark) H = (pushItems first count w.its).foldl (applyI mark w.s) H:=by
 unfold pushW
 split
 ·rename_i h
  have : pushItems first count w.its = []:=by cases hp : pushItems first count w.its with
   | nil=>rfl
   | cons a b=>rw [hp] at h;simp at h
  rw [this];rfl
 ·rfl
theorem pushWs_cons (first count : Int) (w : WR) (l : List WR) : pushWs first count (w :: l) = pushW first count w ++ pushWs first count l:=rfl
theorem pushWs_app (first count : Int) (l m : List WR) : pushWs first count (l ++ m) = pushWs first count l ++ pushWs first count m:=by simp [pushWs]
theorem pushWs_skip {mark first count : Int} : ∀ (l : List WR) (H : List (List IT)),(∀ w ∈ l,w.s≤mark)→(pushWs first count l).foldl (applyW mark) H = H
 | [],H,_=>rfl
 | w :: l,H,h=>by
  rw [pushWs_cons,List.foldl_append,pushW_fold,applyI_no (by have:=h w (by simp);omega)]
  exact pushWs_skip l H fun x hx=>h x (by simp [hx])

theorem pushWs_range {v : VOL} (hr : rightV v = true) (h8 : byW v.ws) (hl : v.ws.length≤1000000) {mark f : Int} {f0 c0 to : Nat} (hfc : f0 + c0≤v.blocks.toNat) (hto : to≤v.ws.length) : ∀ (d m : Nat),m + d = to→mark≤m→f≤m →
  (pushWs f0 c0 ((v.ws.take to).drop m)).foldl (applyW mark) ((sl3 f0 c0 (Hm v m)).map (pruneH f)) = (sl3 f0 c0 (Hm v to)).map (pruneH f)
 | 0,m,hm,_,_=>by
  have : (v.ws.take to).drop m = []:=List.drop_of_length_le (by simp;omega)
  rw [this,show m = to by omega];rfl
 | d + 1,m,hm,h1,h2=>by
  have hml : m < v.ws.length:=by omega
  have hmt : m < (v.ws.take to).length:=by simp;omega
  have hd : (v.ws.take to).drop m = v.ws[m] :: (v.ws.take to).drop (m + 1):=by rw [drop_get hmt];simp
  obtain ⟨a1,a2⟩:=ws_at hr hml
  have a3:=itemsR_mem a2
  have hH:=Hm_HF hr h8 hl m (by omega)
  rw [hd,pushWs_cons,List.foldl_append,pushW_fold,apply_items (m:=m) (by omega) (by omega) (by omega) (by omega) _ _ (by rw [Hm_len];exact hfc) (fun x hx=>by
   have:=a3 x hx
   rw [Hm_len]
   omega) (onceB_of a2) (fun x hx b hb _ y hy=>by have:=hH.t _ (List.getElem_mem hb) y hy;omega)]
  have hs : v.ws[m].its.foldl (hStep v.ws[m].s) (Hm v m) = Hm v (m + 1):=(Hm_succ v m hml).symm
  rw [hs]
  exact pushWs_range hr h8 hl hfc hto d (m + 1) (by omega) (by omega) (by omega)

theorem onceB_pw : ∀ {l : List IT},onceB l = true ↔ l.Pairwise fun x y=>y.b≠x.b
 | []=>by simp [onceB]
 | x :: l=>by
  simp only [onceB,Bool.and_eq_true,Bool.not_eq_true',List.pairwise_cons]
  rw [onceB_pw,Bool.eq_false_iff]
  constructor
  ·rintro ⟨h1,h2⟩
   exact ⟨fun y hy e=>h1 (List.any_eq_true.2 ⟨y,hy,by simpa using e⟩),h2⟩
  ·rintro ⟨h1,h2⟩
   refine ⟨fun h=>?_,h2⟩
   obtain ⟨y,hy,e⟩:=List.any_eq_true.1 h
   exact h1 y hy (by simpa using e)
theorem push_once {first count : Int} {l : List IT} (h : onceB l = true) : onceB (pushItems first count l) = true:=by
 rw [onceB_pw] at h ⊢
 unfold pushItems
 refine List.Pairwise.filter _ ?_
 rw [List.pairwise_map]
 refine h.imp fun hxy e=>hxy ?_
 simp only [shIt] at e
 omega
theorem push_items {blocks size first count : Int} {l : List IT} (h : itemsR blocks size l = true) (hne : ¬ (pushItems first count l).isEmpty = true) : itemsR count size (pushItems first count l) = true:=by
 have h1:=itemsR_len h
 have h2:=itemsR_mem h
 have h3:=pushItems_len first count l
 have h4:=push_once (first:=first) (count:=count) (onceB_of h)
 simp only [itemsR,Bool.and_eq_true,decide_eq_true_eq]
 refine ⟨⟨⟨?_,by omega⟩,?_⟩,h4⟩
 ·cases hp : pushItems first count l with
  | nil=>rw [hp] at hne;simp at hne
  | cons a b=>simp
 ·refine List.all_eq_true.2 fun x hx=>?_
  simp only [pushItems,List.mem_filter,List.mem_map] at hx
  obtain ⟨⟨y,hy,rfl⟩,hin⟩:=hx
  have:=h2 y hy
  simp only [inC,Bool.and_eq_true,decide_eq_true_eq] at hin
  simp only [itOk,Bool.and_eq_true,decide_eq_true_eq]
  exact ⟨hin,this.2.2⟩
theorem wsP_weak {count size to last last' : Int} (h : last≤last') : ∀ {l : List WR},wsP count size to last' l = true→wsP count size to last l = true
 | [],_=>rfl
 | w :: l,hw=>by
  simp only [wsP,Bool.and_eq_true,decide_eq_true_eq] at hw ⊢
  exact ⟨⟨⟨by omega,hw.1.1.2⟩,hw.1.2⟩,hw.2⟩
theorem push_wsP {v : VOL} (hr : rightV v = true) {first count : Int} {to : Nat} (hto : to≤v.ws.length) : ∀ (d m : Nat),m + d = to→wsP count v.size to m (pushWs first count ((v.ws.take to).drop m)) = true
 | 0,m,hm=>by
  have : (v.ws.take to).drop m = []:=List.drop_of_length_le (by simp;omega)
  rw [this];rfl
 | d + 1,m,hm=>by
  have hml : m < v.ws.length:=by omega
  have hmt : m < (v.ws.take to).length:=by simp;omega
  have hd : (v.ws.take to).drop m = v.ws[m] :: (v.ws.take to).drop (m + 1):=by rw [drop_get hmt];simp
  obtain ⟨a1,a2⟩:=ws_at hr hml
  have ih:=push_wsP hr (first:=first) (count:=count) hto d (m + 1) (by omega)
  rw [hd,pushWs_cons]
  unfold pushW
  split
  ·exact wsP_weak (by omega) ih
  ·rename_i hne
   simp only [List.cons_append,List.nil_append,wsP,Bool.and_eq_true,decide_eq_true_eq]
   refine ⟨⟨⟨by omega,by omega⟩,push_items a2 hne⟩,?_⟩
   rw [a1]
   exact ih

theorem kfacts {v : VOL} (hr : rightV v = true) {k : Int} (hk0 : 0≤k) (hk1 : k < v.place.length) : ∃ f0 c0 : Nat,k * v.per = f0∧min v.per (v.blocks - k * v.per) = c0∧countV v k = c0∧1≤c0∧c0≤256∧f0 + c0≤v.blocks.toNat∧k≤255∧(0≤v.id∧v.id≤7)∧(1≤v.size∧v.size≤32):=by
 obtain ⟨hs,hf0,hf1,hpins,hws⟩:=right_facts hr
 obtain ⟨g1,g2,g3,g4,g5,g6,g7,g8,g9,g10,g11,g12⟩:=shape_facts hs
 have hnp : k * v.per < v.blocks:=chunk_lt g7 g3 hk0 (by rw [← g9];exact hk1)
 have hnp0 : 0≤k * v.per:=Int.mul_nonneg hk0 (by omega)
 have hkk : k≤k * v.per:=by
  have:=Int.mul_le_mul_of_nonneg_left g7 hk0
  rw [Int.mul_one] at this
  exact this
 have hc : countV v k = min v.per (v.blocks - k * v.per):=by unfold countV;rw [if_neg (by omega)]
 refine ⟨(k * v.per).toNat,(min v.per (v.blocks - k * v.per)).toNat,by omega,by omega,by omega,by omega,by omega,by omega,by omega,by omega,by omega⟩

theorem push_right {v : VOL} (hr : rightV v = true) (hl : v.ws.length≤1000000) {k m : Int} (hk0 : 0≤k) (hk1 : k < v.place.length) (hm0 : 0≤m) (hm1 : m≤lenV v) : pushR (pushP v k m) = true:=by
 obtain ⟨f0,c0,a1,a2,a3,a4,a5,a6,a7,a8,a9⟩:=kfacts hr hk0 hk1
 obtain ⟨hs,hf0,hf1,hpins,hws⟩:=right_facts hr
 obtain ⟨n,rfl⟩ : ∃ n : Nat,m = n:=⟨m.toNat,by omega⟩
 obtain ⟨to,hto⟩ : ∃ to : Nat,pushTo v n = to:=⟨(pushTo v n).toNat,by unfold pushTo;omega⟩
 rw [a1] at a2
 have hto2 : to≤v.ws.length∧n≤to∧to≤n + 4:=by unfold pushTo lenV at hto;simp only [lenV] at hm1;omega
 have hw:=push_wsP hr (first:=f0) (count:=c0) hto2.1 (to - n) n (by omega)
 have hlen:=pushWs_len (f0 : Int) c0 ((v.ws.take to).drop n)
 simp only [List.length_drop,List.length_take] at hlen
 unfold pushR pushP
 simp only [hto,a1,a2,Int.toNat_natCast]
 simp only [shapeC,Bool.and_eq_true,inR_iff,decide_eq_true_eq]
 exact ⟨⟨⟨⟨⟨⟨⟨⟨by omega,by omega⟩,by omega⟩,by omega⟩,by omega⟩,by omega⟩,by omega⟩,by omega⟩,hw⟩

def chF (v : VOL) (k : Int) (m : Nat) (f : Int) : CH:=⟨v.id,k,countV v k,v.size,m,f,(sl3 (k * v.per).toNat (countV v k).toNat (Hm v m)).map (pruneH f)⟩

theorem chF_new {v : VOL} (hr : rightV v = true) {k m : Int} (hk0 : 0≤k) (hk1 : k < v.place.length) : newC (pushP v k m) = chF v k 0 0:=by
 obtain ⟨f0,c0,a1,a2,a3,a4,a5,a6,a7,a8,a9⟩:=kfacts hr hk0 hk1
 rw [a1] at a2
 unfold newC pushP chF
 simp only [a1,a2,a3,Int.toNat_natCast]
 have h1 : (min (max (c0 : Int) 0) 256).toNat = c0:=by omega
 have h2 : Hm v 0 = List.replicate v.blocks.toNat []:=by simp [Hm,hAll]
 rw [h1,h2]
 congr 1
 unfold sl3
 rw [List.drop_replicate,List.take_replicate,List.map_replicate]
 congr 1
 omega

theorem apply_chF {v : VOL} (hr : rightV v = true) (h8 : byW v.ws) (hl : v.ws.length≤1000000) {k m' f : Int} {m : Nat} (hk0 : 0≤k) (hk1 : k < v.place.length) (hm : m≤v.ws.length) (h0 : 0≤m') (h1 : m'≤m) (hf0 : 0≤f) (hf : f≤m) :
  applyC (chF v k m f) (pushP v k m') = chF v k (max m (pushTo v m').toNat) (max f (min v.floor (pushTo v m'))):=by
 obtain ⟨f0,c0,a1,a2,a3,a4,a5,a6,a7,a8,a9⟩:=kfacts hr hk0 hk1
 have hpr:=push_right hr hl hk0 hk1 h0 (by unfold lenV;omega)
 have hok : applyOk (chF v k m f) (pushP v k m') = true:=by
  simp only [applyOk,Bool.and_eq_true,decide_eq_true_eq]
  refine ⟨⟨⟨⟨⟨hpr,rfl⟩,rfl⟩,?_⟩,rfl⟩,h1⟩
  simp only [pushP,chF]
  rw [a2,a3]
 obtain ⟨n,rfl⟩ : ∃ n : Nat,m' = n:=⟨m'.toNat,by omega⟩
 obtain ⟨to,hto⟩ : ∃ to : Nat,pushTo v n = to:=⟨(pushTo v n).toNat,by unfold pushTo lenV;omega⟩
 rw [a1] at a2
 have hto2 : to≤v.ws.length∧n≤to∧to≤n + 4:=by unfold pushTo lenV at hto;omega
 unfold applyC
 rw [if_pos hok]
 unfold pushP chF
 simp only [hto,a1,a2,a3,Int.toNat_natCast]
 obtain ⟨g,hg⟩ : ∃ g,g = max f (min v.floor (to : Int)):=⟨_,rfl⟩
 rw [← hg]
 have hmx : max (m : Int) (to : Int) = ((max m to : Nat) : Int):=by omega
 rw [hmx]
 congr 1
 have key : (pushWs f0 c0 ((v.ws.take to).drop n)).foldl (applyW m) ((sl3 f0 c0 (Hm v m)).map (pruneH f)) = (sl3 f0 c0 (Hm v (max m to))).map (pruneH f):=by
  have hskip : ∀ j,j≤m→∀ w ∈ (v.ws.take j).drop n,w.s≤(m : Int):=fun j hj w hw=>by
   obtain ⟨i,hi,rfl⟩:=List.getElem_of_mem (List.mem_of_mem_drop hw)
   have hi2 : i < v.ws.length:=by simp at hi;omega
   have hi3 : i < j:=by simp at hi;omega
   rw [List.getElem_take]
   have:=(ws_at hr hi2).1
   omega
  rcases Nat.le_total to m with hc | hc
  ·rw [pushWs_skip _ _ (hskip to hc),show max m to = m by omega]
  ·have e : (v.ws.take to).drop n = (v.ws.take m).drop n ++ (v.ws.take to).drop m:=by
    have e1 : v.ws.take to = v.ws.take m ++ (v.ws.take to).drop m:=by
     have:=List.take_append_drop m (v.ws.take to)
     rw [List.take_take,show min m to = m by omega] at this
     exact this.symm
    have hnl : n≤(v.ws.take m).length:=by simp;omega
    conv=>lhs;rw [e1]
    rw [List.drop_append_of_le_length hnl]
   rw [e,pushWs_app,List.foldl_append,pushWs_skip _ _ (hskip m (Nat.le_refl _)),show max m to = to by omega]
   exact pushWs_range hr h8 hl a6 hto2.1 (to - m) m (by omega) (Int.le_refl _) hf
 rw [key,List.map_map]
 refine List.map_congr_left fun h hh=>?_
 have hH:=Hm_HF hr h8 hl (max m to) (by omega)
 exact pruneH_two (by omega) (histR_rise (hH.r h (List.mem_of_mem_drop (List.mem_of_mem_take hh))))
end Go.Abs

namespace Go.Abs
open Go Go.Proofs
set_option maxRecDepth 100000
set_option linter.unusedSimpArgs false
set_option maxHeartbeats 8000000

theorem pushItems_mem {first count : Int} {l : List IT} (h : byI l) : byI (pushItems first count l):=by
 intro x hx
 simp only [pushItems,List.mem_filter,List.mem_map] at hx
 obtain ⟨⟨y,hy,rfl⟩,_⟩:=hx
 exact h y hy
theorem pushWs_mem {first count : Int} {l : List WR} {w : WR} (h : w ∈ pushWs first count l) : ∃ x ∈ l,w = ⟨x.s,pushItems first count x.its⟩:=by
 simp only [pushWs,List.mem_flatMap] at h
 obtain ⟨x,hx,h⟩:=h
 refine ⟨x,hx,?_⟩
 unfold pushW at h
 split at h
 ·cases h
 ·simpa using h
theorem pushV_ok {v : VOL} {n : Nat} (hg : Vgood v n) (hn : n≤50000) (k m : Int) : (pushV v k m).1.ws.length≤1000000∧(∀ w ∈ (pushV v k m).1.ws,w.its.length≤1000000)∧byW (pushV v k m).1.ws:=by
 unfold pushV
 split
 ·simp only [pushP]
  have hsub : ∀ {w : WR},w ∈ (v.ws.take (pushTo v m).toNat).drop m.toNat→w ∈ v.ws:=fun h=>List.mem_of_mem_take (List.mem_of_mem_drop h)
  obtain ⟨_,_,_,hok⟩:=hg.ok hn
  refine ⟨?_,fun w hw=>?_,fun w hw=>?_⟩
  ·have h1:=pushWs_len (k * v.per) (min v.per (v.blocks - k * v.per)) ((v.ws.take (pushTo v m).toNat).drop m.toNat)
   have h2:=hg.ws
   simp only [List.length_drop,List.length_take] at h1
   omega
  ·obtain ⟨x,hx,rfl⟩:=pushWs_mem hw
   have h1:=pushItems_len (k * v.per) (min v.per (v.blocks - k * v.per)) x.its
   have h2:=(hok x (hsub hx)).1
   show (pushItems _ _ x.its).length≤_
   omega
  ·obtain ⟨x,hx,rfl⟩:=pushWs_mem hw
   exact pushItems_mem (hg.by8 x (hsub hx))
 ·refine ⟨by simp,?_,?_⟩ <;> (intro w hw;cases hw)
theorem mem_sl3 {first cnt : Nat} {H : List (List IT)} {h : List IT} (hh : h ∈ sl3 first cnt H) : h ∈ H:=List.mem_of_mem_drop (List.mem_of_mem_take hh)
theorem chF_len {v : VOL} (hr : rightV v = true) {k : Int} (hk0 : 0≤k) (hk1 : k < v.place.length) {m : Nat} {f : Int} : (chF v k m f).hist.length = (countV v k).toNat:=by
 obtain ⟨f0,c0,a1,a2,a3,a4,a5,a6,a7,a8,a9⟩:=kfacts hr hk0 hk1
 unfold chF
 simp only [List.length_map,a1,a3,Int.toNat_natCast]
 exact sl3_len (by rw [Hm_len];exact a6)
theorem chF_mem {v : VOL} (hr : rightV v = true) (h8 : byW v.ws) (hl : v.ws.length≤100000) {k : Int} (hk0 : 0≤k) (hk1 : k < v.place.length) {m : Nat} (hm : m≤v.ws.length) {f : Int} : ∀ h ∈ (chF v k m f).hist,histR h = true∧(∀ y ∈ h,y.b≤m∧(y.d.length : Int) = v.size∧∀ c ∈ y.d,c < 256)∧h.length≤m∧(pruneH f h).length = h.length:=by
 intro h hh
 obtain ⟨g,hg,rfl⟩:=List.mem_map.1 hh
 have hg:=mem_sl3 hg
 have hH:=Hm_HF hr h8 (by omega) m hm
 have h1:=hH.r g hg
 have h2:=histR_prune (f:=f) h1
 have h3 : ∀ y ∈ pruneH f g,y.b≤(m : Int):=fun y hy=>hH.t g hg y (pruneH_mem hy)
 have h4:=hst_len (p:=0) (m:=m) h2 h3 (by omega)
 exact ⟨h2,fun y hy=>⟨h3 y hy,hH.d g hg y (pruneH_mem hy)⟩,by omega,by rw [pruneH_two (Int.le_refl f) (histR_rise h1)]⟩
theorem chF_cok {v : VOL} (hr : rightV v = true) (h8 : byW v.ws) (hl : v.ws.length≤100000) {k : Int} (hk0 : 0≤k) (hk1 : k < v.place.length) {m : Nat} (hm : m≤v.ws.length) {f : Int} {n : Nat} (hn : m≤n) : Cok (chF v k m f) n:=by
 obtain ⟨f0,c0,a1,a2,a3,a4,a5,a6,a7,a8,a9⟩:=kfacts hr hk0 hk1
 have hL:=chF_len hr hk0 hk1 (m:=m) (f:=f)
 have hc : (chF v k m f).count = countV v k:=rfl
 refine ⟨by rw [hL,hc];omega,by rw [hc];omega,fun h hh=>?_⟩
 obtain ⟨b1,b2,b3,b4⟩:=chF_mem hr h8 hl hk0 hk1 hm h hh
 exact ⟨b1,by omega,fun x hx=>⟨by have:=(b2 x hx).2.1;omega,(b2 x hx).2.2⟩⟩
theorem chF_csm {v : VOL} (hr : rightV v = true) (h8 : byW v.ws) (hl : v.ws.length≤100000) {k : Int} (hk0 : 0≤k) (hk1 : k < v.place.length) {m : Nat} (hm : m≤v.ws.length) {f : Int} : Csm (chF v k m f):=by
 obtain ⟨f0,c0,a1,a2,a3,a4,a5,a6,a7,a8,a9⟩:=kfacts hr hk0 hk1
 have hL:=chF_len hr hk0 hk1 (m:=m) (f:=f)
 refine ⟨by rw [hL];omega,fun h hh=>?_⟩
 obtain ⟨b1,b2,b3,b4⟩:=chF_mem hr h8 hl hk0 hk1 hm h hh
 exact ⟨by omega,fun x hx=>by have:=(b2 x hx).2.1;omega⟩
theorem chF_rise {v : VOL} (hr : rightV v = true) (h8 : byW v.ws) (hl : v.ws.length≤100000) {k : Int} (hk0 : 0≤k) (hk1 : k < v.place.length) {m : Nat} (hm : m≤v.ws.length) {f : Int} : ∀ h ∈ (chF v k m f).hist,rise h:=fun h hh=>histR_rise (chF_mem hr h8 hl hk0 hk1 hm h hh).1
theorem chF_by {v : VOL} (hr : rightV v = true) (h8 : byW v.ws) (hl : v.ws.length≤100000) {k : Int} (hk0 : 0≤k) (hk1 : k < v.place.length) {m : Nat} (hm : m≤v.ws.length) {f : Int} : byH (chF v k m f).hist:=fun h hh x hx=>((chF_mem hr h8 hl hk0 hk1 hm h hh).2.1 x hx).2.2
theorem atF_prune {size : Nat} {f t : Int} (hft : f≤t) {h : List IT} (hr : rise h) : atF size t (pruneH f h) = atF size t h:=by
 have a:=behN_mono hft hr
 have b:=behN_le t h
 obtain ⟨k,hk⟩ : ∃ k,k = behN f h - 1:=⟨_,rfl⟩
 have e : behN t (h.drop k) = behN t h - k:=by
  refine behN_eq (by simp;omega) (fun i hi h1=>?_) fun i hi h2=>?_
  ·rw [List.getElem_drop];exact behN_lt t h _ _ (by omega)
  ·rw [List.getElem_drop];exact behN_ge t h hr _ _ (by omega)
 have ek : pruneH f h = h.drop k:=by unfold pruneH;rw [hk]
 rw [ek]
 unfold atF
 rw [e]
 by_cases h0 : 0 < behN t h
 ·rw [if_pos (by omega),if_pos h0]
  have e2 : (h.drop k).take (behN t h - k) = (h.take (behN t h)).drop k:=by rw [List.drop_take]
  rw [e2,List.getLast?_drop,if_neg (by simp;omega)]
 ·rw [if_neg (by omega),if_neg h0]

theorem wsR_take {b s : Int} : ∀ {l : List WR} {i : Nat} (k : Nat),wsR b s i l = true→wsR b s i (l.take k) = true
 | [],_,k,_=>by simp [wsR]
 | w :: l,i,0,_=>rfl
 | w :: l,i,k + 1,h=>by
  simp only [wsR,Bool.and_eq_true,List.take_succ_cons] at h ⊢
  exact ⟨h.1,wsR_take k h.2⟩
theorem Hm_bod {v : VOL} (hr : rightV v = true) {m : Nat} {t : Int} (ht : t≤m) : (Hm v m).map (atF v.size.toNat t) = bodV v t:=by
 obtain ⟨r1,r2,r3,r4,r5,r6,r7,r8⟩:=rightV_iff.1 hr
 obtain ⟨s1,s2,s3,s4,s5,s6,s7⟩:=shape_lims r1
 have h:=hWs_at (size:=v.size.toNat) (t:=t) (n:=v.blocks.toNat) (by omega) (v.ws.take m) 0 (List.replicate v.blocks.toNat []) (wsR_take m r8) (by simp) (fun h hh=>by rw [List.eq_of_mem_replicate hh];intro y hy;cases hy)
 show ((v.ws.take m).foldl hW _).map _ = _
 rw [h,List.take_take]
 unfold bodV zB
 rw [show min (t - ((0 : Nat) : Int)).toNat m = t.toNat by omega]
 simp [atF_nil]
theorem chF_read {v : VOL} (hr : rightV v = true) (h8 : byW v.ws) (hl : v.ws.length≤100000) {k : Int} (hk0 : 0≤k) (hk1 : k < v.place.length) {m : Nat} (hm : m≤v.ws.length) {f t : Int} (hft : f≤t) (htm : t≤m) {b : Nat} (hb : (b : Int) < countV v k) :
  ∃ h : (k * v.per).toNat + b < (bodV v t).length,rdC (chF v k m f) b t = ((bodV v t)[(k * v.per).toNat + b],0):=by
 obtain ⟨f0,c0,a1,a2,a3,a4,a5,a6,a7,a8,a9⟩:=kfacts hr hk0 hk1
 have hL:=chF_len hr hk0 hk1 (m:=m) (f:=f)
 have hB:=Hm_bod hr htm
 have hbl : (bodV v t).length = v.blocks.toNat:=bodV_len v t
 have hi : f0 + b < v.blocks.toNat:=by omega
 have hH:=Hm_HF hr h8 (by omega) m hm
 refine ⟨by rw [a1,Int.toNat_natCast,hbl];exact hi,?_⟩
 unfold rdC
 have hc : (chF v k m f).count = countV v k:=rfl
 have hmk : (chF v k m f).mark = m:=rfl
 have hfl : (chF v k m f).floor = f:=rfl
 have hsz : (chF v k m f).size = v.size:=rfl
 rw [if_neg (by omega),if_neg (by omega),if_neg (by omega)]
 have hil : f0 + b < (Hm v m).length:=by rw [Hm_len];exact hi
 have hg : (chF v k m f).hist.getD ((b : Nat) : Int).toNat [] = pruneH f ((Hm v m)[f0 + b]):=by
  have hbc : b < c0:=by omega
  have e : (chF v k m f).hist = (sl3 f0 c0 (Hm v m)).map (pruneH f):=by unfold chF;simp only [a1,a3,Int.toNat_natCast]
  have hll : b < (sl3 f0 c0 (Hm v m)).length:=by rw [sl3_len (by rw [Hm_len];exact a6)];exact hbc
  rw [e,Int.toNat_natCast,List.getD_eq_getElem?_getD,List.getElem?_eq_getElem (by simpa using hll),Option.getD_some,List.getElem_map,sl3_get (by rw [Hm_len];exact a6) hbc]
 rw [hg,hsz,atF_prune hft (histR_rise (hH.r _ (List.getElem_mem hil)))]
 congr 1
 have : (bodV v t)[(k * v.per).toNat + b]? = some (atF v.size.toNat t (Hm v m)[f0 + b]):=by
  rw [← hB,a1,Int.toNat_natCast,List.getElem?_map,List.getElem?_eq_getElem hil];rfl
 exact (List.getElem?_eq_some_iff.1 this).2.symm

def stepM (len : Nat) (to : Int) : Nat→Nat→Nat
 | 0,m=>m
 | d + 1,m=>if (m : Int) < to∧m < len then stepM len to d (min (m + 4) len) else m
def seatM (v : VOL) (to : Int) : Nat:=stepM v.ws.length to v.ws.length 0
theorem stepM_end {len : Nat} {to : Int} {d m : Nat} (h : ¬ ((m : Int) < to∧m < len)) : stepM len to d m = m:=by
 cases d with
 | zero=>rfl
 | succ d=>unfold stepM;rw [if_neg h]
theorem stepM_le {len : Nat} {to : Int} : ∀ {d m : Nat},m≤len→stepM len to d m≤len
 | 0,_,h=>h
 | d + 1,m,h=>by
  unfold stepM
  split
  ·exact stepM_le (by omega)
  ·exact h
theorem stepM_all {len : Nat} {to : Int} (ht : (len : Int)≤to) : ∀ {d m : Nat},m≤len→len≤m + d→stepM len to d m = len
 | 0,m,h,h2=>by unfold stepM;omega
 | d + 1,m,h,h2=>by
  unfold stepM
  split
  ·exact stepM_all ht (by omega) (by omega)
  ·omega
theorem seatM_le (v : VOL) (to : Int) : seatM v to≤v.ws.length:=stepM_le (Nat.zero_le _)
def chG (v : VOL) (k : Int) (m : Nat) : CH:=chF v k m (min v.floor m)
theorem chG_next {v : VOL} (hr : rightV v = true) (h8 : byW v.ws) (hl : v.ws.length≤1000000) {k : Int} (hk0 : 0≤k) (hk1 : k < v.place.length) {m : Nat} (hm : m≤v.ws.length) : applyC (chG v k m) (pushP v k m) = chG v k (min (m + 4) v.ws.length):=by
 obtain ⟨r1,r2,r3,r4,r5,r6,r7,r8⟩:=rightV_iff.1 hr
 unfold chG
 rw [apply_chF hr h8 hl hk0 hk1 hm (by omega) (Int.le_refl _) (by omega) (by omega)]
 have e : pushTo v m = ((min (m + 4) v.ws.length : Nat) : Int):=by unfold pushTo lenV;omega
 rw [e]
 have e2 : max m ((min (m + 4) v.ws.length : Nat) : Int).toNat = min (m + 4) v.ws.length:=by omega
 rw [e2]
 congr 1
 omega

theorem pushV_yes {v : VOL} {k m : Int} (hk0 : 0≤k) (hk1 : k < v.place.length) (h0 : 0≤m) (h1 : m≤lenV v) : pushV v k m = (pushP v k m,true):=by
 unfold pushV pushOk
 rw [if_pos (by simp only [Bool.and_eq_true,decide_eq_true_eq];omega)]

theorem Chunk_con (v : VOL) (k to : Int) (n : Nat) (g : Vgood v n) (hn : n≤50000) (hk0 : 0≤k) (hk1 : k < v.place.length) : Con Tryz.prog 12 [.agg (volC v),I k,I to] [] (.agg (chC (chG v k (seatM v to)))) []:=by
 have hr:=g.right
 have h8:=g.by8
 have hws:=g.ws
 have hlen : lenV v = v.ws.length:=rfl
 have hv:=g.ok hn
 have hP : ∀ m : Nat,m≤v.ws.length→Con Tryz.prog 34 [.agg (volC v),I k,I m] [] (.tup [.agg (pushC (pushP v k m)),B true]) []:=fun m hm=>by
  have:=Push_con v k m hv hr
  rw [pushV_yes hk0 hk1 (by omega) (by omega)] at this
  exact this
 have hA : ∀ m : Nat,m≤v.ws.length→Con Tryz.prog 36 [.agg (chC (chG v k m)),.agg (pushC (pushP v k m))] [] (.agg (chC (chG v k (min (m + 4) v.ws.length)))) []:=fun m hm=>by
  obtain ⟨p1,p2,p3⟩:=pushV_ok g hn k m
  rw [pushV_yes hk0 hk1 (by omega) (by omega)] at p1 p2 p3
  have:=mementoref13_Apply_con (chG v k m) (pushP v k m) n (by omega) (chF_cok hr h8 (by omega) hk0 hk1 hm (by omega)) ⟨p1,fun w hw=>⟨p2 w hw,fun x hx=>?_⟩⟩ p3
  ·rw [chG_next hr h8 (by omega) hk0 hk1 hm] at this
   exact this
  ·have hpr:=push_right hr (by omega) hk0 hk1 (show (0 : Int)≤m by omega) (by omega)
   have:=itemsR_mem ((pushR_facts hpr).2.2.2.2 w hw).2.2 x hx
   have:=(pushR_facts hpr).1
   omega
 have hN : newC (pushP v k 0) = chG v k 0:=by
  rw [chF_new hr hk0 hk1]
  obtain ⟨r1,r2,r3,r4,r5,r6,r7,r8⟩:=rightV_iff.1 hr
  unfold chG
  congr 1
  omega
 have cN:=mementoref13_New_con (pushP v k 0)
 rw [hN] at cN
 have cP0:=hP 0 (by omega)
 generalize pushP v k 0 = p0 at cN cP0
 obtain ⟨M,hM⟩ : ∃ M,M = seatM v to:=⟨_,rfl⟩
 rw [← hM]
 refine C_mementoseat_Chunk nl nl ?_
 simp only [cz,A_mementoseat_Chunk,argL,objL,List.length_nil,Nat.zero_add,zX,simprocAttr]
 refine aS 16 (fun Q hQ=>by simp (disch:=intros;contradiction) only [zS,vC_eq,simprocAttr];exact hQ) ?_
 refine aB 80 ?_
 refine rC [] (cP0) ?_ (hs:=(by exact .inr ⟨pushT_pure _ _,trivial⟩))
 refine aEs (fun Q hQ=>by simp (disch:=intros;contradiction) only [zS,pushC,puC,simprocAttr];exact hQ) ?_
 refine aB 256 ?_
 refine rC [] (cN) ?_ (hs:=(by exact .inr ⟨chC_pure _,trivial⟩))
 refine aEs (fun Q hQ=>by simp (disch:=intros;contradiction) only [zS,chC,chO,simprocAttr];exact hQ) ?_
 refine aw_loopK (X:={ x : Nat × Nat × PU // x.2.1≤v.ws.length∧v.ws.length≤x.2.1 + x.1∧stepM v.ws.length to x.1 x.2.1 = M }) [1,2,3,6,7,9] (fun x=>[(8,B true)]) [16,32] (fun x=>[(176,.box [.v (.int .i64 x.1.2.2.vol),.v (.int .i64 x.1.2.2.chunk),.v (.int .i64 x.1.2.2.count),.v (.int .i64 x.1.2.2.size),.v (.int .i64 x.1.2.2.frm),.v (.int .i64 x.1.2.2.to),.v (.int .i64 x.1.2.2.floor),.sl (x.1.2.2.ws.map wrow)]),(288,.box [.v (.int .i64 (chG v k x.1.2.1).vol),.v (.int .i64 (chG v k x.1.2.1).chunk),.v (.int .i64 (chG v k x.1.2.1).count),.v (.int .i64 (chG v k x.1.2.1).size),.v (.int .i64 (chG v k x.1.2.1).mark),.v (.int .i64 (chG v k x.1.2.1).floor),.sl ((chG v k x.1.2.1).hist.map hrow)])]) (fun x=>x.1.1) (⟨(v.ws.length,0,p0),by simp only;omega,by simp only;omega,hM.symm⟩) ?_ ?_
 ·skip
  simp only [keepS,keepE,Option.getD_some,lk_cons,lkE_cons,List.cons_append,List.nil_append,simprocAttr]
  refine Le.lit [] [] _ _ ?_ ?_ ?_ ?_
  ·simp only [zL,simprocAttr]
  ·simp only [zL,simprocAttr]
  ·simp [rlook]
  ·(simp;done)
 rintro ⟨⟨d,m,pp⟩,k1,k2,k3⟩
 simp only [keepS,keepE,Option.getD_some,lk_cons,lkE_cons,List.cons_append,List.nil_append,simprocAttr]
 simp only [zX]
 simp only at k1 k2 k3
 have hmk : (chG v k m).mark = (m : Int):=rfl
 refine aBDs 352 (fun Q hQ=>by simp (disch:=intros;contradiction) only [zS,hmk,simprocAttr];exact hQ) ?_
 refine rG _ _ (mementoref16_Len_con v) ?_
 refine aED ?_
 refine aw_cond _ rfl trivial (fun ht=>?_) (fun hf=>?_)
 rotate_left
 ·skip
  try simp at hf
  simp only [zX,↓reduceIte]
  have k4 : m = M:=by rw [← k3,stepM_end];rw [hlen] at hf;omega
  subst k4
  refine aR 608 ?_
  refine Fin.data [] (.inr rfl) rfl (by (exact ⟨trivial,trivial⟩)) ?_
  simp only [zL]
  all_goals ((repeat' (first | exact trivial | rfl | refine ⟨?_,?_⟩)))
 try simp at ht
 simp only [zX]
 have hlt : (m : Int) < to∧m < v.ws.length:=by rw [hlen] at ht;omega
 obtain ⟨d',hd⟩ : ∃ d',d = d' + 1:=⟨d - 1,by omega⟩
 rw [hd] at k3
 unfold stepM at k3
 rw [if_pos hlt] at k3
 have cPm:=hP m k1
 have cAm:=hA m k1
 generalize pushP v k m = pm at cPm cAm
 refine aB 672 ?_
 refine rC [] (cPm) ?_ (hs:=(by exact .inr ⟨pushT_pure _ _,trivial⟩))
 refine aEs (fun Q hQ=>by simp (disch:=intros;contradiction) only [zS,pushC,puC,simprocAttr];exact hQ) ?_
 refine aB 864 ?_
 refine rC [] (cAm) ?_ (hs:=(by exact .inr ⟨chC_pure _,trivial⟩))
 refine aEs (fun Q hQ=>by simp (disch:=intros;contradiction) only [zS,chC,chO,simprocAttr];exact hQ) ?_
 refine ⟨⟨(d',min (m + 4) v.ws.length,pm),by simp only;omega,by simp only;omega,k3⟩,?_,by first | omega | (simp only;omega)⟩
 refine Le.lit [] [] _ _ ?_ ?_ ?_ ?_
 ·simp only [zL,simprocAttr]
 ·simp only [zL,simprocAttr]
 ·simp [rlook]
 ·(simp;done)

end Go.Abs

namespace Go.Abs
open Go Go.Proofs
set_option maxRecDepth 100000
set_option linter.unusedSimpArgs false
set_option maxHeartbeats 8000000

theorem place_pos {v : VOL} (hr : rightV v = true) : 1≤v.place.length:=by
 obtain ⟨hs,_⟩:=right_facts hr
 obtain ⟨g1,g2,g3,g4,g5,g6,g7,g8,g9,g10,g11,g12⟩:=shape_facts hs
 unfold chunksN at g9
 rw [Int.tdiv_eq_ediv_of_nonneg (by omega)] at g9
 have : 1≤(v.blocks + v.per - 1) / v.per:=(Int.le_ediv_iff_mul_le (by omega)).2 (by omega)
 omega
end Go.Abs

namespace Go.Abs
open Go Go.Proofs
set_option maxRecDepth 100000
set_option linter.unusedSimpArgs false
set_option maxHeartbeats 8000000

theorem rdC_in {c : CH} {b : Nat} {t : Int} (hb : b < c.hist.length) (hc : (c.hist.length : Int) = c.count) (h1 : c.floor≤t) (h2 : t≤c.mark) : rdC c b t = (atF c.size.toNat t c.hist[b],0):=by
 unfold rdC
 rw [if_neg (by omega),if_neg (by omega),if_neg (by omega)]
 simp [hb]
theorem atF_same {size : Nat} {s t : Int} {h : List IT} (hb : behN s h = behN t h) : atF size s h = atF size t h:=by unfold atF;rw [hb]
theorem atF_by {size : Nat} {t : Int} {h : List IT} (hb : byI h) : ∀ c ∈ atF size t h,c < 256:=by
 unfold atF
 split
 ·intro c hc
  cases hq : (h.take (behN t h)).getLast? with
  | none=>rw [hq] at hc;cases hc
  | some y =>
   rw [hq] at hc
   exact hb y (List.mem_of_mem_take (List.mem_of_getLast? hq)) c hc
 ·intro c hc
  rw [List.eq_of_mem_replicate hc];omega
end Go.Abs

namespace Go.Abs
open Go Go.Proofs
set_option maxRecDepth 100000
set_option linter.unusedSimpArgs false
set_option maxHeartbeats 8000000

theorem drows_ch (l : List CH) : isDRows (l.map chC):=by
 intro r hr c hc
 obtain ⟨p,_,rfl⟩:=List.mem_map.1 hr
 exact chC_pure p c hc
def Gch (v : VOL) (c : CH) : Prop:=∃ k m : Nat,k < v.place.length∧m≤v.ws.length∧c = chG v k m
def eqC (v : VOL) (n f t : Int) (c : CH) : Bool:=decide (c.vol = v.id) && decide (c.chunk = n) && decide (c.count = countV v n) && decide (c.size = v.size) && decide (c.floor≤f) && decide (t≤c.mark)
def pickO (v : VOL) (l : List CH) (n f t : Int) : Option CH:=if 0≤n∧n < v.place.length then l.find? (eqC v n f t) else none
def pickR : Option CH→CH × Bool
 | some c=>(c,true)
 | none=>(zeroCH,false)
def mayE (v : VOL) (f t : Int) : Int:=if v.hid = true then 28 else if t < f then 23 else if f < v.floor then 30 else if lenV v < t then 31 else 0

theorem find_yes {α : Type} {p : α→Bool} : ∀ {l : List α} {i : Nat} (hi : i < l.length),(l.take i).all (fun c=>!p c) = true→p l[i] = true→l.find? p = some l[i]
 | a :: l,0,_,_,h2=>by
  have h2' : p a = true:=h2
  rw [List.find?_cons,h2'];rfl
 | a :: l,i + 1,hi,h1,h2=>by
  rw [List.take_succ_cons,List.all_cons,Bool.and_eq_true] at h1
  have ha : p a = false:=by simpa using h1.1
  rw [List.find?_cons,ha]
  exact find_yes (by simpa using hi) h1.2 h2
theorem find_no {α : Type} {p : α→Bool} {l : List α} (h : l.all (fun c=>!p c) = true) : l.find? p = none:=by
 rw [List.find?_eq_none]
 intro x hx
 have:=List.all_eq_true.1 h x hx
 simpa using this
theorem pushV_cases (v : VOL) (hg : Vgood v 50000) (n : Int) : ((pushV v n 0).2 = true∧(0≤n∧n < v.place.length)∧(pushV v n 0).1 = pushP v n 0)∨((pushV v n 0).2 = false∧¬ (0≤n∧n < v.place.length)):=by
 unfold pushV
 split
 ·rename_i h
  simp only [pushOk,Bool.and_eq_true,decide_eq_true_eq] at h
  exact .inl ⟨rfl,⟨h.1.1.1,h.1.1.2⟩,rfl⟩
 ·rename_i h
  refine .inr ⟨rfl,fun hh=>h ?_⟩
  have : 0≤lenV v:=by unfold lenV;omega
  simp only [pushOk,Bool.and_eq_true,decide_eq_true_eq]
  exact ⟨⟨⟨hh.1,hh.2⟩,Int.le_refl _⟩,this⟩

theorem applyC_zero (c : CH) : applyC c zeroP = c:=by
 unfold applyC
 rw [if_neg]
 intro h
 simp [applyOk,pushR,zeroP,shapeC,inR] at h
theorem Gch.cok {v : VOL} {c : CH} (hg : Vgood v 50000) (h : Gch v c) : Cok c 50000:=by
 obtain ⟨k,m,h1,h2,rfl⟩:=h
 exact chF_cok hg.right hg.by8 (by have:=hg.ws;omega) (by omega) (by omega) h2 (by have:=hg.ws;omega)
theorem copied_con (v : VOL) (c : CH) (hg : Vgood v 50000) (h : Gch v c) : Con Tryz.prog 44 [.agg (chC c)] [] (.agg (chC c)) []:=by
 have cA:=chunk_Apply_con c zeroP 50000 (by omega) (h.cok hg) ⟨by simp [zeroP],fun w hw=>by cases hw⟩ (fun w hw=>by cases hw)
 rw [applyC_zero] at cA
 refine C_export_copied nl nl ?_
 simp only [cz,A_export_copied,argL,objL,List.length_nil,zX]
 refine aS 16 (fun Q hQ=>by simp (disch:=intros;contradiction) only [zS,chC,chO,simprocAttr];exact hQ) ?_
 refine aB 80 ?_
 refine rC [] (cA) ?_ (hs:=(by exact .inr ⟨chC_pure _,trivial⟩))
 refine aEs (fun Q hQ=>by simp (disch:=intros;contradiction) only [zS,chC,chO,simprocAttr];exact hQ) ?_
 refine Fin.data [] (.inr rfl) rfl (by (exact ⟨trivial,trivial⟩)) ?_
 simp only [zL]
 all_goals ((repeat' (first | exact trivial | rfl | refine ⟨?_,?_⟩)))

theorem export_may_con (v : VOL) (f t : Int) : Con Tryz.prog 37 [.agg (volC v),I f,I t] [] (I (mayE v f t)) []:=by
 refine C_export_may nl nl ?_
 simp only [cz,A_export_may,argL,objL,List.length_nil,Nat.zero_add,zX,simprocAttr]
 refine aS 16 (fun Q hQ=>by simp (disch:=intros;contradiction) only [zS,vC_eq,simprocAttr];exact hQ) ?_
 refine aR 80 ?_
 refine aw_cond _ rfl trivial (fun ht=>?_) (fun hf=>?_)
 ·skip
  try simp at ht
  simp only [zX]
  refine aR 160 ?_
  refine Fin.i (.inr rfl) rfl trivial ?_
  unfold mayE;rw [if_pos (by simpa using ht)]
 try simp at hf
 simp only [zX]
 have h1 : ¬ v.hid = true:=by simpa using hf
 refine aR 208 ?_
 refine aw_cond _ rfl trivial (fun ht=>?_) (fun hf=>?_)
 ·skip
  try simp at ht
  simp only [zX]
  refine aR 304 ?_
  refine Fin.i (.inr rfl) rfl trivial ?_
  unfold mayE;rw [if_neg h1,if_pos (by omega)]
 try simp at hf
 simp only [zX]
 have h2 : ¬ t < f:=by omega
 refine aR 352 ?_
 refine aw_cond _ rfl trivial (fun ht=>?_) (fun hf=>?_)
 ·skip
  try simp at ht
  simp only [zX]
  refine aR 464 ?_
  refine Fin.i (.inr rfl) rfl trivial ?_
  unfold mayE;rw [if_neg h1,if_neg h2,if_pos (by omega)]
 try simp at hf
 simp only [zX]
 have h3 : ¬ f < v.floor:=by omega
 refine aB 512 ?_
 refine rC [] (volume_Len_con v) ?_
 refine aE ?_
 refine aw_cond _ rfl trivial (fun ht=>?_) (fun hf=>?_)
 ·skip
  try simp at ht
  simp only [zX]
  refine aR 624 ?_
  refine Fin.i (.inr rfl) rfl trivial ?_
  unfold mayE;rw [if_neg h1,if_neg h2,if_neg h3,if_pos (by omega)]
 try simp at hf
 simp only [zX]
 refine aR 672 ?_
 refine Fin.i (.inr rfl) rfl trivial ?_
 unfold mayE;rw [if_neg h1,if_neg h2,if_neg h3,if_neg (by omega)]

theorem export_Pick_con (v : VOL) (l : List CH) (n f t : Int) (hg : Vgood v 50000) (hl : l.length≤1000000) (hc : ∀ c ∈ l,Gch v c) :
  Con Tryz.prog 22 [.agg (volC v),.c (.sl (l.map chC)),I n,I f,I t] [] (.tup [.agg (chC (pickR (pickO v l n f t)).1),B (pickR (pickO v l n f t)).2]) []:=by
 have cP:=volume_Push_con v n 0 (hg.ok (Nat.le_refl _)) hg.right
 have hP:=pushV_cases v hg n
 generalize pushV v n 0 = q at cP hP
 obtain ⟨q1,q2⟩:=q
 simp only at cP hP
 refine C_export_Pick nl nl ?_
 simp only [cz,A_export_Pick,argL,objL,List.length_nil,Nat.zero_add,zX,simprocAttr]
 refine aS 16 (fun Q hQ=>by simp (disch:=intros;contradiction) only [zS,vC_eq,simprocAttr];exact hQ) ?_
 refine aB 96 ?_
 refine rC [] (cP) ?_ (hs:=(by exact .inr ⟨pushT_pure _ _,trivial⟩))
 refine aEs (fun Q hQ=>by simp (disch:=intros;contradiction) only [zS,pushC,puC,simprocAttr];exact hQ) ?_
 refine aR 272 ?_
 refine aw_cond _ rfl trivial (fun ht=>?_) (fun hf=>?_)
 ·skip
  try simp at ht
  simp only [zX]
  have : pickO v l n f t = none:=by
   unfold pickO
   rcases hP with hP | hP
   ·simp [hP.1] at ht
   ·rw [if_neg hP.2]
  rw [this]
  refine aR 336 ?_
  refine Fin.data [] (.inr rfl) rfl (by (exact ⟨trivial,trivial⟩)) ?_
  simp only [zL,simprocAttr]
  all_goals ((repeat' (first | exact trivial | rfl | refine ⟨?_,?_⟩)))
 try simp at hf
 simp only [zX]
 obtain ⟨hin,hq⟩ : (0≤n∧n < v.place.length)∧q1 = pushP v n 0:=by
  rcases hP with hP | hP
  ·exact hP.2
  ·simp [hP.1] at hf
 have hv1 : q1.vol = v.id:=by rw [hq];rfl
 have hv2 : q1.chunk = n:=by rw [hq];rfl
 have hv3 : q1.count = countV v n:=by
  rw [hq]
  obtain ⟨f0,c0,a1,a2,a3,a4⟩:=kfacts hg.right hin.1 hin.2
  show min v.per (v.blocks - n * v.per) = _
  rw [a2,a3]
 have hv4 : q1.size = v.size:=by rw [hq];rfl
 have hO : pickO v l n f t = l.find? (eqC v n f t):=by unfold pickO;rw [if_pos hin]
 rw [hO]
 clear hq
 refine aS 416 (fun Q hQ=>by simp (disch:=intros;contradiction) only [zS,zW,hv1,hv2,hv3,hv4,simprocAttr];exact hQ) ?_
 refine aw_loopK (X:={ i : Nat // i≤l.length∧(l.take i).all (fun c=>!eqC v n f t c) = true }) [3,4,10,12,25,26] (fun i=>[(27,I i.1)]) [32,192] (fun i=>[]) (fun i=>l.length - i.1) (⟨0,by omega,rfl⟩) ?_ ?_
 ·skip
  simp only [keepS,keepE,Option.getD_some,lk_cons,lkE_cons,List.cons_append,List.nil_append,simprocAttr]
  refine Le.lit [] [] _ _ ?_ ?_ ?_ ?_
  ·simp only [zL,simprocAttr]
  ·simp only [zL,simprocAttr]
  ·simp [rlook]
  ·(simp;done)
 rintro ⟨i,hi,hall⟩
 simp only [keepS,keepE,Option.getD_some,lk_cons,lkE_cons,List.cons_append,List.nil_append,simprocAttr]
 simp only [zX]
 refine aR 496 ?_
 refine aw_cond _ rfl trivial (fun ht=>?_) (fun hf=>?_)
 ·skip
  try simp at ht
  simp only [zX]
  have hi' : i < l.length:=by omega
  have hG:=hc _ (List.getElem_mem hi')
  have hyes : eqC v n f t l[i] = true→l.find? (eqC v n f t) = some l[i]:=find_yes hi' hall
  have hno : eqC v n f t l[i] = false→(l.take (i + 1)).all (fun c=>!eqC v n f t c) = true:=fun h=>by rw [all_succ hi',hall,h];rfl
  generalize hci : l[i] = c at hG hyes hno
  refine aS 544 (fun Q hQ=>by simp (disch:=first | (intros;contradiction) | omega | (simp only [zN];omega)) only [zS,zW,chC,chO,hci,simprocAttr];repeat refine ⟨by (omega),?_⟩;exact hQ) ?_
  refine aR 640 ?_
  refine aw_cond _ rfl trivial (fun ht=>?_) (fun hf=>?_)
  ·skip
   try simp at ht
   simp only [zX]
   rw [hyes (by simp only [eqC,Bool.and_eq_true,decide_eq_true_eq];omega)]
   refine aB 1280 ?_
   refine rC [] (copied_con v c hg hG) ?_ (hs:=(by exact .inr ⟨chC_pure _,trivial⟩))
   refine aEs (fun Q hQ=>by simp (disch:=intros;contradiction) only [zS,chC,chO,simprocAttr];exact hQ) ?_
   refine Fin.data [] (.inr rfl) rfl (by (exact ⟨trivial,trivial⟩)) ?_
   simp only [zL,simprocAttr]
   all_goals ((repeat' (first | exact trivial | rfl | refine ⟨?_,?_⟩)))
  try simp at hf
  simp only [zX]
  refine aS 1376 (fun Q hQ=>by simp (disch:=first | (intros;contradiction) | omega | (simp only [zN];omega)) only [zS,zW,simprocAttr];exact hQ) ?_
  refine ⟨⟨i + 1,hi',hno (by rw [Bool.eq_false_iff];intro h;simp only [eqC,Bool.and_eq_true,decide_eq_true_eq] at h;omega)⟩,?_,by first | omega | (simp only;omega)⟩
  refine Le.lit [] [] _ _ ?_ ?_ ?_ ?_
  ·simp only [zL,simprocAttr]
   all_goals (try ((repeat' (rfl))))
  ·simp only [zL,simprocAttr]
  ·simp [rlook]
  ·(simp;done)
 try simp at hf
 simp only [zX,↓reduceIte]
 obtain rfl : i = l.length:=by omega
 rw [List.take_length] at hall
 rw [find_no hall]
 refine aR 1440 ?_
 refine Fin.data [] (.inr rfl) rfl (by (exact ⟨trivial,trivial⟩)) ?_
 simp only [zL,simprocAttr]
 all_goals ((repeat' (first | exact trivial | rfl | refine ⟨?_,?_⟩)))

theorem count_pos {v : VOL} (hg : Vgood v 50000) (n : Int) : 0 < countV v n ↔ 0≤n∧n < v.place.length:=by
 constructor
 ·intro h
  unfold countV at h
  split at h
  ·omega
  ·rename_i hh;omega
 ·intro h
  obtain ⟨f0,c0,a1,a2,a3,a4,_⟩:=kfacts hg.right h.1 h.2
  omega
theorem mementoref23_Pick_con (v : VOL) (l : List CH) (n f t : Int) (hg : Vgood v 50000) (hl : l.length≤1000000) :
  Con Tryz.prog 23 [.agg (volC v),.c (.sl (l.map chC)),I n,I f,I t] [] (.tup [.agg (chC (pickR (pickO v l n f t)).1),B (pickR (pickO v l n f t)).2]) []:=by
 obtain ⟨hs,hf0,hf1,hpins,hws⟩:=right_facts hg.right
 obtain ⟨ok1,ok2,ok3,ok4⟩:=hg.ok (Nat.le_refl _)
 have cC:=Count_con v n hs ok1
 have hcp:=count_pos hg n
 refine C_mementoref23_Pick nl nl ?_
 simp only [cz,A_mementoref23_Pick,argL,objL,List.length_nil,Nat.zero_add,zX,simprocAttr]
 refine aS 16 (fun Q hQ=>by simp (disch:=intros;contradiction) only [zS,vC_eq,simprocAttr];exact hQ) ?_
 refine aB 96 ?_
 refine rC [] (cC) ?_
 refine aE ?_
 refine aR 192 ?_
 refine aw_loopK (X:={ i : Nat // i≤l.length∧(l.take i).all (fun c=>!(decide (0 < countV v n) && eqC v n f t c)) = true }) [1,2,3,4,5,10,12] (fun i=>[(13,I i.1)]) [16,32] (fun i=>[]) (fun i=>l.length - i.1) (⟨0,by omega,rfl⟩) ?_ ?_
 ·skip
  simp only [keepS,keepE,Option.getD_some,lk_cons,lkE_cons,List.cons_append,List.nil_append,simprocAttr]
  refine Le.lit [] [] _ _ ?_ ?_ ?_ ?_
  ·simp only [zL,simprocAttr]
  ·simp only [zL,simprocAttr]
  ·simp [rlook]
  ·(simp;done)
 rintro ⟨i,hi,hall⟩
 simp only [keepS,keepE,Option.getD_some,lk_cons,lkE_cons,List.cons_append,List.nil_append,simprocAttr]
 simp only [zX]
 refine aS 240 (fun Q hQ=>by simp (disch:=intros;contradiction) only [zS,zW,simprocAttr];exact hQ) ?_
 refine aw_cond _ rfl trivial (fun ht=>?_) (fun hf=>?_)
 ·skip
  try simp at ht
  simp only [zX]
  have hi' : i < l.length:=by omega
  have hyes : 0 < countV v n→eqC v n f t l[i] = true→pickO v l n f t = some l[i]:=fun h0 h=>by
   unfold pickO
   rw [if_pos (hcp.1 h0)]
   refine find_yes hi' ?_ h
   rw [show decide (0 < countV v n) = true by simpa using h0] at hall
   simpa only [Bool.true_and] using hall
  have hno : (0 < countV v n→eqC v n f t l[i] = false)→(l.take (i + 1)).all (fun c=>!(decide (0 < countV v n) && eqC v n f t c)) = true:=fun h=>by
   rw [all_succ hi',hall,Bool.true_and]
   by_cases h0 : 0 < countV v n
   ·rw [h h0,Bool.and_false];rfl
   ·rw [show decide (0 < countV v n) = false by simpa using h0];rfl
  generalize hci : l[i] = c at hyes hno
  refine aS 336 (fun Q hQ=>by simp (disch:=first | (intros;contradiction) | omega | (simp only [zN];omega)) only [zS,zW,chC,chO,hci,simprocAttr];repeat refine ⟨by (omega),?_⟩;exact hQ) ?_
  refine aR 464 ?_
  refine aw_cond _ rfl trivial (fun ht=>?_) (fun hf=>?_)
  ·skip
   try simp at ht
   simp only [zX]
   rw [hyes (by omega) (by simp only [eqC,Bool.and_eq_true,decide_eq_true_eq];omega)]
   refine aR 1136 ?_
   refine Fin.data [] (.inr rfl) rfl (by (exact ⟨trivial,trivial⟩)) ?_
   simp only [zL,simprocAttr]
   all_goals ((repeat' (first | exact trivial | rfl | refine ⟨?_,?_⟩)))
  try simp at hf
  simp only [zX]
  refine aS 1216 (fun Q hQ=>by simp (disch:=first | (intros;contradiction) | omega | (simp only [zN];omega)) only [zS,zW,simprocAttr];exact hQ) ?_
  refine ⟨⟨i + 1,hi',hno (fun h0=>by rw [Bool.eq_false_iff];intro h;simp only [eqC,Bool.and_eq_true,decide_eq_true_eq] at h;omega)⟩,?_,by first | omega | (simp only;omega)⟩
  refine Le.lit [] [] _ _ ?_ ?_ ?_ ?_
  ·simp only [zL,simprocAttr]
   all_goals (try ((repeat' (rfl))))
  ·simp only [zL,simprocAttr]
  ·simp [rlook]
  ·(simp;done)
 try simp at hf
 simp only [zX,↓reduceIte]
 obtain rfl : i = l.length:=by omega
 rw [List.take_length] at hall
 have : pickO v l n f t = none:=by
  unfold pickO
  split
  ·rename_i h
   have h0:=hcp.2 h
   refine find_no ?_
   rw [show decide (0 < countV v n) = true by simpa using h0] at hall
   simpa only [Bool.true_and] using hall
  ·rfl
 rw [this]
 refine aR 1296 ?_
 refine Fin.data [] (.inr rfl) rfl (by (exact ⟨trivial,trivial⟩)) ?_
 simp only [zL,simprocAttr]
 all_goals ((repeat' (first | exact trivial | rfl | refine ⟨?_,?_⟩)))

end Go.Abs

namespace Go.Abs
open Go Go.Proofs
set_option maxRecDepth 100000
set_option linter.unusedSimpArgs false
set_option maxHeartbeats 8000000

structure STR where
 blocks : Int
 size : Int
 frm : Int
 to : Int
 items : List IT
def strC (s : STR) : List C:=[.v (.int .i64 s.blocks),.v (.int .i64 s.size),.v (.int .i64 s.frm),.v (.int .i64 s.to),.sl (s.items.map irow)]
def zeroS : STR:=⟨0,0,0,0,[]⟩
theorem strC_pure (s : STR) : (SV.agg (strC s)).pureD:=by
 intro x hx
 simp only [strC,List.mem_cons,List.not_mem_nil,or_false] at hx
 rcases hx with rfl | rfl | rfl | rfl | rfl <;> rfl
theorem strT_pure (s : STR) (x : Value) : (SV.tup [.agg (strC s),.c (.v x)]).pureD:=by
 intro y hy
 simp only [List.mem_cons,List.not_mem_nil,or_false] at hy
 rcases hy with rfl | rfl
 ·exact strC_pure s
 ·rfl

def picksN (v : VOL) (l : List CH) (f t : Int) : Nat→Option (List CH)
 | 0=>some []
 | n + 1=>match picksN v l f t n with
  | none=>none
  | some a=>match pickO v l n f t with
   | none=>none
   | some c=>some (a ++ [c])
theorem picksN_none {v : VOL} {l : List CH} {f t : Int} {n : Nat} (h : picksN v l f t n = none) : ∀ {m : Nat},n≤m→picksN v l f t m = none
 | 0,hm=>by
  have : n = 0:=by omega
  subst this;exact h
 | m + 1,hm=>by
  by_cases hn : n = m + 1
  ·rw [← hn];exact h
  ·have:=picksN_none h (m:=m) (by omega)
   unfold picksN;rw [this]
theorem picksN_len {v : VOL} {l : List CH} {f t : Int} : ∀ {n : Nat} {cs : List CH},picksN v l f t n = some cs→cs.length = n
 | 0,cs,h=>by cases h;rfl
 | n + 1,cs,h=>by
  unfold picksN at h
  cases h1 : picksN v l f t n with
  | none=>rw [h1] at h;cases h
  | some a =>
   rw [h1] at h
   simp only at h
   cases h2 : pickO v l n f t with
   | none=>rw [h2] at h;cases h
   | some c =>
    rw [h2] at h
    cases h
    have:=picksN_len h1
    simp;omega
theorem pickO_mem {v : VOL} {l : List CH} {n f t : Int} {c : CH} (h : pickO v l n f t = some c) : c ∈ l∧eqC v n f t c = true:=by
 unfold pickO at h
 split at h
 ·exact ⟨List.mem_of_find?_eq_some h,List.find?_some h⟩
 ·cases h
theorem picksN_mem {v : VOL} {l : List CH} {f t : Int} : ∀ {n : Nat} {cs : List CH},picksN v l f t n = some cs→∀ (i : Nat) (hi : i < cs.length),cs[i] ∈ l∧eqC v i f t cs[i] = true
 | 0,cs,h,i,hi=>by cases h;simp at hi
 | n + 1,cs,h,i,hi=>by
  unfold picksN at h
  cases h1 : picksN v l f t n with
  | none=>rw [h1] at h;cases h
  | some a =>
   rw [h1] at h
   simp only at h
   cases h2 : pickO v l n f t with
   | none=>rw [h2] at h;cases h
   | some c =>
    rw [h2] at h
    cases h
    have hal:=picksN_len h1
    by_cases hia : i < a.length
    ·have:=picksN_mem h1 i hia
     rw [List.getElem_append_left hia]
     exact this
    ·have hin : i = n:=by simp at hi;omega
     subst hin
     rw [List.getElem_append_right (by omega)]
     simp only [hal,Nat.sub_self,List.getElem_cons_zero]
     exact pickO_mem h2
def blkL (c : CH) (f t : Int) (full : Bool) (i : Nat) : List Nat:=(List.range i).filter fun b=>full || chgH f t (c.hist.getD b [])
def itmL (v : VOL) (n : Int) (c : CH) (t : Int) (bs : List Nat) : List IT:=bs.map fun b : Nat=>⟨n * v.per + (b : Int),(rdC c (b : Int) t).1⟩
def itsX (v : VOL) (f t : Int) (full : Bool) (cs : List CH) : Nat→List IT
 | 0=>[]
 | n + 1=>itsX v f t full cs n ++ itmL v n (cs.getD n zeroCH) t (blkL (cs.getD n zeroCH) f t full (cs.getD n zeroCH).hist.length)
def strS (v : VOL) (l : List CH) (f t : Int) (full : Bool) : STR × Int :=
 if mayE v f t≠0 then (zeroS,mayE v f t) else
 match picksN v l f t v.place.length with
 | none=>(zeroS,32)
 | some cs=>(⟨v.blocks,v.size,if full = true then -1 else f,t,itsX v f t full cs v.place.length⟩,0)
def picksE : Option (List CH)→List CH × Int
 | some cs=>(cs,0)
 | none=>([],32)
theorem itsX_app {v : VOL} {f t : Int} {full : Bool} {cs es : List CH} : ∀ {n : Nat},n≤cs.length→itsX v f t full (cs ++ es) n = itsX v f t full cs n
 | 0,_=>rfl
 | n + 1,h=>by
  have e : (cs ++ es).getD n zeroCH = cs.getD n zeroCH:=by
   rw [List.getD_eq_getElem?_getD,List.getD_eq_getElem?_getD,List.getElem?_append_left (by omega)]
  unfold itsX
  rw [itsX_app (by omega),e]
theorem blkL_succ (c : CH) (f t : Int) (full : Bool) (i : Nat) : blkL c f t full (i + 1) = if (full || chgH f t (c.hist.getD i [])) = true then blkL c f t full i ++ [i] else blkL c f t full i:=by
 unfold blkL
 rw [List.range_succ,List.filter_append]
 split
 ·rename_i h;simp only [List.filter_cons,h,if_true,List.filter_nil]
 ·rename_i h;simp only [List.filter_cons,h,List.filter_nil];simp
theorem blkL_len (c : CH) (f t : Int) (full : Bool) (i : Nat) : (blkL c f t full i).length≤i:=by
 unfold blkL;exact Nat.le_trans (List.length_filter_le ..) (by simp)
theorem blkL_full (c : CH) (f t : Int) (i : Nat) : blkL c f t true i = List.range i:=by
 unfold blkL;simp
theorem chgF_blk (c : CH) (f t : Int) (i : Nat) : chgF c.hist f t i = (blkL c f t false i).map fun b : Nat=>(b : Int):=by
 unfold chgF blkL;simp
theorem itsX_len {v : VOL} {f t : Int} {full : Bool} {cs : List CH} (h : ∀ c ∈ cs,c.hist.length≤256) : ∀ (n : Nat),(itsX v f t full cs n).length≤n * 256
 | 0=>by simp [itsX]
 | n + 1=>by
  have ih:=itsX_len (v:=v) (f:=f) (t:=t) (full:=full) h n
  have h1 : (cs.getD n zeroCH).hist.length≤256:=by
   rw [List.getD_eq_getElem?_getD]
   by_cases hn : n < cs.length
   ·rw [List.getElem?_eq_getElem hn];exact h _ (List.getElem_mem hn)
   ·rw [List.getElem?_eq_none (by omega)];simp [zeroCH]
  have h2:=blkL_len (cs.getD n zeroCH) f t full (cs.getD n zeroCH).hist.length
  unfold itsX
  rw [List.length_append,itmL,List.length_map]
  omega

theorem Gch.facts {v : VOL} {c : CH} (hg : Vgood v 50000) (h : Gch v c) : Cin c∧(∀ h ∈ c.hist,rise h)∧(c.hist.length : Int) = c.count∧c.hist.length≤256∧(1≤c.size∧c.size≤32):=by
 obtain ⟨k,m,h1,h2,rfl⟩:=h
 have hwl:=hg.ws
 obtain ⟨f0,c0,a1,a2,a3,a4,a5,a6,a7,a8,a9⟩:=kfacts hg.right (show (0 : Int)≤k by omega) (show (k : Int) < v.place.length by omega)
 have hL:=chF_len hg.right (k:=k) (by omega) (by omega) (m:=m) (f:=min v.floor m)
 have hc : (chG v k m).count = countV v k:=rfl
 have hL' : (chG v k m).hist.length = (countV v k).toNat:=hL
 exact ⟨(chF_csm hg.right hg.by8 (by omega) (by omega) (by omega) h2).cin,chF_rise hg.right hg.by8 (by omega) (by omega) (by omega) h2,by rw [hL',hc];omega,by rw [hL'];omega,a9⟩

theorem export_picks_con (v : VOL) (l : List CH) (f t : Int) (hg : Vgood v 50000) (hl : l.length≤1000000) (hc : ∀ c ∈ l,Gch v c) :
  Con Tryz.prog 38 [.agg (volC v),.c (.sl (l.map chC)),I f,I t] [] (.tup [.c (.sl ((picksE (picksN v l f t v.place.length)).1.map chC)),I (picksE (picksN v l f t v.place.length)).2]) []:=by
 obtain ⟨hs,hf0,hf1,hpins,hws⟩:=right_facts hg.right
 have hpl:=(shape_lims hs).2.2.2.2.2.2
 refine C_export_picks nl nl ?_
 simp only [cz,A_export_picks,argL,objL,List.length_nil,Nat.zero_add,zX,simprocAttr]
 refine aS 16 (fun Q hQ=>by simp (disch:=intros;contradiction) only [zS,vC_eq,simprocAttr];exact hQ) ?_
 refine aR 96 ?_
 refine aS 144 (fun Q hQ=>by simp (disch:=intros;contradiction) only [zS,zW,simprocAttr];exact hQ) ?_
 refine aw_loopK (X:={ x : Nat × List CH // x.1≤v.place.length∧picksN v l f t x.1 = some x.2∧x.2.length = x.1 }) [1,2,3,4,16] (fun x=>[(10,.c (.osl 5000)),(17,I x.1.1)]) [16] (fun x=>[(5000,.arr 35 7 (x.1.2.map chC) false)]) (fun x=>v.place.length - x.1.1) (⟨(0,[]),by simp only;omega,rfl,rfl⟩) ?_ ?_
 ·skip
  simp only [keepS,keepE,Option.getD_some,lk_cons,lkE_cons,List.cons_append,List.nil_append,simprocAttr]
  refine (Le.own 10 5000 35 7 rfl rfl (by decide)).trans ?_
  simp only [setS_cons,setE_cons,setE_nil,simprocAttr]
  refine Le.lit [] [] _ _ ?_ ?_ ?_ ?_
  ·simp only [zL,simprocAttr]
  ·simp only [zL,simprocAttr]
   all_goals (try ((repeat' (((simp [C.isD];done))))))
  ·simp [rlook]
  ·(simp;done)
 rintro ⟨⟨n,cs⟩,h1,h2,h3⟩
 simp only [keepS,keepE,Option.getD_some,lk_cons,lkE_cons,List.cons_append,List.nil_append,simprocAttr]
 simp only [zX]
 simp only at h1 h2 h3
 refine aR 240 ?_
 refine aw_cond _ rfl trivial (fun ht=>?_) (fun hf=>?_)
 ·skip
  try simp at ht
  simp only [zX]
  have hn : n < v.place.length:=by omega
  have cP:=export_Pick_con v l n f t hg hl hc
  have hnext : picksN v l f t (n + 1) = match pickO v l n f t with | none=>none | some c=>some (cs ++ [c]):=by
   show (match picksN v l f t n with | none=>none | some a=>match pickO v l n f t with | none=>none | some c=>some (a ++ [c])) = _
   rw [h2]
  by_cases hpo : pickO v l n f t = none
  ·skip
   rw [hpo] at cP hnext
   simp only [pickR] at cP hnext
   have hend : picksN v l f t v.place.length = none:=picksN_none hnext (by omega)
   rw [hend]
   refine aR 288 ?_
   refine aB 352 ?_
   refine rC [] (cP) ?_ (hs:=(by exact .inr ⟨chT_pure _ _,trivial⟩))
   refine aEs (fun Q hQ=>by simp (disch:=intros;contradiction) only [zS,chC,chO,simprocAttr];exact hQ) ?_
   refine aR 576 ?_
   refine aT ?_
   refine aR 640 ?_
   refine Fin.data [] (.inr rfl) rfl (by (exact trivial)) ?_
   simp only [zL,simprocAttr]
   all_goals ((repeat' (first | rfl | refine ⟨?_,?_⟩)))
  obtain ⟨c,hpc⟩ : ∃ c,pickO v l n f t = some c:=Option.ne_none_iff_exists'.1 hpo
  rw [hpc] at cP hnext
  simp only [pickR] at cP hnext
  have e2 : List.map chC cs ++ [[.v (.int .i64 c.vol),.v (.int .i64 c.chunk),.v (.int .i64 c.count),.v (.int .i64 c.size),.v (.int .i64 c.mark),.v (.int .i64 c.floor),.sl (c.hist.map hrow)]] = (cs ++ [c]).map chC:=by rw [List.map_append];rfl
  refine aR 704 ?_
  refine aB 768 ?_
  refine rC [] (cP) ?_ (hs:=(by exact .inr ⟨chT_pure _ _,trivial⟩))
  refine aEs (fun Q hQ=>by simp (disch:=intros;contradiction) only [zS,chC,chO,simprocAttr];exact hQ) ?_
  refine aR 992 ?_
  refine aF ?_
  refine aS 1056 (fun Q hQ=>by simp (disch:=intros;contradiction) only [zS,zW,e2,simprocAttr];repeat refine ⟨by ((simp;omega)),?_⟩;exact hQ) ?_
  refine aS 1168 (fun Q hQ=>by simp (disch:=first | (intros;contradiction) | omega | (simp only [zN];omega)) only [zS,zW,simprocAttr];exact hQ) ?_
  refine ⟨⟨(n + 1,cs ++ [c]),by simp only;omega,hnext,by simp only [List.length_append,List.length_singleton];omega⟩,?_,by first | omega | (simp only;omega)⟩
  refine Le.lit [] [(5000,1104)] _ _ ?_ ?_ ?_ ?_
  ·simp only [zL,simprocAttr]
   all_goals (try ((repeat' (rfl))))
  ·simp only [zL,simprocAttr]
   all_goals (try ((repeat' ((exact drows_ch _)))))
  ·simp [rlook]
  ·(simp;done)
 try simp at hf
 simp only [zX,↓reduceIte]
 obtain rfl : n = v.place.length:=by omega
 rw [h2]
 refine aR 1232 ?_
 refine Fin.data [5000] (.inr rfl) rfl (by (exact trivial)) ?_
 simp only [zL,simprocAttr]
 all_goals ((repeat' (first | rfl | (refine ⟨⟨_,_,rfl⟩,?_⟩;(exact drows_ch _)) | refine ⟨?_,?_⟩)))

end Go.Abs

namespace Go.Abs
open Go Go.Proofs
set_option maxRecDepth 100000
set_option linter.unusedSimpArgs false
set_option maxHeartbeats 8000000

theorem irA_pure (x : IT) : (SV.agg (irow x)).pureD:=by
 intro y hy
 simp only [irow,itC,List.mem_cons,List.not_mem_nil,or_false] at hy
 rcases hy with rfl | rfl <;> rfl
theorem itsX_succ {v : VOL} {f t : Int} {full : Bool} {cs : List CH} {i : Nat} (hi : i < cs.length) {c : CH} (h : cs[i] = c) : itsX v f t full cs (i + 1) = itsX v f t full cs i ++ itmL v i c t (blkL c f t full c.hist.length):=by
 have e : cs.getD i zeroCH = c:=by rw [List.getD_eq_getElem?_getD,List.getElem?_eq_getElem hi];exact h
 show itsX v f t full cs i ++ itmL v i (cs.getD i zeroCH) t (blkL (cs.getD i zeroCH) f t full (cs.getD i zeroCH).hist.length) = _
 rw [e]
theorem itmL_snoc (v : VOL) (n : Int) (c : CH) (t : Int) (bs : List Nat) (b : Nat) : itmL v n c t (bs ++ [b]) = itmL v n c t bs ++ [⟨n * v.per + (b : Int),(rdC c (b : Int) t).1⟩]:=by simp [itmL]
theorem itmL_len (v : VOL) (n : Int) (c : CH) (t : Int) (bs : List Nat) : (itmL v n c t bs).length = bs.length:=by simp [itmL]
theorem per_mul {v : VOL} (hg : Vgood v 50000) {n : Nat} (hn : n≤512) : 0≤(n : Int) * v.per∧(n : Int) * v.per≤131072:=by
 obtain ⟨hs,hf0,hf1,hpins,hws⟩:=right_facts hg.right
 obtain ⟨s1,s2,s3,s4,s5,s6,s7⟩:=shape_lims hs
 have h1 : (n : Int) * v.per≤512 * 256:=Int.mul_le_mul (by omega) (by omega) (by omega) (by omega)
 exact ⟨Int.mul_nonneg (by omega) (by omega),by omega⟩

theorem export_item_con (v : VOL) (n : Nat) (c : CH) (b : Nat) (t : Int) (hg : Vgood v 50000) (hG : Gch v c) (hn : n≤512) (hb : b≤1000) :
  Con Tryz.prog 39 [.agg (volC v),I n,.agg (chC c),I b,I t] [] (.agg (irow ⟨(n : Int) * v.per + (b : Int),(rdC c (b : Int) t).1⟩)) []:=by
 obtain ⟨h1,h2,h3,h4,h5⟩:=hG.facts hg
 have cR:=chunk_Read_con c b t h1 h2 h5
 obtain ⟨hm0,hm1⟩:=per_mul hg hn
 have hw1 : IntKind.i64.wrap ((n : Int) * v.per) = (n : Int) * v.per:=w64 _ (by omega) (by omega)
 have hw2 : IntKind.i64.wrap ((n : Int) * v.per + (b : Int)) = (n : Int) * v.per + (b : Int):=w64 _ (by omega) (by omega)
 generalize rdC c b t = q at cR
 obtain ⟨q1,q2⟩:=q
 simp only at cR ⊢
 refine C_export_item nl nl ?_
 simp only [cz,A_export_item,argL,objL,List.length_nil,Nat.zero_add,zX,simprocAttr]
 refine aS 16 (fun Q hQ=>by simp (disch:=intros;contradiction) only [zS,vC_eq,chC,chO,simprocAttr];exact hQ) ?_
 refine aB 96 ?_
 refine rC [] (cR) ?_ (hs:=(by exact .inr ⟨pureTC,trivial⟩))
 refine aE ?_
 refine aS 272 (fun Q hQ=>by simp (disch:=intros;contradiction) only [zS,hw1,hw2,simprocAttr];exact hQ) ?_
 refine Fin.data [] (.inr rfl) rfl (by (exact ⟨trivial,trivial⟩)) ?_
 simp only [zL]
 all_goals ((repeat' (first | exact trivial | rfl | refine ⟨?_,?_⟩)))

theorem strS_no {v : VOL} {l : List CH} {f t : Int} {full : Bool} (h : mayE v f t≠0) : strS v l f t full = (zeroS,mayE v f t):=by unfold strS;rw [if_pos h]
theorem strS_none {v : VOL} {l : List CH} {f t : Int} {full : Bool} (h : mayE v f t = 0) (h2 : picksN v l f t v.place.length = none) : strS v l f t full = (zeroS,32):=by unfold strS;rw [if_neg (by omega),h2]
theorem strS_some {v : VOL} {l : List CH} {f t : Int} {full : Bool} {cs : List CH} (h : mayE v f t = 0) (h2 : picksN v l f t v.place.length = some cs) : strS v l f t full = (⟨v.blocks,v.size,if full = true then -1 else f,t,itsX v f t full cs v.place.length⟩,0):=by unfold strS;rw [if_neg (by omega),h2]

theorem export_Full_con (v : VOL) (l : List CH) (t : Int) (hg : Vgood v 50000) (hl : l.length≤1000000) (hc : ∀ c ∈ l,Gch v c) :
  Con Tryz.prog 13 [.agg (volC v),.c (.sl (l.map chC)),I t] [] (.tup [.agg (strC (strS v l t t true).1),I (strS v l t t true).2]) []:=by
 obtain ⟨hs,hf0,hf1,hpins,hws⟩:=right_facts hg.right
 have hpl:=(shape_lims hs).2.2.2.2.2.2
 have cP:=export_picks_con v l t t hg hl hc
 refine C_export_Full nl nl ?_
 simp only [cz,A_export_Full,argL,objL,List.length_nil,Nat.zero_add,zX,simprocAttr]
 refine aS 16 (fun Q hQ=>by simp (disch:=intros;contradiction) only [zS,vC_eq,simprocAttr];exact hQ) ?_
 refine aB 96 ?_
 refine rC [] (export_may_con v t t) ?_
 refine aE ?_
 refine aR 208 ?_
 refine aw_cond _ rfl trivial (fun ht=>?_) (fun hf=>?_)
 ·skip
  try simp at ht
  simp only [zX]
  rw [strS_no (by simpa using ht)]
  refine aR 272 ?_
  refine Fin.data [] (.inr rfl) rfl (by (exact ⟨trivial,trivial⟩)) ?_
  simp only [zL,simprocAttr]
  all_goals ((repeat' (first | exact trivial | rfl | refine ⟨?_,?_⟩)))
 try simp at hf
 simp only [zX]
 have hm : mayE v t t = 0:=by simpa using hf
 by_cases hp : picksN v l t t v.place.length = none
 ·skip
  rw [hp] at cP
  simp only [picksE] at cP
  rw [strS_none hm hp]
  refine aB 368 ?_
  refine rC [] (cP) ?_ (hs:=(by exact .inr ⟨pureTC,trivial⟩))
  refine aE ?_
  refine aR 560 ?_
  refine aT ?_
  refine aR 624 ?_
  refine Fin.data [] (.inr rfl) rfl (by (exact ⟨trivial,trivial⟩)) ?_
  simp only [zL,simprocAttr]
  all_goals ((repeat' (first | exact trivial | rfl | refine ⟨?_,?_⟩)))
 obtain ⟨cs,hcs⟩:=Option.ne_none_iff_exists'.1 hp
 rw [hcs] at cP
 simp only [picksE] at cP
 have hcl:=picksN_len hcs
 have hcm : ∀ c ∈ cs,Gch v c:=fun c hc'=>by
  obtain ⟨i,hi,rfl⟩:=List.mem_iff_getElem.1 hc'
  exact hc _ (picksN_mem hcs i hi).1
 have h256 : ∀ c ∈ cs,c.hist.length≤256:=fun c hc'=>((hcm c hc').facts hg).2.2.2.1
 rw [strS_some hm hcs,← hcl]
 clear cP hp
 have cP:=export_picks_con v l t t hg hl hc
 rw [hcs] at cP
 simp only [picksE] at cP
 clear hcs
 refine aB 720 ?_
 refine rC [] (cP) ?_ (hs:=(by exact .inr ⟨pureTC,trivial⟩))
 refine RG.go fun Q hQ=>?_
 simp (disch:=intros;contradiction) only [zS,simprocAttr]
 refine hQ (RG.nil ?_)
 simp only [zX,↓reduceIte]
 refine aR 912 ?_
 refine aF ?_
 refine aR 976 ?_
 refine aS 1136 (fun Q hQ=>by simp (disch:=intros;contradiction) only [zS,zW,simprocAttr];exact hQ) ?_
 refine aw_loopK (X:={ x : Nat × List IT // x.1≤cs.length∧x.2 = itsX v t t true cs x.1 }) [2,3,6,11,41,42] (fun x=>[(43,I x.1.1)]) [16,32] (fun x=>[(1072,.box [.v (.int .i64 v.blocks),.v (.int .i64 v.size),.v (.int .i64 (-1)),.v (.int .i64 t),.osl 5000]),(5000,.arr 96 2 (x.1.2.map irow) false)]) (fun x=>cs.length - x.1.1) (⟨(0,[]),by simp only;omega,rfl⟩) ?_ ?_
 ·skip
  simp only [keepS,keepE,Option.getD_some,lk_cons,lkE_cons,List.cons_append,List.nil_append,simprocAttr]
  refine (Le.ownB 1072 4 5000 _ 96 2 rfl rfl rfl (by decide)).trans ?_
  simp only [List.set_cons_succ,List.set_cons_zero,setE_cons,setE_nil,simprocAttr]
  refine Le.lit [] [] _ _ ?_ ?_ ?_ ?_
  ·simp only [zL,simprocAttr]
  ·simp only [zL,simprocAttr]
   all_goals (try ((repeat' (((simp [C.isD];done))))))
  ·simp [rlook]
  ·(simp;done)
 rintro ⟨⟨i,acc⟩,hi,hacc⟩
 simp only [keepS,keepE,Option.getD_some,lk_cons,lkE_cons,List.cons_append,List.nil_append,simprocAttr]
 simp only [zX]
 simp only at hi hacc
 refine aR 1216 ?_
 refine aw_cond _ rfl trivial (fun ht=>?_) (fun hf=>?_)
 ·skip
  try simp at ht
  simp only [zX]
  have hi' : i < cs.length:=by omega
  have hG:=hcm _ (List.getElem_mem hi')
  obtain ⟨c,hci⟩ : ∃ c,cs[i] = c:=⟨_,rfl⟩
  have hnx:=itsX_succ (v:=v) (f:=t) (t:=t) (full:=true) hi' hci
  rw [hci] at hG
  obtain ⟨_,_,g3,g4,_⟩:=hG.facts hg
  have hIl:=itsX_len (v:=v) (f:=t) (t:=t) (full:=true) h256 i
  rw [← hacc] at hnx hIl
  rw [blkL_full] at hnx
  refine aS 1264 (fun Q hQ=>by simp (disch:=first | (intros;contradiction) | omega | (simp only [zN];omega)) only [zS,zW,hci,chC,chO,simprocAttr];repeat refine ⟨by (omega),?_⟩;exact hQ) ?_
  refine aR 1392 ?_
  refine aw_loopK (X:={ y : Nat × List IT // y.1≤c.hist.length∧y.2 = acc ++ itmL v i c t (List.range y.1) }) [2,3,6,11,12,13,41,42,43,49] (fun y=>[(50,I y.1.1)]) [16,32,1312] (fun y=>[(1072,.box [.v (.int .i64 v.blocks),.v (.int .i64 v.size),.v (.int .i64 (-1)),.v (.int .i64 t),.osl 5000]),(5000,.arr 96 2 (y.1.2.map irow) false)]) (fun y=>c.hist.length - y.1.1) (⟨(0,acc),by simp only;omega,by simp [itmL]⟩) ?_ ?_
  ·skip
   simp only [keepS,keepE,Option.getD_some,lk_cons,lkE_cons,List.cons_append,List.nil_append,simprocAttr]
   refine Le.lit [] [] _ _ ?_ ?_ ?_ ?_
   ·simp only [zL,simprocAttr]
   ·simp only [zL,simprocAttr]
    all_goals (try ((repeat' ((exact drows_irow _)))))
   ·simp [rlook]
   ·(simp;done)
  rintro ⟨⟨b,ac2⟩,hb,hac2⟩
  simp only [keepS,keepE,Option.getD_some,lk_cons,lkE_cons,List.cons_append,List.nil_append,simprocAttr]
  simp only [zX]
  simp only at hb hac2
  refine aR 1472 ?_
  refine aw_cond _ rfl trivial (fun ht=>?_) (fun hf=>?_)
  ·skip
   try simp at ht
   simp only [zX]
   have hb' : b < c.hist.length:=by omega
   have cI:=export_item_con v i c b t hg hG (by omega) (by omega)
   have hal : ac2.length≤1000000:=by rw [hac2,List.length_append,itmL_len,List.length_range];omega
   have hnx2 : ac2 ++ [⟨(i : Int) * v.per + (b : Int),(rdC c (b : Int) t).1⟩] = acc ++ itmL v i c t (List.range (b + 1)):=by rw [List.range_succ,itmL_snoc,← List.append_assoc,← hac2]
   generalize (⟨(i : Int) * v.per + (b : Int),(rdC c (b : Int) t).1⟩ : IT) = it at cI hnx2
   have e2 : List.map irow ac2 ++ [[.v (.int .i64 it.b),.sl (it.d.map brow)]] = (ac2 ++ [it]).map irow:=by rw [List.map_append];rfl
   refine aR 1520 ?_
   refine aBD 1584 ?_
   refine rC [] (cI) ?_ (hs:=(by exact .inr ⟨irA_pure _,trivial⟩))
   refine aEDs (fun Q hQ=>by simp (disch:=intros;contradiction) only [zS,zW,irow,itC,e2,simprocAttr];repeat refine ⟨by ((simp;omega)),?_⟩;exact hQ) ?_
   refine aS 1808 (fun Q hQ=>by simp (disch:=first | (intros;contradiction) | omega | (simp only [zN];omega)) only [zS,zW,simprocAttr];exact hQ) ?_
   refine ⟨⟨(b + 1,ac2 ++ [it]),by simp only;omega,hnx2⟩,?_,by first | omega | (simp only;omega)⟩
   refine Le.lit [] [(5000,1728)] _ _ ?_ ?_ ?_ ?_
   ·simp only [zL,simprocAttr]
    all_goals (try ((repeat' (rfl))))
   ·simp only [zL,simprocAttr]
    all_goals (try ((repeat' ((exact drows_irow _)))))
   ·simp [rlook]
   ·(simp;done)
  try simp at hf
  simp only [zX,↓reduceIte]
  obtain rfl : b = c.hist.length:=by omega
  refine aS 1872 (fun Q hQ=>by simp (disch:=first | (intros;contradiction) | omega | (simp only [zN];omega)) only [zS,zW,simprocAttr];exact hQ) ?_
  refine ⟨⟨(i + 1,ac2),by simp only;omega,by simp only;rw [hnx];exact hac2⟩,?_,by first | omega | (simp only;omega)⟩
  refine Le.lit [] [] _ _ ?_ ?_ ?_ ?_
  ·simp only [zL,simprocAttr]
   all_goals (try ((repeat' (rfl))))
  ·simp only [zL,simprocAttr]
   all_goals (try ((repeat' ((exact drows_irow _)))))
  ·simp [rlook]
  ·(simp;done)
 try simp at hf
 simp only [zX,↓reduceIte]
 obtain rfl : i = cs.length:=by omega
 rw [← hacc]
 refine aR 1936 ?_
 refine Fin.data [5000] (.inr rfl) rfl (by (exact ⟨trivial,trivial⟩)) ?_
 simp only [zL,simprocAttr]
 all_goals ((repeat' (first | exact trivial | rfl | (refine ⟨⟨_,_,rfl⟩,?_⟩;(exact drows_irow _)) | refine ⟨?_,?_⟩)))

end Go.Abs

