/- What the functions that the law comes to do, part 3. No condition. -/
import Derived.Test.YtidooialknbgaaaGreatConb
set_option linter.unusedVariables false
set_option linter.unusedSimpArgs false
set_option linter.unnecessarySimpa false
namespace Go.Abs
open Go Go.Proofs
set_option maxRecDepth 100000
set_option linter.unusedSimpArgs false
set_option maxHeartbeats 8000000

def m0 : MG:=⟨3,0,1,2,3,4,2,0,false,[],0,0,[],[],[],0,0,0,0⟩
theorem m0_right : rightM m0 = true:=by decide
theorem m0_ok : Mok m0:=⟨by decide,by decide,by decide,by decide,⟨by decide,by decide,by decide⟩⟩
theorem zeroM_ok : Mok zeroM:=⟨by decide,by decide,by decide,by decide,⟨by decide,by decide,by decide⟩⟩
theorem zeroM_right : rightM zeroM = false:=by decide
theorem putM_ok {m : MG} (h : rightM m = true) : putM m = (sealB (bodyM m),0):=by unfold putM;rw [if_pos h]
theorem putM_no {m : MG} (h : rightM m = false) : putM m = ([],23):=by unfold putM;rw [if_neg (by simp [h])]
theorem readM_nil (B : Nat→Nat) : readM B [] = (zeroM,24):=rfl
theorem rest_put {m : MG} (h : rightM m = true) (hb : byM m) : RestOk 1000000 (sealB (bodyM m)):=by
 refine ⟨seal_by (bodyM_by hb),?_⟩
 have:=bodyM_len (rightM_facts h)
 have F:=rightM_facts h
 have h1:=headM_len F
 have h2:=tailM_len F
 have h3:=esB_len m.es
 have h4:=midM_len m
 have h5:=F.es4
 have h6:=F.d
 have h7:=num7_len m.d.length (by omega)
 unfold sealB bodyM
 simp only [List.length_append,fourB_len];omega
theorem known10_con : Con Tryz.prog 6 [] [] (B true) []:=by
 have cP:=msg_Put_con m0 m0_ok
 rw [putM_ok m0_right] at cP
 have cR:=msg_Read_con _ (rest_put m0_right m0_ok.by')
 rw [readM_ok bP_wide m0_right] at cR
 have cN:=msg_Read_con [] ⟨by simp,by simp⟩
 rw [readM_nil] at cN
 have cZ:=msg_Put_con zeroM zeroM_ok
 rw [putM_no zeroM_right] at cZ
 have cS:=msg_Same_con m0 m0 m0_ok m0_ok
 have cD:=msg_Same_con m0 zeroM m0_ok zeroM_ok
 have cI:=msg_Right_con m0 m0_ok
 rw [m0_right] at cI
 rw [show decide (m0 = m0) = true from decide_eq_true rfl] at cS
 rw [show decide (m0 = zeroM) = false by decide] at cD
 refine C_mementolaw10_known nl nl ?_
 simp only [cz,A_mementolaw10_known,argL,objL,List.length_nil,zX]
 refine aR 16 ?_
 refine aR 64 ?_
 refine aB 144 ?_
 refine rC [] (cP) ?_ (hs:=(by exact .inr ⟨pureTC,trivial⟩))
 refine aEs (fun Q hQ=>by simp (disch:=intros;contradiction) only [zS,m0,simprocAttr];exact hQ) ?_
 refine aB 288 ?_
 refine rC [] (cR) ?_ (hs:=(by exact .inr ⟨msgT_pure _ _,trivial⟩))
 refine aEs (fun Q hQ=>by simp (disch:=intros;contradiction) only [zS,msgC,m0,simprocAttr];exact hQ) ?_
 refine aBs 448 (fun Q hQ=>by simp (disch:=intros;contradiction) only [zS,↓reduceIte];exact hQ) ?_
 refine rC [] (cN) ?_ (hs:=(by exact .inr ⟨msgT_pure _ _,trivial⟩))
 refine aEs (fun Q hQ=>by simp (disch:=intros;contradiction) only [zS,msgC,zeroM,simprocAttr];exact hQ) ?_
 refine aB 592 ?_
 refine rC [] (cZ) ?_ (hs:=(by exact .inr ⟨pureTC,trivial⟩))
 refine aE ?_
 refine aB 736 ?_
 refine rG _ _ (cS) ?_
 refine aM ?_
 refine rG _ _ (cD) ?_
 refine aM ?_
 refine rG _ _ (cI) ?_
 refine aE ?_
 exact Fin.scalar (.inr rfl) rfl trivial rfl trivial

theorem FinQ.le {n : Nat} {rs : List AR} {res : SV} {out : List Ent} {e : Exit} {st st' : St} (h : Le n st st') (hq : FinQ n rs res out e st') : FinQ n rs res out e st:=by
 obtain ⟨a,h1,h2⟩:=hq
 exact ⟨a,h.trans h1,h2⟩


theorem bent_con (m : MG) (what : Nat) (v : Int) (hm : Mok m) (hes : m.es.length≤1000) (h1 : what < 256) :
  ∃ m' : MG,Mok m'∧Con Tryz.prog 9 [.agg (msgC m),.c (.v (.int .u8 what)),I v] [] (.agg (msgC m')) []:=by
 have r1 : ((what : Int).tmod 12) = ((what % 12 : Nat) : Int):=(Int.ofNat_tmod what 12).symm
 have r1e : ((what : Int) % 12) = ((what % 12 : Nat) : Int):=by omega
 have hw12 : what % 12 < 12:=by omega
 generalize what % 12 = w at r1 r1e hw12
 obtain ⟨vb,hvb,hv8⟩ : ∃ vb : Nat,IntKind.u8.wrap v = (vb : Int)∧vb < 256:=⟨(v % 256).toNat,by rw [IntKind.wrap_u8];omega,by omega⟩
 by_cases hw0 : w = 0
 ·subst hw0
  refine ⟨⟨v,m.grp,m.frm,m.to,m.term,m.idx,m.lterm,m.com,m.ok,m.es,m.bi,m.bt,m.bc,m.bd,m.d,m.vol,m.chk,m.mark,m.floor⟩,⟨hm.es,hm.bc,hm.bd,hm.d,hm.by'⟩,?_⟩
  refine C_mementolaw10_bent nl nl ?_
  simp only [cz,A_mementolaw10_bent,argL,objL,List.length_nil,Nat.zero_add,zX,simprocAttr]
  refine aS 16 (fun Q hQ=>by simp (disch:=intros;contradiction) only [zS,msgC,simprocAttr];exact hQ) ?_
  refine aw_reg 80 (RG.go fun Q hQ=>?_)
  simp (disch:=first | (intros;contradiction) | omega | (simp only [zN];omega)) only [zS,zW,r1e,simprocAttr]
  repeat refine ⟨by (omega),?_⟩
  refine hQ (RG.nil ?_)
  simp only [zX]
  refine aR 144 ?_
  refine aw_cond _ rfl trivial (fun ht=>?_) (fun hf=>by cases hf)
  refine aR 208 ?_
  refine aR 288 ?_
  refine Fin.data [] (.inr rfl) rfl (by (exact ⟨trivial,trivial⟩)) ?_
  simp only [zL]
  all_goals ((repeat' (first | exact trivial | rfl | refine ⟨?_,?_⟩)))

 by_cases hw1 : w = 1
 ·subst hw1
  refine ⟨⟨m.kind,v,m.frm,m.to,m.term,m.idx,m.lterm,m.com,m.ok,m.es,m.bi,m.bt,m.bc,m.bd,m.d,m.vol,m.chk,m.mark,m.floor⟩,⟨hm.es,hm.bc,hm.bd,hm.d,hm.by'⟩,?_⟩
  refine C_mementolaw10_bent nl nl ?_
  simp only [cz,A_mementolaw10_bent,argL,objL,List.length_nil,Nat.zero_add,zX,simprocAttr]
  refine aS 16 (fun Q hQ=>by simp (disch:=intros;contradiction) only [zS,msgC,simprocAttr];exact hQ) ?_
  refine aw_reg 80 (RG.go fun Q hQ=>?_)
  simp (disch:=first | (intros;contradiction) | omega | (simp only [zN];omega)) only [zS,zW,r1e,simprocAttr]
  repeat refine ⟨by (omega),?_⟩
  refine hQ (RG.nil ?_)
  simp only [zX]
  refine aR 144 ?_
  refine aF ?_
  refine aR 208 ?_
  refine aw_cond _ rfl trivial (fun ht=>?_) (fun hf=>by cases hf)
  refine aR 272 ?_
  refine aR 352 ?_
  refine Fin.data [] (.inr rfl) rfl (by (exact ⟨trivial,trivial⟩)) ?_
  simp only [zL]
  all_goals ((repeat' (first | exact trivial | rfl | refine ⟨?_,?_⟩)))

 by_cases hw2 : w = 2
 ·subst hw2
  refine ⟨⟨m.kind,m.grp,v,m.to,m.term,m.idx,m.lterm,m.com,m.ok,m.es,m.bi,m.bt,m.bc,m.bd,m.d,m.vol,m.chk,m.mark,m.floor⟩,⟨hm.es,hm.bc,hm.bd,hm.d,hm.by'⟩,?_⟩
  refine C_mementolaw10_bent nl nl ?_
  simp only [cz,A_mementolaw10_bent,argL,objL,List.length_nil,Nat.zero_add,zX,simprocAttr]
  refine aS 16 (fun Q hQ=>by simp (disch:=intros;contradiction) only [zS,msgC,simprocAttr];exact hQ) ?_
  refine aw_reg 80 (RG.go fun Q hQ=>?_)
  simp (disch:=first | (intros;contradiction) | omega | (simp only [zN];omega)) only [zS,zW,r1e,simprocAttr]
  repeat refine ⟨by (omega),?_⟩
  refine hQ (RG.nil ?_)
  simp only [zX]
  refine aR 144 ?_
  refine aF ?_
  refine aR 208 ?_
  refine aF ?_
  refine aR 272 ?_
  refine aw_cond _ rfl trivial (fun ht=>?_) (fun hf=>by cases hf)
  refine aR 336 ?_
  refine aR 416 ?_
  refine Fin.data [] (.inr rfl) rfl (by (exact ⟨trivial,trivial⟩)) ?_
  simp only [zL]
  all_goals ((repeat' (first | exact trivial | rfl | refine ⟨?_,?_⟩)))

 by_cases hw3 : w = 3
 ·subst hw3
  refine ⟨⟨m.kind,m.grp,m.frm,m.to,v,m.idx,m.lterm,m.com,m.ok,m.es,m.bi,m.bt,m.bc,m.bd,m.d,m.vol,m.chk,m.mark,m.floor⟩,⟨hm.es,hm.bc,hm.bd,hm.d,hm.by'⟩,?_⟩
  refine C_mementolaw10_bent nl nl ?_
  simp only [cz,A_mementolaw10_bent,argL,objL,List.length_nil,Nat.zero_add,zX,simprocAttr]
  refine aS 16 (fun Q hQ=>by simp (disch:=intros;contradiction) only [zS,msgC,simprocAttr];exact hQ) ?_
  refine aw_reg 80 (RG.go fun Q hQ=>?_)
  simp (disch:=first | (intros;contradiction) | omega | (simp only [zN];omega)) only [zS,zW,r1e,simprocAttr]
  repeat refine ⟨by (omega),?_⟩
  refine hQ (RG.nil ?_)
  simp only [zX]
  refine aR 144 ?_
  refine aF ?_
  refine aR 208 ?_
  refine aF ?_
  refine aR 272 ?_
  refine aF ?_
  refine aR 336 ?_
  refine aw_cond _ rfl trivial (fun ht=>?_) (fun hf=>by cases hf)
  refine aR 400 ?_
  refine aR 480 ?_
  refine Fin.data [] (.inr rfl) rfl (by (exact ⟨trivial,trivial⟩)) ?_
  simp only [zL]
  all_goals ((repeat' (first | exact trivial | rfl | refine ⟨?_,?_⟩)))

 by_cases hw4 : w = 4
 ·subst hw4
  refine ⟨⟨m.kind,m.grp,m.frm,m.to,m.term,v,m.lterm,m.com,m.ok,m.es,m.bi,m.bt,m.bc,m.bd,m.d,m.vol,m.chk,m.mark,m.floor⟩,⟨hm.es,hm.bc,hm.bd,hm.d,hm.by'⟩,?_⟩
  refine C_mementolaw10_bent nl nl ?_
  simp only [cz,A_mementolaw10_bent,argL,objL,List.length_nil,Nat.zero_add,zX,simprocAttr]
  refine aS 16 (fun Q hQ=>by simp (disch:=intros;contradiction) only [zS,msgC,simprocAttr];exact hQ) ?_
  refine aw_reg 80 (RG.go fun Q hQ=>?_)
  simp (disch:=first | (intros;contradiction) | omega | (simp only [zN];omega)) only [zS,zW,r1e,simprocAttr]
  repeat refine ⟨by (omega),?_⟩
  refine hQ (RG.nil ?_)
  simp only [zX]
  refine aR 144 ?_
  refine aF ?_
  refine aR 208 ?_
  refine aF ?_
  refine aR 272 ?_
  refine aF ?_
  refine aR 336 ?_
  refine aF ?_
  refine aR 400 ?_
  refine aw_cond _ rfl trivial (fun ht=>?_) (fun hf=>by cases hf)
  refine aR 464 ?_
  refine aR 544 ?_
  refine Fin.data [] (.inr rfl) rfl (by (exact ⟨trivial,trivial⟩)) ?_
  simp only [zL]
  all_goals ((repeat' (first | exact trivial | rfl | refine ⟨?_,?_⟩)))

 by_cases hw5 : w = 5
 ·subst hw5
  refine ⟨⟨m.kind,m.grp,m.frm,m.to,m.term,m.idx,m.lterm,v,m.ok,m.es,m.bi,m.bt,m.bc,m.bd,m.d,m.vol,m.chk,m.mark,m.floor⟩,⟨hm.es,hm.bc,hm.bd,hm.d,hm.by'⟩,?_⟩
  refine C_mementolaw10_bent nl nl ?_
  simp only [cz,A_mementolaw10_bent,argL,objL,List.length_nil,Nat.zero_add,zX,simprocAttr]
  refine aS 16 (fun Q hQ=>by simp (disch:=intros;contradiction) only [zS,msgC,simprocAttr];exact hQ) ?_
  refine aw_reg 80 (RG.go fun Q hQ=>?_)
  simp (disch:=first | (intros;contradiction) | omega | (simp only [zN];omega)) only [zS,zW,r1e,simprocAttr]
  repeat refine ⟨by (omega),?_⟩
  refine hQ (RG.nil ?_)
  simp only [zX]
  refine aR 144 ?_
  refine aF ?_
  refine aR 208 ?_
  refine aF ?_
  refine aR 272 ?_
  refine aF ?_
  refine aR 336 ?_
  refine aF ?_
  refine aR 400 ?_
  refine aF ?_
  refine aR 464 ?_
  refine aw_cond _ rfl trivial (fun ht=>?_) (fun hf=>by cases hf)
  refine aR 528 ?_
  refine aR 608 ?_
  refine Fin.data [] (.inr rfl) rfl (by (exact ⟨trivial,trivial⟩)) ?_
  simp only [zL]
  all_goals ((repeat' (first | exact trivial | rfl | refine ⟨?_,?_⟩)))

 by_cases hw6 : w = 6
 ·subst hw6
  refine ⟨⟨m.kind,m.grp,m.frm,m.to,m.term,m.idx,m.lterm,m.com,!m.ok,m.es,m.bi,m.bt,m.bc,m.bd,m.d,m.vol,m.chk,m.mark,m.floor⟩,⟨hm.es,hm.bc,hm.bd,hm.d,hm.by'⟩,?_⟩
  refine C_mementolaw10_bent nl nl ?_
  simp only [cz,A_mementolaw10_bent,argL,objL,List.length_nil,Nat.zero_add,zX,simprocAttr]
  refine aS 16 (fun Q hQ=>by simp (disch:=intros;contradiction) only [zS,msgC,simprocAttr];exact hQ) ?_
  refine aw_reg 80 (RG.go fun Q hQ=>?_)
  simp (disch:=first | (intros;contradiction) | omega | (simp only [zN];omega)) only [zS,zW,r1e,simprocAttr]
  repeat refine ⟨by (omega),?_⟩
  refine hQ (RG.nil ?_)
  simp only [zX]
  refine aR 144 ?_
  refine aF ?_
  refine aR 208 ?_
  refine aF ?_
  refine aR 272 ?_
  refine aF ?_
  refine aR 336 ?_
  refine aF ?_
  refine aR 400 ?_
  refine aF ?_
  refine aR 464 ?_
  refine aF ?_
  refine aR 528 ?_
  refine aw_cond _ rfl trivial (fun ht=>?_) (fun hf=>by cases hf)
  refine aR 592 ?_
  refine aR 704 ?_
  refine Fin.data [] (.inr rfl) rfl (by (exact ⟨trivial,trivial⟩)) ?_
  simp only [zL]
  all_goals ((repeat' (first | exact trivial | rfl | refine ⟨?_,?_⟩)))

 by_cases hw7 : w = 7
 ·subst hw7
  refine ⟨⟨m.kind,m.grp,m.frm,m.to,m.term,m.idx,m.lterm,m.com,m.ok,m.es,m.bi,m.bt,m.bc,m.bd,[vb],m.vol,m.chk,m.mark,m.floor⟩,⟨hm.es,hm.bc,hm.bd,by simp,⟨hm.by'.1,hm.by'.2.1,by simpa using hv8⟩⟩,?_⟩
  refine C_mementolaw10_bent nl nl ?_
  simp only [cz,A_mementolaw10_bent,argL,objL,List.length_nil,Nat.zero_add,zX,simprocAttr]
  refine aS 16 (fun Q hQ=>by simp (disch:=intros;contradiction) only [zS,msgC,simprocAttr];exact hQ) ?_
  refine aw_reg 80 (RG.go fun Q hQ=>?_)
  simp (disch:=first | (intros;contradiction) | omega | (simp only [zN];omega)) only [zS,zW,r1e,simprocAttr]
  repeat refine ⟨by (omega),?_⟩
  refine hQ (RG.nil ?_)
  simp only [zX]
  refine aR 144 ?_
  refine aF ?_
  refine aR 208 ?_
  refine aF ?_
  refine aR 272 ?_
  refine aF ?_
  refine aR 336 ?_
  refine aF ?_
  refine aR 400 ?_
  refine aF ?_
  refine aR 464 ?_
  refine aF ?_
  refine aR 528 ?_
  refine aF ?_
  refine aR 592 ?_
  refine aw_cond _ rfl trivial (fun ht=>?_) (fun hf=>by cases hf)
  refine aS 656 (fun Q hQ=>by simp (disch:=intros;contradiction) only [zS,hvb,simprocAttr];exact hQ) ?_
  refine aR 768 ?_
  refine Fin.data [688] (.inr rfl) rfl (by (exact ⟨trivial,trivial⟩)) ?_
  simp only [zL,simprocAttr]
  all_goals ((repeat' (first | exact trivial | rfl | (refine ⟨⟨_,_,rfl⟩,?_⟩;(exact drows_brow _)) | refine ⟨?_,?_⟩)))

 by_cases hw8 : w = 8
 ·subst hw8
  refine ⟨⟨m.kind,m.grp,m.frm,m.to,m.term,m.idx,m.lterm,m.com,m.ok,m.es,m.bi,m.bt,m.bc,m.bd,m.d,v,m.chk,m.mark,m.floor⟩,⟨hm.es,hm.bc,hm.bd,hm.d,hm.by'⟩,?_⟩
  refine C_mementolaw10_bent nl nl ?_
  simp only [cz,A_mementolaw10_bent,argL,objL,List.length_nil,Nat.zero_add,zX,simprocAttr]
  refine aS 16 (fun Q hQ=>by simp (disch:=intros;contradiction) only [zS,msgC,simprocAttr];exact hQ) ?_
  refine aw_reg 80 (RG.go fun Q hQ=>?_)
  simp (disch:=first | (intros;contradiction) | omega | (simp only [zN];omega)) only [zS,zW,r1e,simprocAttr]
  repeat refine ⟨by (omega),?_⟩
  refine hQ (RG.nil ?_)
  simp only [zX]
  refine aR 144 ?_
  refine aF ?_
  refine aR 208 ?_
  refine aF ?_
  refine aR 272 ?_
  refine aF ?_
  refine aR 336 ?_
  refine aF ?_
  refine aR 400 ?_
  refine aF ?_
  refine aR 464 ?_
  refine aF ?_
  refine aR 528 ?_
  refine aF ?_
  refine aR 592 ?_
  refine aF ?_
  refine aR 656 ?_
  refine aw_cond _ rfl trivial (fun ht=>?_) (fun hf=>by cases hf)
  refine aR 720 ?_
  refine aR 800 ?_
  refine Fin.data [] (.inr rfl) rfl (by (exact ⟨trivial,trivial⟩)) ?_
  simp only [zL]
  all_goals ((repeat' (first | exact trivial | rfl | refine ⟨?_,?_⟩)))

 by_cases hw9 : w = 9
 ·subst hw9
  refine ⟨⟨m.kind,m.grp,m.frm,m.to,m.term,m.idx,m.lterm,m.com,m.ok,m.es,m.bi,m.bt,m.bc,m.bd,m.d,m.vol,m.chk,v,m.floor⟩,⟨hm.es,hm.bc,hm.bd,hm.d,hm.by'⟩,?_⟩
  refine C_mementolaw10_bent nl nl ?_
  simp only [cz,A_mementolaw10_bent,argL,objL,List.length_nil,Nat.zero_add,zX,simprocAttr]
  refine aS 16 (fun Q hQ=>by simp (disch:=intros;contradiction) only [zS,msgC,simprocAttr];exact hQ) ?_
  refine aw_reg 80 (RG.go fun Q hQ=>?_)
  simp (disch:=first | (intros;contradiction) | omega | (simp only [zN];omega)) only [zS,zW,r1e,simprocAttr]
  repeat refine ⟨by (omega),?_⟩
  refine hQ (RG.nil ?_)
  simp only [zX]
  refine aR 144 ?_
  refine aF ?_
  refine aR 208 ?_
  refine aF ?_
  refine aR 272 ?_
  refine aF ?_
  refine aR 336 ?_
  refine aF ?_
  refine aR 400 ?_
  refine aF ?_
  refine aR 464 ?_
  refine aF ?_
  refine aR 528 ?_
  refine aF ?_
  refine aR 592 ?_
  refine aF ?_
  refine aR 656 ?_
  refine aF ?_
  refine aR 720 ?_
  refine aw_cond _ rfl trivial (fun ht=>?_) (fun hf=>by cases hf)
  refine aR 784 ?_
  refine aR 864 ?_
  refine Fin.data [] (.inr rfl) rfl (by (exact ⟨trivial,trivial⟩)) ?_
  simp only [zL]
  all_goals ((repeat' (first | exact trivial | rfl | refine ⟨?_,?_⟩)))

 by_cases hw10 : w = 10
 ·subst hw10
  refine ⟨⟨m.kind,m.grp,m.frm,m.to,m.term,m.idx,m.lterm,m.com,m.ok,m.es ++ [⟨v,1,0,[]⟩],m.bi,m.bt,m.bc,m.bd,m.d,m.vol,m.chk,m.mark,m.floor⟩,⟨by simp;omega,hm.bc,hm.bd,hm.d,⟨fun e he=>by
   rcases List.mem_append.1 he with he | he
   ·exact hm.by'.1 e he
   ·simp only [List.mem_singleton] at he;subst he;simp,hm.by'.2.1,hm.by'.2.2⟩⟩,?_⟩
  refine C_mementolaw10_bent nl nl ?_
  simp only [cz,A_mementolaw10_bent,argL,objL,List.length_nil,Nat.zero_add,zX,simprocAttr]
  refine aS 16 (fun Q hQ=>by simp (disch:=intros;contradiction) only [zS,msgC,simprocAttr];exact hQ) ?_
  refine aw_reg 80 (RG.go fun Q hQ=>?_)
  simp (disch:=first | (intros;contradiction) | omega | (simp only [zN];omega)) only [zS,zW,r1e,simprocAttr]
  repeat refine ⟨by (omega),?_⟩
  refine hQ (RG.nil ?_)
  simp only [zX]
  refine aR 144 ?_
  refine aF ?_
  refine aR 208 ?_
  refine aF ?_
  refine aR 272 ?_
  refine aF ?_
  refine aR 336 ?_
  refine aF ?_
  refine aR 400 ?_
  refine aF ?_
  refine aR 464 ?_
  refine aF ?_
  refine aR 528 ?_
  refine aF ?_
  refine aR 592 ?_
  refine aF ?_
  refine aR 656 ?_
  refine aF ?_
  refine aR 720 ?_
  refine aF ?_
  refine aR 784 ?_
  refine aw_cond _ rfl trivial (fun ht=>?_) (fun hf=>by cases hf)
  refine aw_reg 848 (RG.go fun Q hQ=>?_)
  simp (disch:=intros;contradiction) only [zS,zW,simprocAttr]
  refine ⟨⟨(by intro q hq;obtain ⟨_,_,rfl⟩:=List.mem_map.1 hq;rfl),by omega⟩,⟨by simp,by omega⟩,hQ (RG.nil ?_)⟩
  simp only [zX]
  refine aR 1024 ?_
  refine FinQ.le (Le.tell [] 944 58 4 _ ((m.es ++ [(⟨v,1,0,[]⟩ : EN)]).map erow) false rfl (by rw [List.map_append];refine tell_app ?_ _;exact ⟨⟨.inl rfl,.inl rfl,.inl rfl,.inr (.inl ⟨rfl,rfl⟩),trivial⟩,trivial⟩)) ?_
  refine Fin.data [944] (.inr rfl) rfl (by (exact ⟨trivial,trivial⟩)) ?_
  simp only [zL,simprocAttr]
  all_goals ((repeat' (first | exact trivial | rfl | (refine ⟨⟨_,_,rfl⟩,?_⟩;(exact erow_data _)) | refine ⟨?_,?_⟩)))

 by_cases hw11 : w = 11
 ·subst hw11
  refine ⟨⟨m.kind,m.grp,m.frm,m.to,m.term,m.idx,m.lterm,m.com,m.ok,m.es,v,0,[0],[],m.d,m.vol,m.chk,m.mark,m.floor⟩,⟨hm.es,by simp,by simp,hm.d,⟨hm.by'.1,by simp,hm.by'.2.2⟩⟩,?_⟩
  refine C_mementolaw10_bent nl nl ?_
  simp only [cz,A_mementolaw10_bent,argL,objL,List.length_nil,Nat.zero_add,zX,simprocAttr]
  refine aS 16 (fun Q hQ=>by simp (disch:=intros;contradiction) only [zS,msgC,simprocAttr];exact hQ) ?_
  refine aw_reg 80 (RG.go fun Q hQ=>?_)
  simp (disch:=first | (intros;contradiction) | omega | (simp only [zN];omega)) only [zS,zW,r1e,simprocAttr]
  repeat refine ⟨by (omega),?_⟩
  refine hQ (RG.nil ?_)
  simp only [zX]
  refine aR 144 ?_
  refine aF ?_
  refine aR 208 ?_
  refine aF ?_
  refine aR 272 ?_
  refine aF ?_
  refine aR 336 ?_
  refine aF ?_
  refine aR 400 ?_
  refine aF ?_
  refine aR 464 ?_
  refine aF ?_
  refine aR 528 ?_
  refine aF ?_
  refine aR 592 ?_
  refine aF ?_
  refine aR 656 ?_
  refine aF ?_
  refine aR 720 ?_
  refine aF ?_
  refine aR 784 ?_
  refine aw_cond _ rfl trivial (fun ht=>by cases ht) (fun hf=>?_)
  refine aR 848 ?_
  refine aR 960 ?_
  refine Fin.data [864] (.inr rfl) rfl (by (exact ⟨trivial,trivial⟩)) ?_
  simp only [zL,simprocAttr]
  all_goals ((repeat' (first | exact trivial | rfl | (refine ⟨⟨_,_,rfl⟩,?_⟩;(exact drows_nrow _)) | refine ⟨?_,?_⟩)))

 omega

end Go.Abs

namespace Go.Abs
open Go Go.Proofs
set_option maxRecDepth 100000
set_option linter.unusedSimpArgs false
set_option maxHeartbeats 8000000

theorem some_con (what a b c d : Nat) (h1 : what < 256) (h2 : a < 256) (h3 : b < 256) (h4 : c < 256) (h5 : d < 256) :
  ∃ m : MG,Mok m∧m.es.length≤1000∧Con Tryz.prog 8 [.c (.v (.int .u8 what)),.c (.v (.int .u8 a)),.c (.v (.int .u8 b)),.c (.v (.int .u8 c)),.c (.v (.int .u8 d))] [] (.agg (msgC m)) []:=by
 have r1 : ((what : Int).tmod 11) = ((what % 11 : Nat) : Int):=(Int.ofNat_tmod what 11).symm
 have r1e : ((what : Int) % 11) = ((what % 11 : Nat) : Int):=by omega
 obtain ⟨w,hww⟩ : ∃ w,w = what % 11:=⟨_,rfl⟩
 rw [← hww] at r1 r1e
 have hA : ∃ A : Int,((a : Int) % 8) = A∧((a : Int).tmod 8) = A∧0≤A∧A < 8:=⟨(a : Int) % 8,rfl,by rw [Int.tmod_eq_emod_of_nonneg (by omega)],by omega,by omega⟩
 have hB : ∃ A : Int,((b : Int) % 7) = A∧((b : Int).tmod 7) = A∧0≤A∧A < 7:=⟨(b : Int) % 7,rfl,by rw [Int.tmod_eq_emod_of_nonneg (by omega)],by omega,by omega⟩
 have hC : ∃ A : Int,((c : Int) % 7) = A∧((c : Int).tmod 7) = A∧0≤A∧A < 7:=⟨(c : Int) % 7,rfl,by rw [Int.tmod_eq_emod_of_nonneg (by omega)],by omega,by omega⟩
 have hD : ∃ A : Int,((d : Int) % 5) = A∧((d : Int).tmod 5) = A∧0≤A∧A < 5:=⟨(d : Int) % 5,rfl,by rw [Int.tmod_eq_emod_of_nonneg (by omega)],by omega,by omega⟩
 obtain ⟨A8,hA8,hA8',hA80,hA81⟩:=hA
 obtain ⟨B7,hB7,hB7',hB70,hB71⟩:=hB
 obtain ⟨C7,hC7,hC7',hC70,hC71⟩:=hC
 obtain ⟨D5,hD5,hD5',hD50,hD51⟩:=hD
 by_cases hw9 : w = 9
 ·obtain ⟨l,hl⟩ : ∃ l : List Nat,l = [a,b,c,d].take (d % 5):=⟨_,rfl⟩
  have hll : l.length≤4:=by rw [hl];simp;omega
  have hl8 : ∀ x ∈ l,x < 256:=fun x hx=>by
   rw [hl] at hx
   have:=List.mem_of_mem_take hx
   simp only [List.mem_cons,List.not_mem_nil,or_false] at this
   omega
  have hDn : D5.toNat = d % 5:=by omega
  have hrow : List.take (d % 5) [[C.v (.int .u8 (a : Int))],[C.v (.int .u8 (b : Int))],[C.v (.int .u8 (c : Int))],[C.v (.int .u8 (d : Int))]] = l.map brow:=by rw [hl,List.map_take];rfl
  refine ⟨⟨8,A8,B7,C7,0,0,0,0,false,[],0,0,[],[],l,0,0,0,0⟩,⟨by simp,by simp,by simp,by simp only;omega,⟨by simp,by simp,hl8⟩⟩,by simp,?_⟩
  subst hw9
  refine C_mementolaw10_some nl nl ?_
  simp only [cz,A_mementolaw10_some,argL,objL,List.length_nil,Nat.reduceAdd,Nat.zero_add,zX]
  refine aS 16 (fun Q hQ=>by simp (disch:=intros;contradiction) only [zS,reduceCtorEq,Nat.reduceAdd,Nat.reduceEqDiff,↓reduceIte];exact hQ) ?_
  refine aS 64 (fun Q hQ=>by simp (disch:=first | (intros;contradiction) | omega | (simp only [zN];omega)) only [zS,zW,reduceCtorEq,Nat.reduceAdd,Nat.reduceEqDiff,↓reduceIte,r1e];repeat refine ⟨by (omega),?_⟩;exact hQ) ?_
  refine aT ?_
  refine aw_reg 144 (RG.go fun Q hQ=>?_)
  simp (disch:=first | (intros;contradiction) | omega | (simp only [zN];omega)) only [zS,zW,Nat.reduceMod,reduceCtorEq,Nat.reduceAdd,Nat.reduceEqDiff,Nat.reduceLeDiff,Int.reduceToNat,↓reduceIte,Int.reduceLE,hA8,hB7,hC7,hD5,hDn,hrow]
  refine ⟨by decide,by decide,by decide,by decide,⟨by omega,by omega,by simp [isDRows,C.isD]⟩,hQ (RG.nil ?_)⟩
  simp only [zX]
  refine Fin.data [] (.inr rfl) rfl (by (exact ⟨trivial,trivial⟩)) ?_
  simp only [zL]
  all_goals ((repeat' (first | exact trivial | rfl | refine ⟨?_,?_⟩)))

 by_cases hw10 : w = 10
 ·refine ⟨⟨9,0,B7,C7,0,0,0,0,false,[],0,0,[],[],[],A8,d,(b : Int) * 3,c⟩,⟨by simp,by simp,by simp,by simp,⟨by simp,by simp,by simp⟩⟩,by simp,?_⟩
  subst hw10
  refine C_mementolaw10_some nl nl ?_
  simp only [cz,A_mementolaw10_some,argL,objL,List.length_nil,Nat.reduceAdd,Nat.zero_add,zX]
  refine aS 16 (fun Q hQ=>by simp (disch:=intros;contradiction) only [zS,reduceCtorEq,Nat.reduceAdd,Nat.reduceEqDiff,↓reduceIte];exact hQ) ?_
  refine aS 64 (fun Q hQ=>by simp (disch:=first | (intros;contradiction) | omega | (simp only [zN];omega)) only [zS,zW,reduceCtorEq,Nat.reduceAdd,Nat.reduceEqDiff,↓reduceIte,Int.reduceBEq,r1e];repeat refine ⟨by (omega),?_⟩;exact hQ) ?_
  refine aF ?_
  refine aS 144 (fun Q hQ=>by simp (disch:=first | (intros;contradiction) | omega | (simp only [zN];omega)) only [zS,zW,reduceCtorEq,Nat.reduceAdd,Nat.reduceEqDiff,↓reduceIte,r1e];repeat refine ⟨by (omega),?_⟩;exact hQ) ?_
  refine aT ?_
  refine aw_reg 224 (RG.go fun Q hQ=>?_)
  simp (disch:=first | (intros;contradiction) | omega | (simp only [zN];omega)) only [zS,zW,reduceCtorEq,Nat.reduceAdd,Nat.reduceEqDiff,Nat.reduceLeDiff,↓reduceIte,hA8,hB7,hC7]
  repeat refine ⟨by (omega),?_⟩
  refine hQ (RG.nil ?_)
  simp only [zX]
  refine Fin.data [] (.inr rfl) rfl (by (exact ⟨trivial,trivial⟩)) ?_
  simp only [zL]
  all_goals ((repeat' (first | exact trivial | rfl | refine ⟨?_,?_⟩)))

 obtain ⟨cs,hcs⟩ : ∃ cs : List Int,cs = [0,1,2]:=⟨_,rfl⟩
 obtain ⟨s,cR⟩:=seat_Raft_con a b c d h2 cs hcs
 obtain ⟨m,⟨hm,hme⟩,cM⟩:=seat_Msg_con ((a % 3 : Nat) : Int) s what a b c d h1 h2 h3 h4 h5 cs hcs
 refine ⟨m,hm,hme,?_⟩
 refine C_mementolaw10_some nl nl ?_
 simp only [cz,A_mementolaw10_some,argL,objL,List.length_nil,Nat.reduceAdd,Nat.zero_add,zX]
 refine aS 16 (fun Q hQ=>by simp (disch:=intros;contradiction) only [zS,reduceCtorEq,Nat.reduceAdd,Nat.reduceEqDiff,↓reduceIte];exact hQ) ?_
 refine aS 64 (fun Q hQ=>by simp (disch:=first | (intros;contradiction) | omega | (simp only [zN];omega)) only [zS,zW,reduceCtorEq,Nat.reduceAdd,Nat.reduceEqDiff,↓reduceIte,r1e];repeat refine ⟨by (omega),?_⟩;exact hQ) ?_
 refine aw_cond _ rfl trivial (fun ht=>by simp at ht;omega) (fun hf=>?_)
 simp only [zX]
 refine aS 144 (fun Q hQ=>by simp (disch:=first | (intros;contradiction) | omega | (simp only [zN];omega)) only [zS,zW,reduceCtorEq,Nat.reduceAdd,Nat.reduceEqDiff,↓reduceIte,r1e];repeat refine ⟨by (omega),?_⟩;exact hQ) ?_
 refine aw_cond _ rfl trivial (fun ht=>by simp at ht;omega) (fun hf=>?_)
 simp only [zX]
 refine aBs 224 (fun Q hQ=>by simp (disch:=intros;contradiction) only [zS,reduceCtorEq,Nat.reduceAdd,Nat.reduceEqDiff,Nat.reduceLeDiff,↓reduceIte];exact hQ) ?_
 refine rO [] [400] (cR) ?_
 refine aMs (fun Q hQ=>by simp (disch:=intros;contradiction) only [zS,reduceCtorEq,Nat.reduceAdd,Nat.reduceEqDiff,Int.reduceNeg,↓reduceIte];exact hQ) ?_
 refine rO [416,417] [] (cM) ?_
 refine aEs (fun Q hQ=>by simp (disch:=intros;contradiction) only [zS,reduceCtorEq,Nat.reduceAdd,Nat.reduceEqDiff,Int.reduceNeg,↓reduceIte,msgC];exact hQ) ?_
 refine Fin.data [] (.inr rfl) rfl (by (exact ⟨trivial,trivial⟩)) ?_
 simp only [zL]
 all_goals ((repeat' (first | exact trivial | rfl | refine ⟨?_,?_⟩)))

theorem SmallEntries_con (l : List EN) : Con Tryz.prog 19 [.c (.sl (l.map erow))] [] (B (decide (l.length≤12) && l.all fun e=>decide (e.d.length≤60))) []:=by
 refine C_mementoseat_SmallEntries nl nl ?_
 simp only [cz,A_mementoseat_SmallEntries,argL,objL,List.length_nil,zX]
 refine aR 16 ?_
 refine aS 64 (fun Q hQ=>by simp (disch:=intros;contradiction) only [zS,zW,simprocAttr];exact hQ) ?_
 refine aw_cond _ rfl trivial (fun ht=>?_) (fun hf=>?_)
 ·skip
  try simp at ht
  simp only [zX]
  refine aR 144 ?_
  refine Fin.b (.inr rfl) rfl trivial ?_
  rw [decide_eq_false (by omega)];rfl
 try simp at hf
 simp only [zX]
 have hl : l.length≤12:=by omega
 refine aR 192 ?_
 refine aw_loopK (X:={ i : Nat // i≤l.length∧∀ e ∈ l.take i,e.d.length≤60 }) [0] (fun i=>[(3,I i.1)]) [] (fun i=>[]) (fun i=>l.length - i.1) (⟨0,by omega,by simp⟩) ?_ ?_
 ·skip
  simp only [keepS,keepE,lk_cons,List.cons_append,List.nil_append,↓reduceIte]
  refine Le.lit [] [] _ _ ?_ ?_ ?_ ?_
  ·simp only [zL,simprocAttr]
  ·simp only [zL,simprocAttr]
  ·simp [rlook]
  ·(simp;done)
 rintro ⟨i,hi,ha⟩
 simp only [keepS,keepE,lk_cons,List.cons_append,List.nil_append,↓reduceIte]
 simp only [zX]
 refine aS 240 (fun Q hQ=>by simp (disch:=intros;contradiction) only [zS,zW,simprocAttr];exact hQ) ?_
 refine aw_cond _ rfl trivial (fun ht=>?_) (fun hf=>?_)
 ·skip
  try simp at ht
  simp only [zX]
  have hi' : i < l.length:=by omega
  obtain ⟨w,hw⟩ : ∃ w,l[i] = w:=⟨_,rfl⟩
  refine aS 336 (fun Q hQ=>by simp (disch:=first | (intros;contradiction) | omega | (simp only [zN];omega)) only [zS,zW,erow,hw,simprocAttr];repeat refine ⟨by (omega),?_⟩;exact hQ) ?_
  refine aw_cond _ rfl trivial (fun ht=>?_) (fun hf=>?_)
  ·skip
   try simp at ht
   simp only [zX]
   refine aR 480 ?_
   refine Fin.b (.inr rfl) rfl trivial ?_
   symm
   rw [Bool.and_eq_false_iff]
   right
   rw [List.all_eq_false]
   exact ⟨w,by rw [← hw];exact List.getElem_mem hi',by simp;omega⟩
  try simp at hf
  simp only [zX]
  have ha' : ∀ e ∈ l.take (i + 1),e.d.length≤60:=fun e he=>by
   rw [take_one _ _ hi',List.mem_append,hw] at he
   rcases he with he | he
   ·exact ha e he
   ·simp only [List.mem_singleton] at he;subst he;omega
  refine aS 528 (fun Q hQ=>by simp (disch:=first | (intros;contradiction) | omega | (simp only [zN];omega)) only [zS,zW,simprocAttr];exact hQ) ?_
  refine ⟨⟨i + 1,by omega,ha'⟩,?_,by first | omega | (simp only;omega)⟩
  refine Le.lit [] [] _ _ ?_ ?_ ?_ ?_
  ·simp only [zL,simprocAttr]
   all_goals (try ((repeat' (rfl))))
  ·simp only [zL,simprocAttr]
  ·simp [rlook]
  ·(simp;done)
 try simp at hf
 simp only [zX,↓reduceIte]
 obtain rfl : i = l.length:=by omega
 rw [List.take_length] at ha
 rw [decide_eq_true hl,List.all_eq_true.2 (fun e he=>decide_eq_true (ha e he))]
 refine aR 608 ?_
 exact Fin.scalar (.inr rfl) rfl trivial rfl trivial

theorem SmallMsg_con (m : MG) : Con Tryz.prog 7 [.agg (msgC m)] [] (B ((decide (m.es.length≤12) && m.es.all fun e=>decide (e.d.length≤60)) && decide (m.d.length≤100) && decide (m.bc.length≤10) && decide (m.bd.length≤60))) []:=by
 have cE:=SmallEntries_con m.es
 generalize (decide (m.es.length≤12) && m.es.all fun e=>decide (e.d.length≤60)) = z at cE ⊢
 have e1 : decide ((m.d.length : Int)≤100) = decide (m.d.length≤100):=by rw [Bool.eq_iff_iff];simp;omega
 have e2 : decide ((m.bc.length : Int)≤10) = decide (m.bc.length≤10):=by rw [Bool.eq_iff_iff];simp;omega
 have e3 : decide ((m.bd.length : Int)≤60) = decide (m.bd.length≤60):=by rw [Bool.eq_iff_iff];simp;omega
 refine C_mementoseat_SmallMsg nl nl ?_
 simp only [cz,A_mementoseat_SmallMsg,argL,objL,List.length_nil,zX]
 refine aS 16 (fun Q hQ=>by simp (disch:=intros;contradiction) only [zS,msgC,simprocAttr];exact hQ) ?_
 refine aB 80 ?_
 refine rC [] (cE) ?_
 refine aEs (fun Q hQ=>by simp (disch:=intros;contradiction) only [zS,zW,e1,e2,e3,simprocAttr];exact hQ) ?_
 refine Fin.b (.inr rfl) rfl trivial ?_
 rfl

end Go.Abs

namespace Go.Abs
open Go Go.Proofs
set_option maxRecDepth 100000
set_option linter.unusedSimpArgs false
set_option maxHeartbeats 8000000

theorem MsgTells_con (raw : MG) (hraw : byM raw) (what a b c d how : Nat) (v : Int) (h1 : what < 256) (h2 : a < 256) (h3 : b < 256) (h4 : c < 256) (h5 : d < 256) (h6 : how < 256) :
  Con Tryz.prog 3 [.agg (msgC raw),.c (.v (.int .u8 what)),.c (.v (.int .u8 a)),.c (.v (.int .u8 b)),.c (.v (.int .u8 c)),.c (.v (.int .u8 d)),.c (.v (.int .u8 how)),I v] [] (B true) []:=by
 obtain ⟨m,hm,hme,cSo⟩:=some_con what a b c d h1 h2 h3 h4 h5
 obtain ⟨b1,hb1,cB1⟩:=bent_con m how v hm hme h6
 obtain ⟨b2,hb2,cB2⟩:=bent_con m how (bitsI .and .i64 v 15) hm hme h6
 have cSm:=SmallMsg_con raw
 refine C_mementolaw10_MsgTells nl nl ?_
 simp only [cz,A_mementolaw10_MsgTells,argL,objL,List.length_nil,Nat.zero_add,zX,simprocAttr]
 refine aS 16 (fun Q hQ=>by simp (disch:=intros;contradiction) only [zS,msgC,simprocAttr];exact hQ) ?_
 refine aBs 80 (fun Q hQ=>by simp (disch:=intros;contradiction) only [zS,↓reduceIte];exact hQ) ?_
 refine rC [] (known10_con) ?_
 refine aE ?_
 refine aF ?_
 refine aB 144 ?_
 refine rC [] (cSm) ?_
 refine aE ?_
 refine aw_cond _ rfl trivial (fun ht=>?_) (fun hf=>?_)
 ·skip
  try simp at ht
  simp only [zX]
  refine aR 224 ?_
  exact Fin.scalar (.inr rfl) rfl trivial rfl trivial
 try simp at hf
 simp only [zX]
 have hrok : Mok raw:=by
  exact ⟨by omega,by omega,by omega,by omega,hraw⟩
 refine aB 272 ?_
 refine rC [] (cSo) ?_ (hs:=(by exact .inr ⟨msgC_pure _,trivial⟩))
 refine aEs (fun Q hQ=>by simp (disch:=intros;contradiction) only [zS,msgC,simprocAttr];exact hQ) ?_
 refine aBD 432 ?_
 refine rC [] (cB1) ?_ (hs:=(by exact .inr ⟨msgC_pure _,trivial⟩))
 refine aMs (fun Q hQ=>by simp (disch:=intros;contradiction) only [zS,msgC,simprocAttr];exact hQ) ?_
 refine rC [] (cB2) ?_ (hs:=(by exact .inr ⟨msgC_pure _,trivial⟩))
 refine aEDs (fun Q hQ=>by simp (disch:=intros;contradiction) only [zS,msgC,simprocAttr];exact hQ) ?_
 obtain ⟨L,hL⟩ : ∃ L,L = [raw,m,b1,b2]:=⟨_,rfl⟩
 have hLo : ∀ y ∈ L,Mok y:=fun y hy=>by
  rw [hL] at hy
  simp only [List.mem_cons,List.not_mem_nil,or_false] at hy
  rcases hy with rfl | rfl | rfl | rfl
  ·exact hrok
  ·exact hm
  ·exact hb1
  ·exact hb2
 have hLl : L.length = 4:=by rw [hL];rfl
 refine aw_loopK (X:={ i : Nat // i≤4 }) [17] (fun i=>[(48,.c (.sl (L.map msgC))),(49,I 4),(50,I i.1)]) [368] (fun i=>[]) (fun i=>4 - i.1) (⟨0,by omega⟩) ?_ ?_
 ·skip
  simp only [keepS,keepE,Option.getD_some,lk_cons,lkE_cons,List.cons_append,List.nil_append,simprocAttr]
  refine Le.lit [608] [] _ _ ?_ ?_ ?_ ?_
  ·simp only [zL,simprocAttr]
   all_goals ((rw [hL];exact ⟨⟨_,_,rfl⟩,drows_msgC [raw,m,b1,b2]⟩);skip)
  ·simp only [zL,simprocAttr]
  ·simp [rlook]
  ·(simp;done)
 rintro ⟨i,hi⟩
 simp only [keepS,keepE,Option.getD_some,lk_cons,lkE_cons,List.cons_append,List.nil_append,simprocAttr]
 simp only [zX]
 refine aR 688 ?_
 refine aw_cond _ rfl trivial (fun ht=>?_) (fun hf=>?_)
 ·skip
  try simp at ht
  simp only [zX]
  have hi' : i < L.length:=by omega
  obtain ⟨x,hx⟩ : ∃ x,L[i] = x:=⟨_,rfl⟩
  have hxo:=hLo x (by rw [← hx];exact List.getElem_mem hi')
  have cP:=msg_Put_con x hxo
  have cQ:=MsgPut_con x hxo
  have cR:=msg_Right_con x hxo
  have cR2:=MsgRight_con x hxo
  have cS:=msg_Same_con x m hxo hm
  have cS2:=MsgSame_con x m hxo hm
  have hsm : (decide (x = m) != decide (x = m)) = false:=by simp
  cases hr : rightM x
  ·skip
   rw [putM_no hr] at cP cQ
   rw [hr] at cR cR2
   refine aS 736 (fun Q hQ=>by simp (disch:=first | (intros;contradiction) | omega | (simp only [zN];omega)) only [zS,zW,msgC,hx,simprocAttr];repeat refine ⟨by (omega),?_⟩;exact hQ) ?_
   refine aB 832 ?_
   refine rC [] (cP) ?_ (hs:=(by exact .inr ⟨pureTC,trivial⟩))
   refine aE ?_
   refine aB 976 ?_
   refine rC [] (cQ) ?_ (hs:=(by exact .inr ⟨pureTC,trivial⟩))
   refine aE ?_
   refine aw_draw 1120 (RG.go fun Q hQ=>?_)
   simp (disch:=intros;contradiction) only [zS,simprocAttr]
   repeat refine ⟨by ((simp;done)),?_⟩
   refine hQ ?_
   refine rG _ _ (cR) ?_
   refine aM ?_
   refine rG _ _ (cR2) ?_
   refine aM ?_
   refine rG _ _ (cS) ?_
   refine aM ?_
   refine rG _ _ (cS2) ?_
   refine aED ?_
   refine aF ?_
   refine aR 1568 ?_
   refine aw_cond _ rfl trivial (fun ht=>?_) (fun hf=>by cases hf)
   simp only [zX,↓reduceIte]
   refine aS 1632 (fun Q hQ=>by simp (disch:=first | (intros;contradiction) | omega | (simp only [zN];omega)) only [zS,zW,simprocAttr];exact hQ) ?_
   refine ⟨⟨i + 1,by omega⟩,?_,by first | omega | (simp only;omega)⟩
   refine Le.lit [] [] _ _ ?_ ?_ ?_ ?_
   ·simp only [zL,simprocAttr]
    all_goals (try ((repeat' (rfl))))
   ·simp only [zL,↓reduceIte]
   ·simp [rlook]
   ·(simp;done)
  have hB:=rest_put hr hxo.by'
  have cRd:=msg_Read_con _ hB
  rw [readM_ok bP_wide hr] at cRd
  have cE:=MsgSame_con x x hxo hxo
  rw [decide_eq_true (show x = x from rfl)] at cE
  have hs8:=hB.b8
  rw [putM_ok hr] at cP cQ
  rw [hr] at cR cR2
  have hstr:=str_eq (sealB (bodyM x)) (sealB (bodyM x)) hs8 hs8
  rw [decide_eq_true (show sealB (bodyM x) = sealB (bodyM x) from rfl)] at hstr
  refine aS 1696 (fun Q hQ=>by simp (disch:=first | (intros;contradiction) | omega | (simp only [zN];omega)) only [zS,zW,msgC,hx,simprocAttr];repeat refine ⟨by (omega),?_⟩;exact hQ) ?_
  refine aB 1792 ?_
  refine rC [] (cP) ?_ (hs:=(by exact .inr ⟨pureTC,trivial⟩))
  refine aE ?_
  refine aB 1936 ?_
  refine rC [] (cQ) ?_ (hs:=(by exact .inr ⟨pureTC,trivial⟩))
  refine aE ?_
  refine aw_draw 2080 (RG.go fun Q hQ=>?_)
  simp (disch:=intros;contradiction) only [zS,simprocAttr]
  repeat refine ⟨by (exact isByteRow_brow _),?_⟩
  refine hQ ?_
  refine rG _ _ (cR) ?_
  refine aM ?_
  refine rG _ _ (cR2) ?_
  refine aM ?_
  refine rG _ _ (cS) ?_
  refine aM ?_
  refine rG _ _ (cS2) ?_
  refine aED ?_
  refine aF ?_
  refine aR 2528 ?_
  refine aF ?_
  refine aB 2592 ?_
  refine rC [] (cRd) ?_ (hs:=(by exact .inr ⟨msgT_pure _ _,trivial⟩))
  refine aEs (fun Q hQ=>by simp (disch:=intros;contradiction) only [zS,msgC,simprocAttr];exact hQ) ?_
  refine aB 2752 ?_
  refine rG _ _ (cE) ?_
  refine aE ?_
  refine aF ?_
  refine aS 2912 (fun Q hQ=>by simp (disch:=first | (intros;contradiction) | omega | (simp only [zN];omega)) only [zS,zW,simprocAttr];exact hQ) ?_
  refine ⟨⟨i + 1,by omega⟩,?_,by first | omega | (simp only;omega)⟩
  refine Le.lit [] [] _ _ ?_ ?_ ?_ ?_
  ·simp only [zL,simprocAttr]
   all_goals (try ((repeat' (rfl))))
  ·simp only [zL,↓reduceIte]
  ·simp [rlook]
  ·(simp;done)
 try simp at hf
 simp only [zX,↓reduceIte]
 refine aR 2976 ?_
 exact Fin.scalar (.inr rfl) rfl trivial rfl trivial

end Go.Abs

namespace Go.Abs
open Go Go.Proofs
set_option maxRecDepth 100000
set_option linter.unusedSimpArgs false
set_option maxHeartbeats 8000000

theorem readM_ok2 {B : Nat→Nat} (hB : B 9≤1000000) {l : List Nat} (h : RestOk 1000000 l) : Mok (readM B l).1:=by
 have hj:=jM_ok hB (open_rest h)
 unfold readM
 generalize (jM B (openB l).1).1 = m at hj ⊢
 by_cases h1 : (openB l).2 = false
 ·rw [if_pos h1];exact zeroM_ok
 ·rw [if_neg h1]
  by_cases h2 : rightM m = true∧sealB (bodyM m) = l
  ·rw [if_pos h2];exact hj
  ·rw [if_neg h2];exact zeroM_ok
theorem drows_prow (l : List (List Nat)) : isDRows (l.map prow):=by
 intro r hr c hc
 obtain ⟨b,_,rfl⟩:=List.mem_map.1 hr
 simp only [prow,List.mem_singleton] at hc
 subst hc;rfl
theorem RestOk.set {m : Nat} {l : List Nat} (hl : RestOk m l) {k : Nat} {n : Nat} (hn : n < 256) : RestOk m (l.set k n) :=
 ⟨fun c hc=>by rcases List.mem_or_eq_of_mem_set hc with h | h;exact hl.b8 c h;omega,by rw [List.length_set];exact hl.len⟩
theorem RestOk.take {m : Nat} {l : List Nat} (hl : RestOk m l) (k : Nat) : RestOk m (l.take k) :=
 ⟨fun c hc=>hl.b8 c (List.mem_of_mem_take hc),by rw [List.length_take];have:=hl.len;omega⟩
theorem seal_rest {l : List Nat} {n : Nat} (h : RestOk n l) : RestOk (n + 4) (sealB l):=⟨seal_by h.b8,by unfold sealB;rw [List.length_append,fourB_len];have:=h.len;omega⟩
theorem MsgReads_con (raw : List Nat) (what a b c d at' x : Nat) (hr8 : ∀ c ∈ raw,c < 256) (h1 : what < 256) (h2 : a < 256) (h3 : b < 256) (h4 : c < 256) (h5 : d < 256) (h6 : at' < 65536) (h7 : x < 256) :
  Con Tryz.prog 4 [.c (.sl (raw.map brow)),.c (.v (.int .u8 what)),.c (.v (.int .u8 a)),.c (.v (.int .u8 b)),.c (.v (.int .u8 c)),.c (.v (.int .u8 d)),.c (.v (.int .u16 at')),.c (.v (.int .u8 x))] [] (B true) []:=by
 obtain ⟨m,hm,hme,cSo⟩:=some_con what a b c d h1 h2 h3 h4 h5
 have cP:=MsgPut_con m hm
 have hp8:=putM_by hm.by'
 have hpl : (putM m).1.length≤1000000:=by
  by_cases hr : rightM m = true
  ·rw [putM_ok hr];exact (rest_put hr hm.by').len
  ·rw [putM_no (by simpa using hr)];simp
 generalize putM m = pm at cP hp8 hpl
 obtain ⟨p,e⟩:=pm
 simp only at cP hp8 hpl
 refine C_mementolaw10_MsgReads nl nl ?_
 simp only [cz,A_mementolaw10_MsgReads,argL,objL,List.length_nil,Nat.zero_add,zX,simprocAttr]
 refine aR 16 ?_
 refine aBs 64 (fun Q hQ=>by simp (disch:=intros;contradiction) only [zS,↓reduceIte];exact hQ) ?_
 refine rC [] (known10_con) ?_
 refine aE ?_
 refine aF ?_
 refine aS 128 (fun Q hQ=>by simp (disch:=intros;contradiction) only [zS,zW,simprocAttr];exact hQ) ?_
 refine aw_cond _ rfl trivial (fun ht=>?_) (fun hf=>?_)
 ·skip
  try simp at ht
  simp only [zX]
  refine aR 208 ?_
  exact Fin.scalar (.inr rfl) rfl trivial rfl trivial
 try simp at hf
 simp only [zX]
 have hrl : raw.length≤100:=by omega
 have cS1:=mementoref1_Seal_con raw hr8 (by omega)
 refine aB 256 ?_
 refine rC [] (cSo) ?_ (hs:=(by exact .inr ⟨msgC_pure _,trivial⟩))
 refine aMs (fun Q hQ=>by simp (disch:=intros;contradiction) only [zS,msgC,simprocAttr];exact hQ) ?_
 refine rC [] (cP) ?_ (hs:=(by exact .inr ⟨pureTC,trivial⟩))
 refine aE ?_
 refine aB 480 ?_
 refine rO [] [] (cS1) ?_
 refine RG.go fun Q hQ=>?_
 simp (disch:=intros;contradiction) only [zS,simprocAttr]
 refine hQ (RG.nil ?_)
 simp only [zY]
 have hpr : RestOk 1000000 p:=⟨hp8,hpl⟩
 have hrr : RestOk 100 raw:=⟨hr8,hrl⟩
 have hsr:=seal_rest hrr
 have hwa : IntKind.i64.wrap (at' : Int) = at':=w64 _ (by omega) (by omega)
 refine aw_joinS (Y:={ l : List (List Nat) // (∀ b ∈ l,RestOk 1000000 b)∧l.length≤7 }) [] (fun q=>[(19,.c (.sl (q.1.map prow)))]) [] (fun q=>[]) (by (repeat' (exact cl_fin))) ?_ ?_
 ·skip
  simp only [zX]
  refine aS 608 (fun Q hQ=>by simp (disch:=intros;contradiction) only [zS,zW,simprocAttr];exact hQ) ?_
  refine aw_cond _ rfl trivial (fun ht=>?_) (fun hf=>?_)
  ·skip
   try simp at ht
   simp only [zX]
   have hp4 : 4 < p.length:=by omega
   have hk : at' % p.length < p.length:=Nat.mod_lt _ (by omega)
   have hq1 : (at' : Int).tmod (p.length : Int) = ((at' % p.length : Nat) : Int):=by rw [Int.tmod_eq_emod_of_nonneg (by omega)];rfl
   have hq1e : (at' : Int) % (p.length : Int) = ((at' % p.length : Nat) : Int):=rfl
   obtain ⟨hx1,hx2⟩:=xorB_eq p[at' % p.length] x
   obtain ⟨k1,hk1⟩ : ∃ k1,at' % p.length = k1:=⟨_,rfl⟩
   have hgp : p[at' % p.length] = p[k1]'(by omega):=by simp only [hk1]
   rw [hgp] at hx1 hx2
   rw [hk1] at hk hq1 hq1e
   generalize hcv : xorB (p[k1]'(by omega)) x = cv at hx1 hx2
   have hs1 : (List.map brow p).set k1 [C.v (Value.int IntKind.u8 (cv : Int))] = (p.set k1 cv).map brow:=by rw [List.map_set];rfl
   obtain ⟨z0,hz0⟩ : ∃ z0,z0 = p.take (p.length - 4):=⟨_,rfl⟩
   have hz0l : z0.length = p.length - 4:=by rw [hz0];simp
   have hz0r : RestOk 999996 z0:=⟨fun c hc=>hp8 c (by rw [hz0] at hc;exact List.mem_of_mem_take hc),by omega⟩
   have hzn : ((p.length : Int) - 4).toNat = p.length - 4:=by omega
   have hzr : List.take (p.length - 4) (p.map brow) = z0.map brow:=by rw [hz0,List.map_take]
   have hk' : at' % z0.length < z0.length:=Nat.mod_lt _ (by omega)
   have hq2 : (at' : Int).tmod (z0.length : Int) = ((at' % z0.length : Nat) : Int):=by rw [Int.tmod_eq_emod_of_nonneg (by omega)];rfl
   have hq2e : (at' : Int) % (z0.length : Int) = ((at' % z0.length : Nat) : Int):=rfl
   have hq3 : (at' : Int).tmod ((p.length : Int) - 4) = ((at' % z0.length : Nat) : Int):=by rw [← hq2,hz0l];congr 1;omega
   have hq3e : (at' : Int) % ((p.length : Int) - 4) = ((at' % z0.length : Nat) : Int):=by rw [← hq2e,hz0l];congr 1;omega
   obtain ⟨hy1,hy2⟩:=xorB_eq z0[at' % z0.length] x
   obtain ⟨k2,hk2⟩ : ∃ k2,at' % z0.length = k2:=⟨_,rfl⟩
   have hgz : z0[at' % z0.length] = z0[k2]'(by omega):=by simp only [hk2]
   rw [hgz] at hy1 hy2
   rw [hk2] at hk' hq2 hq2e hq3 hq3e
   generalize hcw : xorB (z0[k2]'(by omega)) x = cw at hy1 hy2
   have hs2 : (List.map brow z0).set k2 [C.v (Value.int IntKind.u8 (cw : Int))] = (z0.set k2 cw).map brow:=by rw [List.map_set];rfl
   have hyr:=hpr.set (k:=k1) hx2
   have hzzr:=hz0r.set (k:=k2) hy2
   obtain ⟨u,hu⟩ : ∃ u,u = p.take (p.length - 4 - k2):=⟨_,rfl⟩
   have hur : RestOk 999996 u:=⟨fun c hc=>hp8 c (by rw [hu] at hc;exact List.mem_of_mem_take hc),by rw [hu];simp;omega⟩
   have hun : ((p.length : Int) - 4 - (k2 : Int)).toNat = p.length - 4 - k2:=by omega
   have hurow : List.take (p.length - 4 - k2) (p.map brow) = u.map brow:=by rw [hu,List.map_take]
   have htrow : List.take k1 (p.map brow) = (p.take k1).map brow:=by rw [List.map_take]
   have cZ:=mementoref1_Seal_con (z0.set k2 cw) hzzr.b8 (by have:=hzzr.len;omega)
   have cU:=mementoref1_Seal_con u hur.b8 (by have:=hur.len;omega)
   have hset0 : (z0.set k2 cw).length = z0.length:=List.length_set
   refine aS 688 (fun Q hQ=>by simp (disch:=intros;contradiction) only [zS,zW,simprocAttr];repeat refine ⟨by (exact ⟨by (intro q hq;obtain ⟨_,_,rfl⟩:=List.mem_map.1 hq;rfl),by omega⟩),?_⟩;exact hQ) ?_
   refine aw_reg 768 (RG.go fun Q hQ=>?_)
   simp (disch:=first | (intros;contradiction) | omega | (simp only [zN];omega)) only [zS,zW,hwa,hq1e,hx1,hs1,brow,simprocAttr]
   repeat refine ⟨by (omega),?_⟩
   refine hQ (RG.nil ?_)
   simp only [zX]
   refine aw_reg 992 (RG.go fun Q hQ=>?_)
   simp (disch:=first | (intros;contradiction) | omega | (simp only [zN];omega)) only [zS,zW,hzn,hzr,simprocAttr]
   repeat refine ⟨by (first | exact ⟨by (intro q hq;obtain ⟨_,_,rfl⟩:=List.mem_map.1 hq;rfl),by omega⟩ | (refine ⟨?_,?_⟩ <;> (repeat' (first | omega | (intro q hq;obtain ⟨_,_,rfl⟩:=List.mem_map.1 hq;rfl) | refine ⟨?_,?_⟩)))),?_⟩
   refine hQ (RG.nil ?_)
   simp only [zX]
   refine aw_reg 1136 (RG.go fun Q hQ=>?_)
   simp (disch:=first | (intros;contradiction) | omega | (simp only [zN];omega)) only [zS,zW,hwa,hq2e,hy1,hs2,brow,simprocAttr]
   repeat refine ⟨by (omega),?_⟩
   refine hQ (RG.nil ?_)
   simp only [zX]
   obtain ⟨L1,hL1⟩ : ∃ L1,L1 = [raw,p,sealB raw,p.set k1 cv,sealB (z0.set k2 cw),sealB u,p.take k1]:=⟨_,rfl⟩
   have hZ:=seal_rest hzzr
   have hU:=seal_rest hur
   have hT:=hpr.take k1
   have hall : (∀ b ∈ L1,RestOk 1000000 b)∧L1.length≤7:=⟨fun y hy=>by
    rw [hL1] at hy
    simp only [List.mem_cons,List.not_mem_nil,or_false] at hy
    rcases hy with rfl | rfl | rfl | rfl | rfl | rfl | rfl
    ·exact ⟨hr8,by omega⟩
    ·exact hpr
    ·exact ⟨hsr.b8,by have:=hsr.len;omega⟩
    ·exact hyr
    ·exact ⟨hZ.b8,by have:=hZ.len;omega⟩
    ·exact ⟨hU.b8,by have:=hU.len;omega⟩
    ·exact hT,by rw [hL1];simp⟩
   refine aBD 1360 ?_
   refine rO [] [1072] (cZ) ?_
   refine RG.go fun Q hQ=>?_
   simp (disch:=first | (intros;contradiction) | omega | (simp only [zN];omega)) only [zS,zW,hwa,hq3e,hun,hurow,simprocAttr]
   repeat refine ⟨by (first | omega | (refine ⟨?_,?_⟩ <;> (repeat' (first | omega | (intro q hq;obtain ⟨_,_,rfl⟩:=List.mem_map.1 hq;rfl) | refine ⟨?_,?_⟩)))),?_⟩
   refine hQ ?_
   refine rO [] [] (cU) ?_
   refine RG.go fun Q hQ=>?_
   simp (disch:=first | (intros;contradiction) | omega | (simp only [zN];omega)) only [zS,zW,hwa,hq1e,htrow,simprocAttr]
   repeat refine ⟨by (first | omega | (simp;done) | (refine ⟨?_,?_⟩ <;> (repeat' (first | omega | (intro q hq;obtain ⟨_,_,rfl⟩:=List.mem_map.1 hq;rfl) | refine ⟨?_,?_⟩)))),?_⟩
   refine hQ (RG.nil ⟨by decide +kernel,?_⟩)
   simp only [zX]
   refine ⟨⟨L1,hall⟩,?_⟩
   simp only [keepS,keepE,List.cons_append,List.nil_append]
   refine (Le.tell [528,704,1408,1616] 1760 24 1 _ (L1.map prow) false rfl (by rw [hL1];exact ⟨⟨.inl rfl,trivial⟩,⟨.inl rfl,trivial⟩,⟨.inr (.inr ⟨_,_,_,_,rfl,rfl,rfl,drows_brow _⟩),trivial⟩,⟨.inr (.inr ⟨_,_,_,_,rfl,rfl,rfl,drows_brow _⟩),trivial⟩,⟨.inr (.inr ⟨_,_,_,_,rfl,rfl,rfl,drows_brow _⟩),trivial⟩,⟨.inr (.inr ⟨_,_,_,_,rfl,rfl,rfl,drows_brow _⟩),trivial⟩,⟨.inl rfl,trivial⟩,trivial⟩)).trans ?_
   refine Le.lit [1760] [] _ _ ?_ ?_ ?_ ?_
   ·simp only [zL,simprocAttr]
    all_goals (exact ⟨⟨_,_,rfl⟩,drows_prow _⟩;skip)
   ·simp only [zL,simprocAttr]
   ·simp [rlook]
   ·(simp;done)
  try simp at hf
  simp only [zX]
  obtain ⟨L0,hL0⟩ : ∃ L0,L0 = [raw,p,sealB raw]:=⟨_,rfl⟩
  have hall : (∀ b ∈ L0,RestOk 1000000 b)∧L0.length≤7:=⟨fun y hy=>by
   rw [hL0] at hy
   simp only [List.mem_cons,List.not_mem_nil,or_false] at hy
   rcases hy with rfl | rfl | rfl
   ·exact ⟨hr8,by omega⟩
   ·exact hpr
   ·exact ⟨hsr.b8,by have:=hsr.len;omega⟩,by rw [hL0];simp⟩
  refine ⟨⟨L0,hall⟩,?_⟩
  simp only [keepS,keepE,List.cons_append,List.nil_append]
  refine (Le.tell [528] 544 24 1 _ (L0.map prow) false rfl (by rw [hL0];exact ⟨⟨.inl rfl,trivial⟩,⟨.inl rfl,trivial⟩,⟨.inr (.inr ⟨_,_,_,_,rfl,rfl,rfl,drows_brow _⟩),trivial⟩,trivial⟩)).trans ?_
  refine Le.lit [544] [] _ _ ?_ ?_ ?_ ?_
  ·simp only [zL,simprocAttr]
   all_goals (exact ⟨⟨_,_,rfl⟩,drows_prow _⟩;skip)
  ·simp only [zL,simprocAttr]
  ·simp [rlook]
  ·(simp;done)
 rintro ⟨L,hL,hLl⟩
 simp only [keepS,keepE,List.cons_append,List.nil_append]
 simp only [zX]
 refine aR 1824 ?_
 refine aw_loopK (X:={ i : Nat // i≤L.length }) [19] (fun i=>[(22,I i.1)]) [] (fun i=>[]) (fun i=>L.length - i.1) (⟨0,by omega⟩) ?_ ?_
 ·skip
  simp only [keepS,keepE,lk_cons,List.cons_append,List.nil_append,↓reduceIte]
  refine Le.lit [] [] _ _ ?_ ?_ ?_ ?_
  ·simp only [zL,simprocAttr]
  ·simp only [zL,simprocAttr]
  ·simp [rlook]
  ·(simp;done)
 rintro ⟨i,hi⟩
 simp only [keepS,keepE,lk_cons,List.cons_append,List.nil_append,↓reduceIte]
 simp only [zX]
 refine aS 1872 (fun Q hQ=>by simp (disch:=intros;contradiction) only [zS,zW,simprocAttr];exact hQ) ?_
 refine aw_cond _ rfl trivial (fun ht=>?_) (fun hf=>?_)
 ·skip
  try simp at ht
  simp only [zX]
  have hi' : i < L.length:=by omega
  obtain ⟨w,hw⟩ : ∃ w,L[i] = w:=⟨_,rfl⟩
  have hwr:=hL w (by rw [← hw];exact List.getElem_mem hi')
  have cA:=msg_Read_con w hwr
  have cB:=MsgRead_con w hwr
  have hag:=readM_agree bP_wide bR_wide w
  have hok:=readM_ok2 (B:=bR) (by decide) hwr
  rw [hag] at cA
  generalize readM bR w = rr at cA cB hok
  obtain ⟨y,ye⟩:=rr
  simp only at cA cB hok
  have cE:=MsgSame_con y y hok hok
  rw [decide_eq_true (show y = y from rfl)] at cE
  have hne : (ye != ye) = false:=by simp
  refine aBs 1968 (fun Q hQ=>by simp (disch:=first | (intros;contradiction) | omega | (simp only [zN];omega)) only [zS,zW,hw,prow,simprocAttr];repeat refine ⟨by (omega),?_⟩;exact hQ) ?_
  refine rC [] (cA) ?_ (hs:=(by exact .inr ⟨msgT_pure _ _,trivial⟩))
  refine aEs (fun Q hQ=>by simp (disch:=intros;contradiction) only [zS,msgC,simprocAttr];exact hQ) ?_
  refine aBs 2176 (fun Q hQ=>by simp (disch:=first | (intros;contradiction) | omega | (simp only [zN];omega)) only [zS,zW,hw,prow,simprocAttr];repeat refine ⟨by (omega),?_⟩;exact hQ) ?_
  refine rC [] (cB) ?_ (hs:=(by exact .inr ⟨msgT_pure _ _,trivial⟩))
  refine aEs (fun Q hQ=>by simp (disch:=intros;contradiction) only [zS,msgC,simprocAttr];exact hQ) ?_
  refine aBs 2384 (fun Q hQ=>by simp (disch:=intros;contradiction) only [zS,hne,simprocAttr];exact hQ) ?_
  refine rG _ _ (cE) ?_
  refine aE ?_
  refine aF ?_
  refine aS 2560 (fun Q hQ=>by simp (disch:=first | (intros;contradiction) | omega | (simp only [zN];omega)) only [zS,zW,simprocAttr];exact hQ) ?_
  refine ⟨⟨i + 1,hi'⟩,?_,by first | omega | (simp only;omega)⟩
  refine Le.lit [] [] _ _ ?_ ?_ ?_ ?_
  ·simp only [zL,simprocAttr]
   all_goals (try ((repeat' (rfl))))
  ·simp only [zL]
  ·simp [rlook]
  ·(simp;done)
 try simp at hf
 simp only [zX,↓reduceIte]
 refine aR 2640 ?_
 exact Fin.scalar (.inr rfl) rfl trivial rfl trivial

end Go.Abs

namespace Go.Abs
open Go Go.Proofs
set_option maxRecDepth 100000
set_option linter.unusedSimpArgs false
set_option maxHeartbeats 8000000

structure Turn (b : List Nat) (s k : Nat) (cur : List Nat) (mk : List Bool) : Prop where
 b8 : ∀ x ∈ cur,x < 256
 len : cur.length = b.length
 ml : mk.length = k
 win : List.zipWith xor (b.flatMap bitsB) (cur.flatMap bitsB) = List.replicate s false ++ mk ++ List.replicate (8 * b.length - s - k) false
 none : true ∉ mk→cur = b
theorem Turn.start {b : List Nat} (h8 : ∀ x ∈ b,x < 256) (s : Nat) (hs : s≤8 * b.length) : Turn b s 0 b []:=by
 refine ⟨h8,rfl,rfl,?_,fun _=>rfl⟩
 rw [xor_self_none,bits_len]
 simp only [List.append_nil,Nat.sub_zero]
 rw [List.replicate_append_replicate]
 congr 1;omega
theorem Turn.keep {b : List Nat} {s k : Nat} {cur : List Nat} {mk : List Bool} (h : Turn b s k cur mk) (hk : s + k < 8 * b.length) : Turn b s (k + 1) cur (mk ++ [false]):=by
 refine ⟨h.b8,h.len,by simp [h.ml],?_,fun hn=>h.none fun ht=>hn (by simp [ht])⟩
 rw [h.win,show 8 * b.length - s - k = (8 * b.length - s - (k + 1)) + 1 by omega,win_keep]
theorem Turn.flip {b : List Nat} {s k : Nat} {cur : List Nat} {mk : List Bool} (h : Turn b s k cur mk) (hk : s + k < 8 * b.length) (hc : (s + k) / 8 < cur.length) : Turn b s (k + 1) (cur.set ((s + k) / 8) (cur[(s + k) / 8] ^^^ (1 <<< ((s + k) % 8)))) (mk ++ [true]):=by
 have hb:=byte_flip (x:=cur[(s + k) / 8]) (j:=(s + k) % 8) (h.b8 _ (List.getElem_mem hc)) (Nat.mod_lt _ (by decide))
 refine ⟨fun x hx=>?_,by rw [List.length_set];exact h.len,by simp [h.ml],?_,fun hn=>absurd (by simp) hn⟩
 ·rcases List.mem_or_eq_of_mem_set hx with hx | hx
  ·exact h.b8 x hx
  ·rw [hx];exact hb.2
 ·have hl : (b.flatMap bitsB).length = (cur.flatMap bitsB).length:=by rw [bits_len,bits_len,h.len]
  have hi : s + k < (cur.flatMap bitsB).length:=by rw [bits_len,h.len];exact hk
  rw [bits_flip cur (s + k) hc,xor_set hl hi]
  have hwn:=h.win
  rw [show 8 * b.length - s - k = (8 * b.length - s - (k + 1)) + 1 by omega] at hwn
  have hsk : s + k = s + mk.length:=by rw [h.ml]
  have hzl : (List.zipWith xor (b.flatMap bitsB) (cur.flatMap bitsB)).length = 8 * b.length:=by rw [List.length_zipWith,← hl,bits_len,Nat.min_self]
  have hv : (List.zipWith xor (b.flatMap bitsB) (cur.flatMap bitsB))[s + k]'(by omega) = false:=by
   have h1 : (List.zipWith xor (b.flatMap bitsB) (cur.flatMap bitsB))[s + k]? = some false:=by
    have h2 : s + mk.length < (List.replicate s false ++ mk ++ List.replicate (8 * b.length - s - (k + 1) + 1) false).length:=by simp <;> omega
    rw [hwn,hsk,List.getElem?_eq_getElem h2,win_at s _ mk h2]
   rw [List.getElem?_eq_getElem (by omega)] at h1
   exact Option.some.inj h1
  rw [hv,hwn,hsk,Bool.not_false,win_flip]
theorem turned_read {b : List Nat} (h8 : ∀ x ∈ b,x < 256) {s k : Nat} {cur : List Nat} {mk : List Bool} (h : Turn b s k cur mk) (hk : k≤32) (ht : true ∈ mk) (B : Nat→Nat) : readM B (cur ++ fourB (crcM 0#32 b)) = (zeroM,24):=by
 have:=open_turned h8 h.b8 h.len.symm (by rw [h.ml];exact hk) ht h.win
 unfold readM
 rw [this,if_pos rfl]

theorem body_pos (m : MG) : 1≤(bodyM m).length:=by
 have h : num7 m.kind.toNat≠[]:=by rw [num7];split <;> simp
 have h1 : 1≤(num7 m.kind.toNat).length:=List.length_pos_iff.2 h
 unfold bodyM headM putS
 simp only [List.flatMap_cons,List.length_append]
 omega
theorem MsgTurned_con (what a b c d at' x : Nat) (h1 : what < 256) (h2 : a < 256) (h3 : b < 256) (h4 : c < 256) (h5 : d < 256) (h6 : at' < 65536) (h7 : x < 4294967296) :
  Con Tryz.prog 5 [.c (.v (.int .u8 what)),.c (.v (.int .u8 a)),.c (.v (.int .u8 b)),.c (.v (.int .u8 c)),.c (.v (.int .u8 d)),.c (.v (.int .u16 at')),.c (.v (.int .u32 x))] [] (B true) []:=by
 obtain ⟨m,hm,hme,cSo⟩:=some_con what a b c d h1 h2 h3 h4 h5
 have cR:=MsgRight_con m hm
 by_cases hr : rightM m = true
 ·have cP:=msg_Put_own_con m hm hr
  have hB:=rest_put hr hm.by'
  have hb8:=bodyM_by hm.by'
  have hbl:=bodyM_len (rightM_facts hr)
  have hb0 : 1≤(bodyM m).length:=body_pos m
  have hse : sealB (bodyM m) = bodyM m ++ fourB (crcM 0#32 (bodyM m)):=rfl
  obtain ⟨bo,hbo⟩ : ∃ bo,bo = bodyM m:=⟨_,rfl⟩
  rw [← hbo] at cP hB hb8 hbl hb0 hse
  obtain ⟨n,hn⟩ : ∃ n,n = 8 * bo.length:=⟨_,rfl⟩
  have hwa : IntKind.i64.wrap (at' : Int) = at':=w64 _ (by omega) (by omega)
  obtain ⟨s,hs⟩ : ∃ s,at' % n = s:=⟨_,rfl⟩
  have hsn : s < n:=by rw [← hs];exact Nat.mod_lt _ (by omega)
  have hq1 : (at' : Int).tmod (n : Int) = (s : Int):=by rw [Int.tmod_eq_emod_of_nonneg (by omega),← hs];rfl
  have hq1e : (at' : Int) % (n : Int) = (s : Int):=by rw [← hs];rfl
  have hsl : (sealB bo).length = bo.length + 4:=by rw [hse,List.length_append,fourB_len]
  have hnn : (8 : Int) * ((sealB bo).length - 4) = (n : Int):=by omega
  refine C_mementolaw10_MsgTurned nl nl ?_
  simp only [cz,A_mementolaw10_MsgTurned,argL,objL,List.length_nil,Nat.zero_add,zX,simprocAttr]
  refine aR 16 ?_
  refine aBs 64 (fun Q hQ=>by simp (disch:=intros;contradiction) only [zS,↓reduceIte];exact hQ) ?_
  refine rC [] (known10_con) ?_
  refine aE ?_
  refine aF ?_
  refine aB 128 ?_
  refine rC [] (cSo) ?_ (hs:=(by exact .inr ⟨msgC_pure _,trivial⟩))
  refine aEs (fun Q hQ=>by simp (disch:=intros;contradiction) only [zS,msgC,simprocAttr];exact hQ) ?_
  refine aB 288 ?_
  refine rO [] [] (cP) ?_
  refine aE ?_
  refine aR 432 ?_
  refine aF ?_
  refine aS 496 (fun Q hQ=>by simp (disch:=first | (intros;contradiction) | omega | (simp only [zN];omega)) only [zS,zW,hnn,simprocAttr];exact hQ) ?_
  refine aR 624 ?_
  refine aw_loopK (X:={ q : Nat × List Nat × List Bool // q.1≤32∧s + q.1≤n∧Turn bo s q.1 q.2.1 q.2.2 }) [5,6,15,16,18] (fun q=>[(19,B (decide (true ∈ q.1.2.2))),(20,I q.1.1)]) [224] (fun q=>[(304,.arr 5 1 ((q.1.2.1 ++ fourB (crcM 0#32 bo)).map brow) false)]) (fun q=>32 - q.1.1) (⟨(0,bo,[]),by simp only;omega,by simp only;omega,Turn.start hb8 s (by omega)⟩) ?_ ?_
  ·skip
   simp only [keepS,keepE,Option.getD_some,lk_cons,lkE_cons,List.cons_append,List.nil_append,simprocAttr]
   refine Le.lit [] [] _ _ ?_ ?_ ?_ ?_
   ·simp only [zL,simprocAttr]
    all_goals (try ((repeat' (rfl))))
   ·simp only [zL,simprocAttr]
    all_goals (try ((repeat' (first | (exact drows_brow _) | rfl | refine ⟨?_,?_⟩))))
   ·simp [rlook]
   ·(simp;done)
  rintro ⟨⟨k,cur,mk⟩,k1,k2,k3⟩
  simp only [keepS,keepE,Option.getD_some,lk_cons,lkE_cons,List.cons_append,List.nil_append,simprocAttr]
  simp only [zX]
  simp only at k1 k2 k3
  refine aS 672 (fun Q hQ=>by simp (disch:=first | (intros;contradiction) | omega | (simp only [zN];omega)) only [zS,zW,hwa,hq1e,simprocAttr];repeat refine ⟨by ((simp;omega)),?_⟩;exact hQ) ?_
  refine aw_cond _ rfl trivial (fun ht=>?_) (fun hf=>?_)
  ·skip
   try simp at ht
   simp only [zX]
   have hk32 : k < 32:=by omega
   have hskn : s + k < n:=by omega
   obtain ⟨j,hj⟩ : ∃ j,j = s + k:=⟨_,rfl⟩
   have hjj : (s : Int) + (k : Int) = (j : Int):=by omega
   have hj8 : (j : Int).tdiv 8 = ((j / 8 : Nat) : Int):=rfl
   have hj8e : (j : Int) / 8 = ((j / 8 : Nat) : Int):=rfl
   have hjm : (j : Int).tmod 8 = ((j % 8 : Nat) : Int):=(Int.ofNat_tmod j 8).symm
   have hjme : (j : Int) % 8 = ((j % 8 : Nat) : Int):=rfl
   have hcl:=k3.len
   have hi8 : j / 8 < cur.length:=by omega
   have hr8 : j % 8 < 8:=Nat.mod_lt _ (by decide)
   refine aS 896 (fun Q hQ=>by simp (disch:=intros;contradiction) only [zS,zW,simprocAttr];repeat refine ⟨by (omega),?_⟩;exact hQ) ?_
   refine aw_cond _ rfl trivial (fun ht=>?_) (fun hf=>?_)
   ·skip
    try simp at ht
    simp only [zX]
    obtain ⟨z,hz⟩ : ∃ z,z = cur ++ fourB (crcM 0#32 bo):=⟨_,rfl⟩
    rw [← hz]
    have hzl : z.length = cur.length + 4:=by rw [hz,List.length_append,fourB_len]
    have hzi : z[j / 8]'(by omega) = cur[j / 8]:=by simp only [hz];exact List.getElem_append_left hi8
    have hbf:=byte_flip (x:=cur[j / 8]) (j:=j % 8) (k3.b8 _ (List.getElem_mem hi8)) hr8
    obtain ⟨cv,hcv⟩ : ∃ cv,cur[j / 8] = cv:=⟨_,rfl⟩
    rw [hcv] at hzi hbf
    obtain ⟨i8,hi8'⟩ : ∃ i8,j / 8 = i8:=⟨_,rfl⟩
    have hzi' : z[i8]'(by omega) = cv:=by simp only [← hi8'];exact hzi
    rw [hi8'] at hj8 hj8e
    have hsh8 : ∀ r : Fin 8,IntKind.u8.wrap (1 * 2 ^ min r.1 IntKind.u8.bits) = ((1 <<< r.1 : Nat) : Int):=by decide
    have hsh:=hsh8 ⟨j % 8,hr8⟩
    simp only at hsh
    have hxx:=hbf.1
    have hi8l : i8 < cur.length:=by omega
    have hset : (List.map brow z).set i8 [C.v (.int .u8 ((cv ^^^ (1 <<< (j % 8)) : Nat) : Int))] = (cur.set i8 (cv ^^^ (1 <<< (j % 8))) ++ fourB (crcM 0#32 bo)).map brow:=by
     rw [hz,← List.set_append_left _ _ hi8l,List.map_set];rfl
    have hfl : Turn bo s (k + 1) (cur.set i8 (cv ^^^ (1 <<< (j % 8)))) (mk ++ [true]):=by
     subst hj;subst hcv;subst hi8';exact k3.flip (by omega) (by omega)
    refine aw_draw 1008 (RG.go fun Q hQ=>?_)
    simp (disch:=first | (intros;contradiction) | omega | (simp only [zN];omega)) only [zS,zW,hwa,hq1e,hjj,hj8e,hjme,hzi',brow,simprocAttr]
    repeat refine ⟨by (omega),?_⟩
    refine hQ (RG.nil ⟨by decide +kernel,?_⟩)
    simp only [zX]
    refine aR 1376 ?_
    refine aS 1424 (fun Q hQ=>by simp (disch:=first | (intros;contradiction) | omega | (simp only [zN];omega)) only [zS,zW,simprocAttr];exact hQ) ?_
    refine ⟨⟨(k + 1,cur.set i8 (cv ^^^ (1 <<< (j % 8))),mk ++ [true]),by simp only;omega,by simp only;omega,hfl⟩,?_,by first | omega | (simp only;omega)⟩
    refine Le.lit [] [] _ _ ?_ ?_ ?_ ?_
    ·simp only [zL,simprocAttr]
     all_goals ((simp;done);skip)
    ·simp only [zL,simprocAttr]
     all_goals (rw [hsh,hxx,hset];exact ⟨rfl,drows_brow _⟩;skip)
    ·simp [rlook]
    ·(simp;done)
   try simp at hf
   simp only [zX]
   refine aS 1504 (fun Q hQ=>by simp (disch:=first | (intros;contradiction) | omega | (simp only [zN];omega)) only [zS,zW,simprocAttr];exact hQ) ?_
   refine ⟨⟨(k + 1,cur,mk ++ [false]),by simp only;omega,by simp only;omega,k3.keep (by omega)⟩,?_,by first | omega | (simp only;omega)⟩
   refine Le.lit [] [] _ _ ?_ ?_ ?_ ?_
   ·simp only [zL,simprocAttr]
    all_goals ((simp;done);skip)
   ·simp only [zL,simprocAttr]
    all_goals (try ((repeat' ((exact drows_brow _)))))
   ·simp [rlook]
   ·(simp;done)
  try simp at hf
  simp only [zX,↓reduceIte]
  have hzr : RestOk 1000000 (cur ++ fourB (crcM 0#32 bo)):=⟨fun c hc=>by
   rcases List.mem_append.1 hc with hc | hc
   ·exact k3.b8 c hc
   ·exact fourB_by _ c hc,by
   have:=hB.len
   rw [List.length_append,fourB_len,k3.len]
   omega⟩
  have cRd:=msg_Read_con _ hzr
  by_cases hmk : true ∈ mk
  ·skip
   have hd : decide (true ∈ mk) = true:=decide_eq_true hmk
   rw [turned_read hb8 k3 k1 hmk bP] at cRd
   refine aBs 1584 (fun Q hQ=>by simp (disch:=intros;contradiction) only [zS,hd,simprocAttr];exact hQ) ?_
   refine rO [] [304] (cRd) ?_
   refine aEs (fun Q hQ=>by simp (disch:=intros;contradiction) only [zS,msgC,simprocAttr];exact hQ) ?_
   refine aB 1744 ?_
   refine RG.callg (res:=B true) _ _ [] rfl (fun hg=>by simp at hg) ?_
   refine aE ?_
   exact Fin.scalar (.inr rfl) rfl trivial rfl trivial
  have hd : decide (true ∈ mk) = false:=decide_eq_false hmk
  have hcb:=k3.none hmk
  rw [hcb,← hse,hbo,readM_ok bP_wide hr] at cRd
  have hrow : (sealB (bodyM m)).map brow = (cur ++ fourB (crcM 0#32 bo)).map brow:=by rw [hcb,← hse,hbo]
  rw [hrow] at cRd
  have cE:=msg_Same_con m m hm hm
  rw [decide_eq_true (show m = m from rfl)] at cE
  refine aBs 2080 (fun Q hQ=>by simp (disch:=intros;contradiction) only [zS,hd,simprocAttr];exact hQ) ?_
  refine rO [] [304] (cRd) ?_
  refine aEs (fun Q hQ=>by simp (disch:=intros;contradiction) only [zS,msgC,simprocAttr];exact hQ) ?_
  refine aB 2240 ?_
  refine rG _ _ (cE) ?_
  refine aE ?_
  exact Fin.scalar (.inr rfl) rfl trivial rfl trivial

 ·have hrf : rightM m = false:=by simpa using hr
  have cP:=msg_Put_con m hm
  rw [putM_no hrf] at cP
  rw [hrf] at cR
  refine C_mementolaw10_MsgTurned nl nl ?_
  simp only [cz,A_mementolaw10_MsgTurned,argL,objL,List.length_nil,Nat.zero_add,zX,simprocAttr]
  refine aR 16 ?_
  refine aBs 64 (fun Q hQ=>by simp (disch:=intros;contradiction) only [zS,↓reduceIte];exact hQ) ?_
  refine rC [] (known10_con) ?_
  refine aE ?_
  refine aF ?_
  refine aB 128 ?_
  refine rC [] (cSo) ?_ (hs:=(by exact .inr ⟨msgC_pure _,trivial⟩))
  refine aEs (fun Q hQ=>by simp (disch:=intros;contradiction) only [zS,msgC,simprocAttr];exact hQ) ?_
  refine aB 288 ?_
  refine rC [] (cP) ?_ (hs:=(by exact .inr ⟨pureTC,trivial⟩))
  refine aE ?_
  refine aR 432 ?_
  refine aT ?_
  refine aB 496 ?_
  refine rC [] (cR) ?_
  refine aE ?_
  exact Fin.scalar (.inr rfl) rfl trivial rfl trivial

end Go.Abs

