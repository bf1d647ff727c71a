/- What the functions that the law comes to do, part 3. No condition. -/
import Derived.Test.YticoglgfoolppaaGreatConb
set_option linter.unusedVariables false
set_option linter.unusedSimpArgs false
set_option linter.unnecessarySimpa false
namespace Go.Abs
open Go Go.Proofs
set_option maxRecDepth 100000
set_option linter.unusedSimpArgs false
set_option maxHeartbeats 8000000

theorem export_Since_con (v : VOL) (l : List CH) (f t : Int) (hg : Vgood v 50000) (hl : l.length≤1000000) (hc : ∀ c ∈ l,Gch v c) :
  Con Tryz.prog 20 [.agg (volC v),.c (.sl (l.map chC)),I f,I t] [] (.tup [.agg (strC (strS v l f t false).1),I (strS v l f t false).2]) []:=by
 obtain ⟨hs,hf0,hf1,hpins,hws⟩:=right_facts hg.right
 have hpl:=(shape_lims hs).2.2.2.2.2.2
 have cP:=export_picks_con v l f t hg hl hc
 refine C_export_Since nl nl ?_
 simp only [cz,A_export_Since,argL,objL,List.length_nil,Nat.zero_add,zX,simprocAttr]
 refine aS 16 (fun Q hQ=>by simp (disch:=intros;contradiction) only [zS,vC_eq,simprocAttr];exact hQ) ?_
 refine aB 96 ?_
 refine rC [] (export_may_con v f t) ?_
 refine aE ?_
 refine aR 208 ?_
 refine aw_cond _ rfl trivial (fun ht=>?_) (fun hf=>?_)
 ·skip
  try simp at ht
  simp only [zX]
  rw [strS_no (by simpa using ht)]
  refine aR 272 ?_
  refine Fin.data [] (.inr rfl) rfl (by (exact ⟨trivial,trivial⟩)) ?_
  simp only [zL,simprocAttr]
  all_goals ((repeat' (first | exact trivial | rfl | refine ⟨?_,?_⟩)))
 try simp at hf
 simp only [zX]
 have hm : mayE v f t = 0:=by simpa using hf
 by_cases hp : picksN v l f t v.place.length = none
 ·skip
  rw [hp] at cP
  simp only [picksE] at cP
  rw [strS_none hm hp]
  refine aB 368 ?_
  refine rC [] (cP) ?_ (hs:=(by exact .inr ⟨pureTC,trivial⟩))
  refine aE ?_
  refine aR 560 ?_
  refine aT ?_
  refine aR 624 ?_
  refine Fin.data [] (.inr rfl) rfl (by (exact ⟨trivial,trivial⟩)) ?_
  simp only [zL,simprocAttr]
  all_goals ((repeat' (first | exact trivial | rfl | refine ⟨?_,?_⟩)))
 obtain ⟨cs,hcs⟩:=Option.ne_none_iff_exists'.1 hp
 rw [hcs] at cP
 simp only [picksE] at cP
 have hcl:=picksN_len hcs
 have hcm : ∀ c ∈ cs,Gch v c:=fun c hc'=>by
  obtain ⟨i,hi,rfl⟩:=List.mem_iff_getElem.1 hc'
  exact hc _ (picksN_mem hcs i hi).1
 have h256 : ∀ c ∈ cs,c.hist.length≤256:=fun c hc'=>((hcm c hc').facts hg).2.2.2.1
 rw [strS_some hm hcs,← hcl]
 clear cP hp
 have cP:=export_picks_con v l f t hg hl hc
 rw [hcs] at cP
 simp only [picksE] at cP
 clear hcs
 refine aB 720 ?_
 refine rC [] (cP) ?_ (hs:=(by exact .inr ⟨pureTC,trivial⟩))
 refine RG.go fun Q hQ=>?_
 simp (disch:=intros;contradiction) only [zS,simprocAttr]
 refine hQ (RG.nil ?_)
 simp only [zX,simprocAttr]
 refine aR 912 ?_
 refine aF ?_
 refine aR 976 ?_
 refine aS 1152 (fun Q hQ=>by simp (disch:=intros;contradiction) only [zS,zW,simprocAttr];exact hQ) ?_
 refine aw_loopK (X:={ x : Nat × List IT // x.1≤cs.length∧x.2 = itsX v f t false cs x.1 }) [2,3,4,8,13,45,46] (fun x=>[(47,I x.1.1)]) [16,32] (fun x=>[(1088,.box [.v (.int .i64 v.blocks),.v (.int .i64 v.size),.v (.int .i64 f),.v (.int .i64 t),.osl 5000]),(5000,.arr 96 2 (x.1.2.map irow) false)]) (fun x=>cs.length - x.1.1) (⟨(0,[]),by simp only;omega,rfl⟩) ?_ ?_
 ·skip
  simp only [keepS,keepE,Option.getD_some,lk_cons,lkE_cons,List.cons_append,List.nil_append,simprocAttr]
  refine (Le.ownB 1088 4 5000 _ 96 2 rfl rfl rfl (by decide)).trans ?_
  simp only [List.set_cons_succ,List.set_cons_zero,setE_cons,setE_nil,simprocAttr]
  refine Le.lit [] [] _ _ ?_ ?_ ?_ ?_
  ·simp only [zL,simprocAttr]
  ·simp only [zL,simprocAttr]
   all_goals (try ((repeat' (((simp [C.isD];done))))))
  ·simp [rlook]
  ·(simp;done)
 rintro ⟨⟨i,acc⟩,hi,hacc⟩
 simp only [keepS,keepE,Option.getD_some,lk_cons,lkE_cons,List.cons_append,List.nil_append,simprocAttr]
 simp only [zX]
 simp only at hi hacc
 refine aR 1232 ?_
 refine aw_cond _ rfl trivial (fun ht=>?_) (fun hf=>?_)
 ·skip
  try simp at ht
  simp only [zX]
  have hi' : i < cs.length:=by omega
  have hG:=hcm _ (List.getElem_mem hi')
  obtain ⟨c,hci⟩ : ∃ c,cs[i] = c:=⟨_,rfl⟩
  have hnx:=itsX_succ (v:=v) (f:=f) (t:=t) (full:=false) hi' hci
  rw [hci] at hG
  obtain ⟨g1,g2,g3,g4,_⟩:=hG.facts hg
  have hIl:=itsX_len (v:=v) (f:=f) (t:=t) (full:=false) h256 i
  rw [← hacc] at hnx hIl
  have cC:=chunk_Changed_con c f t g1 g2
  rw [chgF_blk] at cC
  have hbl:=blkL_len c f t false c.hist.length
  have hbm : ∀ b ∈ blkL c f t false c.hist.length,b < c.hist.length:=fun b hb=>by
   unfold blkL at hb;simpa using (List.mem_filter.1 hb).1
  generalize blkL c f t false c.hist.length = bs at hnx cC hbl hbm
  obtain ⟨zs,hzs⟩ : ∃ zs : List Int,zs = bs.map fun b : Nat=>(b : Int):=⟨_,rfl⟩
  have hzl : zs.length = bs.length:=by rw [hzs,List.length_map]
  rw [← hzs] at cC
  refine aS 1280 (fun Q hQ=>by simp (disch:=first | (intros;contradiction) | omega | (simp only [zN];omega)) only [zS,zW,hci,chC,chO,simprocAttr];repeat refine ⟨by (omega),?_⟩;exact hQ) ?_
  refine aB 1408 ?_
  refine rC [] (cC) ?_
  refine aEs (fun Q hQ=>by simp (disch:=intros;contradiction) only [zS,zW,simprocAttr];exact hQ) ?_
  refine aw_loopK (X:={ y : Nat × List IT // y.1≤bs.length∧y.2 = acc ++ itmL v i c t (bs.take y.1) }) [2,3,4,8,13,14,15,45,46,47,55,56] (fun y=>[(57,I y.1.1)]) [16,32,1328] (fun y=>[(1088,.box [.v (.int .i64 v.blocks),.v (.int .i64 v.size),.v (.int .i64 f),.v (.int .i64 t),.osl 5000]),(5000,.arr 96 2 (y.1.2.map irow) false)]) (fun y=>bs.length - y.1.1) (⟨(0,acc),by simp only;omega,by simp [itmL]⟩) ?_ ?_
  ·skip
   simp only [keepS,keepE,Option.getD_some,lk_cons,lkE_cons,List.cons_append,List.nil_append,simprocAttr]
   refine Le.lit [] [] _ _ ?_ ?_ ?_ ?_
   ·simp only [zL,simprocAttr]
   ·simp only [zL,simprocAttr]
    all_goals (try ((repeat' ((exact drows_irow _)))))
   ·simp [rlook]
   ·(simp;done)
  rintro ⟨⟨j,ac2⟩,hj,hac2⟩
  simp only [keepS,keepE,Option.getD_some,lk_cons,lkE_cons,List.cons_append,List.nil_append,simprocAttr]
  simp only [zX]
  simp only at hj hac2
  refine aR 1536 ?_
  refine aw_cond _ rfl trivial (fun ht=>?_) (fun hf=>?_)
  ·skip
   try simp at ht
   simp only [zX]
   have hj' : j < bs.length:=by omega
   have hjz : j < zs.length:=by omega
   have hb:=hbm _ (List.getElem_mem hj')
   have hzj : zs[j] = (bs[j] : Int):=by simp [hzs]
   have htk:=take_one bs j hj'
   obtain ⟨b,hbb⟩ : ∃ b,bs[j] = b:=⟨_,rfl⟩
   rw [hbb] at hb hzj htk
   have cI:=export_item_con v i c b t hg hG (by omega) (by omega)
   have hal : ac2.length≤1000000:=by rw [hac2,List.length_append,itmL_len,List.length_take];omega
   have hnx2 : ac2 ++ [⟨(i : Int) * v.per + (b : Int),(rdC c (b : Int) t).1⟩] = acc ++ itmL v i c t (bs.take (j + 1)):=by rw [htk,itmL_snoc,← List.append_assoc,← hac2]
   generalize (⟨(i : Int) * v.per + (b : Int),(rdC c (b : Int) t).1⟩ : IT) = it at cI hnx2
   have e2 : List.map irow ac2 ++ [[.v (.int .i64 it.b),.sl (it.d.map brow)]] = (ac2 ++ [it]).map irow:=by rw [List.map_append];rfl
   refine aS 1584 (fun Q hQ=>by simp (disch:=first | (intros;contradiction) | omega | (simp only [zN];omega)) only [zS,zW,hzj,nrow,simprocAttr];repeat refine ⟨by (omega),?_⟩;exact hQ) ?_
   refine aBD 1664 ?_
   refine rC [] (cI) ?_ (hs:=(by exact .inr ⟨irA_pure _,trivial⟩))
   refine aEDs (fun Q hQ=>by simp (disch:=intros;contradiction) only [zS,zW,irow,itC,e2,simprocAttr];repeat refine ⟨by ((simp;omega)),?_⟩;exact hQ) ?_
   refine aS 1888 (fun Q hQ=>by simp (disch:=first | (intros;contradiction) | omega | (simp only [zN];omega)) only [zS,zW,simprocAttr];exact hQ) ?_
   refine ⟨⟨(j + 1,ac2 ++ [it]),by simp only;omega,hnx2⟩,?_,by first | omega | (simp only;omega)⟩
   refine Le.lit [] [(5000,1808)] _ _ ?_ ?_ ?_ ?_
   ·simp only [zL,simprocAttr]
    all_goals (try ((repeat' (rfl))))
   ·simp only [zL,simprocAttr]
    all_goals (try ((repeat' ((exact drows_irow _)))))
   ·simp [rlook]
   ·(simp;done)
  try simp at hf
  simp only [zX,↓reduceIte]
  obtain rfl : j = bs.length:=by omega
  rw [List.take_length] at hac2
  refine aS 1952 (fun Q hQ=>by simp (disch:=first | (intros;contradiction) | omega | (simp only [zN];omega)) only [zS,zW,simprocAttr];exact hQ) ?_
  refine ⟨⟨(i + 1,ac2),by simp only;omega,by simp only;rw [hnx];exact hac2⟩,?_,by first | omega | (simp only;omega)⟩
  refine Le.lit [] [] _ _ ?_ ?_ ?_ ?_
  ·simp only [zL,simprocAttr]
   all_goals (try ((repeat' (rfl))))
  ·simp only [zL,simprocAttr]
   all_goals (try ((repeat' ((exact drows_irow _)))))
  ·simp [rlook]
  ·(simp;done)
 try simp at hf
 simp only [zX,↓reduceIte]
 obtain rfl : i = cs.length:=by omega
 rw [← hacc]
 refine aR 2016 ?_
 refine Fin.data [5000] (.inr rfl) rfl (by (exact ⟨trivial,trivial⟩)) ?_
 simp only [zL,simprocAttr]
 all_goals ((repeat' (first | exact trivial | rfl | (refine ⟨⟨_,_,rfl⟩,?_⟩;(exact drows_irow _)) | refine ⟨?_,?_⟩)))

theorem mementoref13_Changed_con (l : List IT) (f t : Int) (hl : l.length≤1000000) : Con Tryz.prog 69 [.c (.sl (l.map irow)),I f,I t] [] (B (chgH f t l)) []:=by
 refine C_mementoref13_Changed nl nl ?_
 simp only [cz,A_mementoref13_Changed,argL,objL,List.length_nil,Nat.zero_add,zX,simprocAttr]
 refine aR 16 ?_
 refine aR 64 ?_
 refine aw_loopK (X:={ i : Nat // i≤l.length∧chgH f t (l.take i) = false }) [0,1,2] (fun i=>[(7,I i.1)]) [] (fun i=>[]) (fun i=>l.length - i.1) (⟨0,by omega,rfl⟩) ?_ ?_
 ·skip
  simp only [keepS,keepE,lk_cons,List.cons_append,List.nil_append,simprocAttr]
  refine Le.lit [] [] _ _ ?_ ?_ ?_ ?_
  ·simp only [zL,simprocAttr]
  ·simp only [zL,simprocAttr]
  ·simp [rlook]
  ·(simp;done)
 rintro ⟨i,hi,hno⟩
 simp only [keepS,keepE,lk_cons,List.cons_append,List.nil_append,simprocAttr]
 simp only [zX]
 refine aS 112 (fun Q hQ=>by simp (disch:=intros;contradiction) only [zS,zW,simprocAttr];exact hQ) ?_
 refine aw_cond _ rfl trivial (fun ht=>?_) (fun hf=>?_)
 ·skip
  try simp at ht
  simp only [zX]
  have hi' : i < l.length:=by omega
  refine aw_reg 208 (RG.go fun Q hQ=>?_)
  simp (disch:=first | (intros;contradiction) | omega | (simp only [zN];omega)) only [zS,zW,irow,itC,simprocAttr]
  repeat refine ⟨by (first | omega | (simp;omega)),?_⟩
  refine hQ (RG.nil ?_)
  simp only [zX]
  refine aw_cond _ rfl trivial (fun ht=>?_) (fun hf=>?_)
  ·skip
   try simp at ht
   simp only [zX]
   refine aR 496 ?_
   refine Fin.b (.inr rfl) rfl trivial ?_
   unfold chgH;rw [List.any_eq_true.2 ⟨l[i],List.getElem_mem hi',by simp only [Bool.and_eq_true,decide_eq_true_eq];omega⟩]
  try simp at hf
  simp only [zX]
  refine aS 544 (fun Q hQ=>by simp (disch:=first | (intros;contradiction) | omega | (simp only [zN];omega)) only [zS,zW,simprocAttr];exact hQ) ?_
  refine ⟨⟨i + 1,hi',by rw [take_one _ _ hi'];unfold chgH at hno ⊢;rw [List.any_append,hno,Bool.false_or];simp;omega⟩,?_,by first | omega | (simp only;omega)⟩
  refine Le.lit [] [] _ _ ?_ ?_ ?_ ?_
  ·simp only [zL,simprocAttr]
   all_goals (try ((repeat' (rfl))))
  ·simp only [zL,simprocAttr]
  ·simp [rlook]
  ·(simp;done)
 try simp at hf
 simp only [zX,↓reduceIte]
 obtain rfl : i = l.length:=by omega
 rw [List.take_length] at hno
 refine aR 624 ?_
 refine Fin.b (.inr rfl) rfl trivial ?_
 rw [hno]

theorem mementoref23_taken_con (v : VOL) (l : List CH) (f t : Int) (full : Bool) (hg : Vgood v 50000) (hl : l.length≤1000000) (hc : ∀ c ∈ l,Gch v c) :
  Con Tryz.prog 40 [.agg (volC v),.c (.sl (l.map chC)),I f,I t,B full] [] (.tup [.agg (strC (strS v l f t full).1),I (strS v l f t full).2]) []:=by
 obtain ⟨hs,hf0,hf1,hpins,hws⟩:=right_facts hg.right
 have hpl:=(shape_lims hs).2.2.2.2.2.2
 refine C_mementoref23_taken nl nl ?_
 simp only [cz,A_mementoref23_taken,argL,objL,List.length_nil,Nat.zero_add,zX,simprocAttr]
 refine aS 16 (fun Q hQ=>by simp (disch:=intros;contradiction) only [zS,vC_eq,simprocAttr];exact hQ) ?_
 refine aR 96 ?_
 refine aw_cond _ rfl trivial (fun ht=>?_) (fun hf=>?_)
 ·skip
  try simp at ht
  simp only [zX]
  have h1 : mayE v f t = 28:=by unfold mayE;rw [if_pos (by simpa using ht)]
  rw [strS_no (by omega),h1]
  refine aR 176 ?_
  refine Fin.data [] (.inr rfl) rfl (by (exact ⟨trivial,trivial⟩)) ?_
  simp only [zL,simprocAttr]
  all_goals ((repeat' (first | exact trivial | rfl | refine ⟨?_,?_⟩)))
 try simp at hf
 simp only [zX]
 have h1 : ¬ v.hid = true:=by simpa using hf
 refine aR 256 ?_
 refine aw_cond _ rfl trivial (fun ht=>?_) (fun hf=>?_)
 ·skip
  try simp at ht
  simp only [zX]
  have h1 : mayE v f t = 23:=by unfold mayE;rw [if_neg h1,if_pos (by omega)]
  rw [strS_no (by omega),h1]
  refine aR 352 ?_
  refine Fin.data [] (.inr rfl) rfl (by (exact ⟨trivial,trivial⟩)) ?_
  simp only [zL,simprocAttr]
  all_goals ((repeat' (first | exact trivial | rfl | refine ⟨?_,?_⟩)))
 try simp at hf
 simp only [zX]
 have h2 : ¬ t < f:=by omega
 refine aR 432 ?_
 refine aw_cond _ rfl trivial (fun ht=>?_) (fun hf=>?_)
 ·skip
  try simp at ht
  simp only [zX]
  have h1 : mayE v f t = 30:=by unfold mayE;rw [if_neg h1,if_neg h2,if_pos (by omega)]
  rw [strS_no (by omega),h1]
  refine aR 544 ?_
  refine Fin.data [] (.inr rfl) rfl (by (exact ⟨trivial,trivial⟩)) ?_
  simp only [zL,simprocAttr]
  all_goals ((repeat' (first | exact trivial | rfl | refine ⟨?_,?_⟩)))
 try simp at hf
 simp only [zX]
 have h3 : ¬ f < v.floor:=by omega
 refine aB 624 ?_
 refine rC [] (mementoref16_Len_con v) ?_
 refine aE ?_
 refine aw_cond _ rfl trivial (fun ht=>?_) (fun hf=>?_)
 ·skip
  try simp at ht
  simp only [zX]
  have h1 : mayE v f t = 31:=by unfold mayE;rw [if_neg h1,if_neg h2,if_neg h3,if_pos (by omega)]
  rw [strS_no (by omega),h1]
  refine aR 736 ?_
  refine Fin.data [] (.inr rfl) rfl (by (exact ⟨trivial,trivial⟩)) ?_
  simp only [zL,simprocAttr]
  all_goals ((repeat' (first | exact trivial | rfl | refine ⟨?_,?_⟩)))
 try simp at hf
 simp only [zX]
 have hm : mayE v f t = 0:=by unfold mayE;rw [if_neg h1,if_neg h2,if_neg h3,if_neg (by omega)]
 refine aw_reg 816 (RG.go fun Q hQ=>?_)
 simp (disch:=intros;contradiction) only [zS,simprocAttr]
 refine hQ (RG.nil ?_)
 simp only [zY]
 refine aw_joinS (Y:=Unit) [1,2,3,4,5,10,12] (fun y=>[]) [16,32] (fun y=>[(928,.box [.v (.int .i64 v.blocks),.v (.int .i64 v.size),.v (.int .i64 (if full = true then -1 else f)),.v (.int .i64 t),.v (.slice none 0 0)])]) (by (repeat' (exact cl_fin))) ?_ ?_
 ·skip
  simp only [zX]
  refine aR 992 ?_
  refine aw_cond _ rfl trivial (fun ht=>?_) (fun hf=>?_)
  ·skip
   try simp at ht
   have e1 : (if full = true then (-1 : Int) else f) = -1:=by rw [if_pos (by simpa using ht)]
   refine aR 1040 ?_
   refine ⟨(),?_⟩
   simp only [keepS,keepE,Option.getD_some,lk_cons,lkE_cons,List.cons_append,List.nil_append,simprocAttr]
   refine Le.lit [] [] _ _ ?_ ?_ ?_ ?_
   ·simp only [zL,simprocAttr]
   ·simp only [zL,simprocAttr]
    all_goals (rw [e1];skip)
   ·simp [rlook]
   ·(simp;done)
  try simp at hf
  simp only [zX]
  have e1 : (if full = true then (-1 : Int) else f) = f:=by rw [if_neg (by simpa using hf)]
  refine ⟨(),?_⟩
  simp only [keepS,keepE,Option.getD_some,lk_cons,lkE_cons,List.cons_append,List.nil_append,simprocAttr]
  refine Le.lit [] [] _ _ ?_ ?_ ?_ ?_
  ·simp only [zL,simprocAttr]
  ·simp only [zL,simprocAttr]
   all_goals (rw [e1];skip)
  ·simp [rlook]
  ·(simp;done)
 rintro ⟨⟩
 simp only [keepS,keepE,Option.getD_some,lk_cons,lkE_cons,List.cons_append,List.nil_append,simprocAttr]
 simp only [zX]
 generalize hfr : (if full = true then (-1 : Int) else f) = fr
 refine aR 1104 ?_
 refine aw_loopK (X:={ x : Nat × List CH × List IT // x.1≤v.place.length∧picksN v l f t x.1 = some x.2.1∧x.2.1.length = x.1∧x.2.2 = itsX v f t full x.2.1 x.1 }) [1,2,3,4,5,10,12] (fun x=>[(13,I x.1.1)]) [16,32] (fun x=>[(928,.box [.v (.int .i64 v.blocks),.v (.int .i64 v.size),.v (.int .i64 fr),.v (.int .i64 t),.osl 5000]),(5000,.arr 96 2 (x.1.2.2.map irow) false)]) (fun x=>v.place.length - x.1.1) (⟨(0,[],[]),by simp only;omega,rfl,rfl,rfl⟩) ?_ ?_
 ·skip
  simp only [keepS,keepE,Option.getD_some,lk_cons,lkE_cons,List.cons_append,List.nil_append,simprocAttr]
  refine (Le.ownB 928 4 5000 _ 96 2 rfl rfl rfl (by decide)).trans ?_
  simp only [List.set_cons_succ,List.set_cons_zero,setE_cons,setE_nil,simprocAttr]
  refine Le.lit [] [] _ _ ?_ ?_ ?_ ?_
  ·simp only [zL,simprocAttr]
  ·simp only [zL,simprocAttr]
   all_goals (try ((repeat' (((simp [C.isD];done))))))
  ·simp [rlook]
  ·(simp;done)
 rintro ⟨⟨n,cs,acc⟩,h1,h2,h3,hacc⟩
 simp only [keepS,keepE,Option.getD_some,lk_cons,lkE_cons,List.cons_append,List.nil_append,simprocAttr]
 simp only [zX]
 simp only at h1 h2 h3 hacc
 refine aS 1152 (fun Q hQ=>by simp (disch:=intros;contradiction) only [zS,zW,simprocAttr];exact hQ) ?_
 refine aw_cond _ rfl trivial (fun ht=>?_) (fun hf=>?_)
 ·skip
  try simp at ht
  simp only [zX]
  have hn : n < v.place.length:=by omega
  have cP:=mementoref23_Pick_con v l n f t hg hl
  have hnext : picksN v l f t (n + 1) = match pickO v l n f t with | none=>none | some c=>some (cs ++ [c]):=by
   show (match picksN v l f t n with | none=>none | some a=>match pickO v l n f t with | none=>none | some c=>some (a ++ [c])) = _
   rw [h2]
  by_cases hpo : pickO v l n f t = none
  ·skip
   rw [hpo] at cP hnext
   simp only [pickR] at cP hnext
   have hend : picksN v l f t v.place.length = none:=picksN_none hnext (by omega)
   rw [strS_none hm hend]
   refine aB 1264 ?_
   refine rC [] (cP) ?_ (hs:=(by exact .inr ⟨chT_pure _ _,trivial⟩))
   refine aEs (fun Q hQ=>by simp (disch:=intros;contradiction) only [zS,chC,chO,simprocAttr];exact hQ) ?_
   refine aR 1488 ?_
   refine aT ?_
   refine aR 1552 ?_
   refine Fin.data [] (.inr rfl) rfl (by (exact ⟨trivial,trivial⟩)) ?_
   simp only [zL,simprocAttr]
   all_goals ((repeat' (first | exact trivial | rfl | refine ⟨?_,?_⟩)))
  obtain ⟨c,hpc⟩ : ∃ c,pickO v l n f t = some c:=Option.ne_none_iff_exists'.1 hpo
  rw [hpc] at cP hnext
  simp only [pickR] at cP hnext
  have hG:=hc c (pickO_mem hpc).1
  obtain ⟨g1,g2,g3,g4,g5⟩:=hG.facts hg
  have hcs : ∀ c ∈ cs,c.hist.length≤256:=fun c hc'=>by
   obtain ⟨i,hi,rfl⟩:=List.mem_iff_getElem.1 hc'
   exact ((hc _ (picksN_mem h2 i hi).1).facts hg).2.2.2.1
  have hIl:=itsX_len (v:=v) (f:=f) (t:=t) (full:=full) hcs n
  have hnx : itsX v f t full (cs ++ [c]) (n + 1) = acc ++ itmL v n c t (blkL c f t full c.hist.length):=by
   have h4 : n < (cs ++ [c]).length:=by simp;omega
   have h5 : (cs ++ [c])[n] = c:=by rw [List.getElem_append_right (by omega)];simp [h3]
   rw [itsX_succ h4 h5,itsX_app (by omega),hacc]
  rw [← hacc] at hIl
  obtain ⟨hm0,hm1⟩:=per_mul hg (show n≤512 by omega)
  refine aB 1632 ?_
  refine rC [] (cP) ?_ (hs:=(by exact .inr ⟨chT_pure _ _,trivial⟩))
  refine aEs (fun Q hQ=>by simp (disch:=intros;contradiction) only [zS,chC,chO,simprocAttr];exact hQ) ?_
  refine aR 1856 ?_
  refine aF ?_
  refine aR 1920 ?_
  refine aw_loopK (X:={ y : Nat × List IT // y.1≤c.hist.length∧y.2 = acc ++ itmL v n c t (blkL c f t full y.1) }) [1,2,3,4,5,10,12,13,14] (fun y=>[(16,I y.1.1)]) [16,32,1776] (fun y=>[(928,.box [.v (.int .i64 v.blocks),.v (.int .i64 v.size),.v (.int .i64 fr),.v (.int .i64 t),.osl 5000]),(5000,.arr 96 2 (y.1.2.map irow) false)]) (fun y=>c.hist.length - y.1.1) (⟨(0,acc),by simp only;omega,by simp [itmL,blkL]⟩) ?_ ?_
  ·skip
   simp only [keepS,keepE,Option.getD_some,lk_cons,lkE_cons,List.cons_append,List.nil_append,simprocAttr]
   refine Le.lit [] [] _ _ ?_ ?_ ?_ ?_
   ·simp only [zL,simprocAttr]
   ·simp only [zL,simprocAttr]
    all_goals (try ((repeat' ((exact drows_irow _)))))
   ·simp [rlook]
   ·(simp;done)
  rintro ⟨⟨b,ac2⟩,hb,hac2⟩
  simp only [keepS,keepE,Option.getD_some,lk_cons,lkE_cons,List.cons_append,List.nil_append,simprocAttr]
  simp only [zX]
  simp only at hb hac2
  refine aS 1968 (fun Q hQ=>by simp (disch:=intros;contradiction) only [zS,zW,simprocAttr];exact hQ) ?_
  refine aw_cond _ rfl trivial (fun ht=>?_) (fun hf=>?_)
  ·skip
   try simp at ht
   simp only [zX]
   have hb' : b < c.hist.length:=by omega
   have hgd : c.hist.getD b [] = c.hist[b]:=by simp [hb']
   have hb3:=(g1.2 _ (List.getElem_mem hb')).1
   have hsc:=blkL_succ c f t full b
   rw [hgd] at hsc
   have hbl:=blkL_len c f t full b
   have hal : ac2.length≤1000000:=by rw [hac2,List.length_append,itmL_len];omega
   obtain ⟨h,hh⟩ : ∃ h,c.hist[b] = h:=⟨_,rfl⟩
   rw [hh] at hb3 hsc
   have cH:=mementoref13_Changed_con h f t hb3
   have cR:=mementoref13_Read_con c b t g1 g3 g2 g5
   have hnx2 : ac2 ++ [⟨(n : Int) * v.per + (b : Int),(rdC c (b : Int) t).1⟩] = acc ++ itmL v n c t (blkL c f t full b ++ [b]):=by rw [itmL_snoc,← List.append_assoc,← hac2]
   have hw1 : IntKind.i64.wrap ((n : Int) * v.per) = (n : Int) * v.per:=w64 _ (by omega) (by omega)
   have hw2 : IntKind.i64.wrap ((n : Int) * v.per + (b : Int)) = (n : Int) * v.per + (b : Int):=w64 _ (by omega) (by omega)
   generalize rdC c b t = q at cR hnx2
   obtain ⟨q1,q2⟩:=q
   simp only at cR hnx2
   have e2 : List.map irow ac2 ++ [[.v (.int .i64 ((n : Int) * v.per + (b : Int))),.sl (q1.map brow)]] = (ac2 ++ [(⟨(n : Int) * v.per + (b : Int),q1⟩ : IT)]).map irow:=by rw [List.map_append];rfl
   refine aBs 2080 (fun Q hQ=>by simp (disch:=first | (intros;contradiction) | omega | (simp only [zN];omega)) only [zS,zW,hrow,hh,simprocAttr];repeat refine ⟨by ((intro h;refine ⟨?_,h⟩;simp [] at h;omega)),?_⟩;exact hQ) ?_
   refine rG _ _ (cH) ?_
   refine aEs (fun Q hQ=>by simp (disch:=intros;contradiction) only [zS,simprocAttr];repeat refine ⟨by ((simp;done)),?_⟩;exact hQ) ?_
   refine aw_cond _ rfl trivial (fun ht=>?_) (fun hf=>?_)
   ·skip
    try simp at ht
    simp only [zX]
    rw [if_pos (by simpa using ht)] at hsc
    refine aB 2288 ?_
    refine rC [] (cR) ?_ (hs:=(by exact .inr ⟨pureTC,trivial⟩))
    refine aE ?_
    refine aS 2464 (fun Q hQ=>by simp (disch:=intros;contradiction) only [zS,zW,hw1,hw2,e2,simprocAttr];repeat refine ⟨by ((simp;omega)),?_⟩;exact hQ) ?_
    refine aS 2720 (fun Q hQ=>by simp (disch:=first | (intros;contradiction) | omega | (simp only [zN];omega)) only [zS,zW,simprocAttr];exact hQ) ?_
    refine ⟨⟨(b + 1,ac2 ++ [⟨(n : Int) * v.per + (b : Int),q1⟩]),by simp only;omega,by simp only;rw [hsc];exact hnx2⟩,?_,by first | omega | (simp only;omega)⟩
    refine Le.lit [] [(5000,2640)] _ _ ?_ ?_ ?_ ?_
    ·simp only [zL,simprocAttr]
     all_goals (try ((repeat' (rfl))))
    ·simp only [zL,simprocAttr]
     all_goals (try ((repeat' ((exact drows_irow _)))))
    ·simp [rlook]
    ·(simp;done)
   try simp at hf
   simp only [zX]
   rw [if_neg (by simpa using hf)] at hsc
   refine aS 2800 (fun Q hQ=>by simp (disch:=first | (intros;contradiction) | omega | (simp only [zN];omega)) only [zS,zW,simprocAttr];exact hQ) ?_
   refine ⟨⟨(b + 1,ac2),by simp only;omega,by simp only;rw [hsc];exact hac2⟩,?_,by first | omega | (simp only;omega)⟩
   refine Le.lit [] [] _ _ ?_ ?_ ?_ ?_
   ·simp only [zL,simprocAttr]
    all_goals (try ((repeat' (rfl))))
   ·simp only [zL,simprocAttr]
    all_goals (try ((repeat' ((exact drows_irow _)))))
   ·simp [rlook]
   ·(simp;done)
  try simp at hf
  simp only [zX,↓reduceIte]
  obtain rfl : b = c.hist.length:=by omega
  refine aS 2880 (fun Q hQ=>by simp (disch:=first | (intros;contradiction) | omega | (simp only [zN];omega)) only [zS,zW,simprocAttr];exact hQ) ?_
  refine ⟨⟨(n + 1,cs ++ [c],ac2),by simp only;omega,hnext,by simp;omega,by simp only;rw [hnx];exact hac2⟩,?_,by first | omega | (simp only;omega)⟩
  refine Le.lit [] [] _ _ ?_ ?_ ?_ ?_
  ·simp only [zL,simprocAttr]
   all_goals (try ((repeat' (rfl))))
  ·simp only [zL,simprocAttr]
   all_goals (try ((repeat' ((exact drows_irow _)))))
  ·simp [rlook]
  ·(simp;done)
 try simp at hf
 simp only [zX,↓reduceIte]
 obtain rfl : n = v.place.length:=by omega
 rw [strS_some hm h2,hfr,← hacc]
 refine aR 2960 ?_
 refine Fin.data [5000] (.inr rfl) rfl (by (exact ⟨trivial,trivial⟩)) ?_
 simp only [zL,simprocAttr]
 all_goals ((repeat' (first | exact trivial | rfl | (refine ⟨⟨_,_,rfl⟩,?_⟩;(exact drows_irow _)) | refine ⟨?_,?_⟩)))

theorem mementoref23_Full_con (v : VOL) (l : List CH) (t : Int) (hg : Vgood v 50000) (hl : l.length≤1000000) (hc : ∀ c ∈ l,Gch v c) :
  Con Tryz.prog 18 [.agg (volC v),.c (.sl (l.map chC)),I t] [] (.tup [.agg (strC (strS v l t t true).1),I (strS v l t t true).2]) []:=by
 have cT:=mementoref23_taken_con v l t t true hg hl hc
 generalize strS v l t t true = q at cT ⊢
 obtain ⟨q1,q2⟩:=q
 simp only at cT ⊢
 refine C_mementoref23_Full nl nl ?_
 simp only [cz,A_mementoref23_Full,argL,objL,List.length_nil,Nat.zero_add,zX,simprocAttr]
 refine aS 16 (fun Q hQ=>by simp (disch:=intros;contradiction) only [zS,vC_eq,simprocAttr];exact hQ) ?_
 refine aB 96 ?_
 refine rC [] (cT) ?_ (hs:=(by exact .inr ⟨strT_pure _ _,trivial⟩))
 refine aEs (fun Q hQ=>by simp (disch:=intros;contradiction) only [zS,strC,simprocAttr];exact hQ) ?_
 refine Fin.data [] (.inr rfl) rfl (by (exact ⟨trivial,trivial⟩)) ?_
 simp only [zL,simprocAttr]
 all_goals ((repeat' (first | exact trivial | rfl | refine ⟨?_,?_⟩)))

theorem mementoref23_Since_con (v : VOL) (l : List CH) (f t : Int) (hg : Vgood v 50000) (hl : l.length≤1000000) (hc : ∀ c ∈ l,Gch v c) :
  Con Tryz.prog 21 [.agg (volC v),.c (.sl (l.map chC)),I f,I t] [] (.tup [.agg (strC (strS v l f t false).1),I (strS v l f t false).2]) []:=by
 have cT:=mementoref23_taken_con v l f t false hg hl hc
 generalize strS v l f t false = q at cT ⊢
 obtain ⟨q1,q2⟩:=q
 simp only at cT ⊢
 refine C_mementoref23_Since nl nl ?_
 simp only [cz,A_mementoref23_Since,argL,objL,List.length_nil,Nat.zero_add,zX,simprocAttr]
 refine aS 16 (fun Q hQ=>by simp (disch:=intros;contradiction) only [zS,vC_eq,simprocAttr];exact hQ) ?_
 refine aB 96 ?_
 refine rC [] (cT) ?_ (hs:=(by exact .inr ⟨strT_pure _ _,trivial⟩))
 refine aEs (fun Q hQ=>by simp (disch:=intros;contradiction) only [zS,strC,simprocAttr];exact hQ) ?_
 refine Fin.data [] (.inr rfl) rfl (by (exact ⟨trivial,trivial⟩)) ?_
 simp only [zL,simprocAttr]
 all_goals ((repeat' (first | exact trivial | rfl | refine ⟨?_,?_⟩)))

end Go.Abs

namespace Go.Abs
open Go Go.Proofs
set_option maxRecDepth 100000
set_option linter.unusedSimpArgs false
set_option maxHeartbeats 8000000

def bI (v : VOL) (t : Int) (i : Nat) : IT:=⟨(i : Int),(bodV v t).getD i []⟩
def stN (v : VOL) (n : Nat) : Nat:=(min ((n : Int) * v.per) v.blocks).toNat
theorem stN_zero (v : VOL) (hg : Vgood v 50000) : stN v 0 = 0:=by
 obtain ⟨hs,_⟩:=right_facts hg.right
 obtain ⟨s1,s2,s3,s4,s5,s6,s7⟩:=shape_lims hs
 unfold stN;simp;omega
theorem stN_succ {v : VOL} (hg : Vgood v 50000) {n : Nat} (hn : n < v.place.length) : stN v (n + 1) = stN v n + (countV v n).toNat∧((n : Int) * v.per).toNat = stN v n:=by
 obtain ⟨hs,_⟩:=right_facts hg.right
 obtain ⟨s1,s2,s3,s4,s5,s6,s7⟩:=shape_lims hs
 obtain ⟨f0,c0,a1,a2,a3,a4,a5,a6,a7,a8,a9⟩:=kfacts hg.right (show (0 : Int)≤n by omega) (show (n : Int) < v.place.length by omega)
 have e : ((n + 1 : Nat) : Int) * v.per = (n : Int) * v.per + v.per:=by
  rw [show ((n + 1 : Nat) : Int) = (n : Int) + 1 by omega,Int.add_mul,Int.one_mul]
 unfold stN
 rw [e,a3]
 omega
theorem stN_end {v : VOL} (hg : Vgood v 50000) : stN v v.place.length = v.blocks.toNat:=by
 obtain ⟨hs,_⟩:=right_facts hg.right
 obtain ⟨s1,s2,s3,s4,s5,s6,s7⟩:=shape_lims hs
 unfold chunksN at s5
 rw [Int.tdiv_eq_ediv_of_nonneg (by omega)] at s5
 have h1:=Int.emod_add_mul_ediv (v.blocks + v.per - 1) v.per
 have h2:=Int.emod_lt_of_pos (v.blocks + v.per - 1) (show 0 < v.per by omega)
 rw [← s5,Int.mul_comm] at h1
 unfold stN
 omega

theorem chG_len {v : VOL} (hg : Vgood v 50000) {n m : Nat} (hn : n < v.place.length) : (chG v n m).hist.length = (countV v n).toNat :=
 chF_len hg.right (show (0 : Int)≤n by omega) (show (n : Int) < v.place.length by omega) (m:=m) (f:=min v.floor m)
theorem item_eq {v : VOL} (hg : Vgood v 50000) {n m : Nat} (hn : n < v.place.length) (hm : m≤v.ws.length) {t : Int} (h1 : (chG v n m).floor≤t) (h2 : t≤(chG v n m).mark) {b : Nat} (hb : b < (chG v n m).hist.length) :
  (⟨(n : Int) * v.per + (b : Int),(rdC (chG v n m) b t).1⟩ : IT) = bI v t (stN v n + b):=by
 obtain ⟨f0,c0,a1,a2,a3,a4,a5,a6,a7,a8,a9⟩:=kfacts hg.right (show (0 : Int)≤n by omega) (show (n : Int) < v.place.length by omega)
 have hL:=chG_len hg hn (m:=m)
 have hwl:=hg.ws
 obtain ⟨h3,h4⟩:=chF_read hg.right hg.by8 (by omega) (show (0 : Int)≤n by omega) (show (n : Int) < v.place.length by omega) hm (f:=min v.floor m) (t:=t) h1 h2 (b:=b) (by omega)
 have e:=(stN_succ hg hn).2
 have h4' : rdC (chG v n m) b t = ((bodV v t)[((n : Int) * v.per).toNat + b],0):=h4
 rw [h4']
 unfold bI
 simp only [e] at h3 ⊢
 have e2 : (bodV v t).getD (stN v n + b) [] = (bodV v t)[stN v n + b]:=by rw [List.getD_eq_getElem?_getD,List.getElem?_eq_getElem h3];rfl
 rw [e2]
 congr 1
 omega

def GoodCs (v : VOL) (f t : Int) (cs : List CH) : Prop:=cs.length≤v.place.length∧∀ (i : Nat) (hi : i < cs.length),∃ m : Nat,m≤v.ws.length∧cs[i] = chG v i m∧(chG v i m).floor≤f∧t≤(chG v i m).mark
theorem picks_good {v : VOL} {l : List CH} {f t : Int} {n : Nat} {cs : List CH} (hc : ∀ c ∈ l,Gch v c) (h : picksN v l f t n = some cs) (hn : n≤v.place.length) : GoodCs v f t cs:=by
 refine ⟨by rw [picksN_len h];exact hn,fun i hi=>?_⟩
 obtain ⟨h1,h2⟩:=picksN_mem h i hi
 obtain ⟨k,m,h3,h4,h5⟩:=hc _ h1
 simp only [eqC,Bool.and_eq_true,decide_eq_true_eq] at h2
 have hk : (chG v k m).chunk = (k : Int):=rfl
 rw [h5] at h2
 have : k = i:=by omega
 subst this
 exact ⟨m,h4,h5,h2.1.2,h2.2⟩

theorem itsX_full {v : VOL} (hg : Vgood v 50000) {t : Int} {cs : List CH} (hc : GoodCs v t t cs) : ∀ (n : Nat),n≤cs.length→itsX v t t true cs n = (List.range (stN v n)).map (bI v t)
 | 0,_=>by rw [stN_zero v hg];rfl
 | n + 1,hn=>by
  have hpl : n < v.place.length:=by have:=hc.1;omega
  obtain ⟨m,h1,h2,h3,h4⟩:=hc.2 n hn
  rw [itsX_succ hn h2,itsX_full hg hc n (by omega),blkL_full,chG_len hg hpl,(stN_succ hg hpl).1,List.range_add,List.map_append,List.map_map]
  congr 1
  unfold itmL
  refine List.map_congr_left fun b hb=>?_
  exact item_eq hg hpl h1 h3 h4 (by rw [chG_len hg hpl];simpa using hb)
theorem itsX_since {v : VOL} (hg : Vgood v 50000) {f t : Int} (hft : f≤t) {cs : List CH} (hc : GoodCs v f t cs) : ∀ (n : Nat),n≤cs.length →
  ∃ P : Nat→Bool,(∀ i,i < stN v n→P i = false→bI v f i = bI v t i)∧itsX v f t false cs n = ((List.range (stN v n)).filter P).map (bI v t)
 | 0,_=>⟨fun _=>true,fun i hi=>by rw [stN_zero v hg] at hi;omega,by rw [stN_zero v hg];rfl⟩
 | n + 1,hn=>by
  have hpl : n < v.place.length:=by have:=hc.1;omega
  obtain ⟨m,h1,h2,h3,h4⟩:=hc.2 n hn
  obtain ⟨P,p1,p2⟩:=itsX_since hg hft hc n (by omega)
  have hG : Gch v (chG v n m):=⟨n,m,hpl,h1,rfl⟩
  obtain ⟨g1,g2,g3,g4,g5⟩:=hG.facts hg
  have hL:=chG_len hg hpl (m:=m)
  have hst:=(stN_succ hg hpl).1
  refine ⟨fun i=>if i < stN v n then P i else chgH f t ((chG v n m).hist.getD (i - stN v n) []),fun i hi hp=>?_,?_⟩
  ·by_cases h : i < stN v n
   ·simp only [if_pos h] at hp
    exact p1 i h hp
   ·simp only [if_neg h] at hp
    obtain ⟨b,rfl⟩ : ∃ b,i = stN v n + b:=⟨i - stN v n,by omega⟩
    have hb : b < (chG v n m).hist.length:=by omega
    rw [show stN v n + b - stN v n = b by omega] at hp
    have hd : (chG v n m).hist.getD b [] = (chG v n m).hist[b]:=by simp [hb]
    rw [hd] at hp
    have hri:=g2 _ (List.getElem_mem hb)
    rw [chgH_iff hri,decide_eq_false_iff_not] at hp
    have hmo:=behN_mono hft hri
    rw [← item_eq hg hpl h1 h3 (by omega) hb,← item_eq hg hpl h1 (by omega) h4 hb,rdC_in hb g3 h3 (by omega),rdC_in hb g3 (by omega) h4,atF_same (show behN f _ = behN t _ by omega)]
  ·rw [itsX_succ hn h2,p2,hL,hst,List.range_add,List.filter_append,List.map_append]
   congr 1
   ·congr 1
    refine List.filter_congr fun i hi=>?_
    rw [List.mem_range] at hi
    simp only [if_pos hi]
   ·rw [List.filter_map,List.map_map]
    unfold itmL blkL
    have e : (List.range (countV v n).toNat).filter ((fun i=>if i < stN v n then P i else chgH f t ((chG v n m).hist.getD (i - stN v n) [])) ∘ fun x=>stN v n + x) = (List.range (countV v n).toNat).filter fun b=>false || chgH f t ((chG v n m).hist.getD b []):=by
     refine List.filter_congr fun i _=>?_
     simp only [Function.comp,Bool.false_or]
     rw [if_neg (by omega),show stN v n + i - stN v n = i by omega]
    rw [e]
    refine List.map_congr_left fun b hb=>?_
    have hb':=(List.mem_filter.1 hb).1
    rw [List.mem_range] at hb'
    exact item_eq hg hpl h1 (by omega) h4 (by omega)

theorem bod_size {v : VOL} (hg : Vgood v 50000) {t : Int} (ht : t≤v.ws.length) : ∀ x ∈ bodV v t,(x.length : Int) = v.size:=by
 intro x hx
 have hwl:=hg.ws
 obtain ⟨hs,_⟩:=right_facts hg.right
 obtain ⟨s1,s2,s3,s4,s5,s6,s7⟩:=shape_lims hs
 rw [← Hm_bod hg.right (m:=v.ws.length) ht] at hx
 obtain ⟨h,hh,rfl⟩:=List.mem_map.1 hx
 have hH:=Hm_HF hg.right hg.by8 (by omega) v.ws.length (Nat.le_refl _)
 unfold atF
 split
 ·rename_i h0
  cases hq : (h.take (behN t h)).getLast? with
  | none =>
   have h1:=behN_le t h
   rw [List.getLast?_eq_none_iff] at hq
   have:=congrArg List.length hq
   rw [List.length_take,List.length_nil] at this
   omega
  | some y=>exact (hH.d h hh y (List.mem_of_mem_take (List.mem_of_getLast? hq))).1
 ·simp;omega

def risR (blocks size : Int) : Int→List IT→Bool
 | _,[]=>true
 | last,x :: l=>decide (last < x.b) && decide (x.b < blocks) && decide ((x.d.length : Int) = size) && risR blocks size x.b l
def strP (s : STR) : Bool:=decide (1≤s.blocks) && decide (s.blocks≤256) && decide (1≤s.size) && decide (s.size≤32) && decide (-1≤s.frm) && decide (0≤s.to) && decide (s.to≤1099511627776) && decide (s.frm≤s.to) && (decide (0≤s.frm) || decide ((s.items.length : Int) = s.blocks))
def strR (s : STR) : Bool:=strP s && risR s.blocks s.size (-1) s.items
theorem risR_map {v : VOL} (hg : Vgood v 50000) {t : Int} (ht : t≤v.ws.length) : ∀ (L : List Nat) (last : Int),L.Pairwise (· < ·)→(∀ i ∈ L,last < i∧i < v.blocks.toNat)→risR v.blocks v.size last (L.map (bI v t)) = true
 | [],_,_,_=>rfl
 | i :: L,last,hp,h=>by
  obtain ⟨h1,h2⟩:=h i (by simp)
  rw [List.pairwise_cons] at hp
  have ih:=risR_map hg ht L i hp.2 fun j hj=>⟨by have:=hp.1 j hj;omega,(h j (by simp [hj])).2⟩
  have hbl:=bodV_len v t
  have e : (bodV v t).getD i [] = (bodV v t)[i]'(by omega):=by rw [List.getD_eq_getElem?_getD,List.getElem?_eq_getElem (by omega)];rfl
  have hsz:=bod_size hg ht _ (List.getElem_mem (show i < (bodV v t).length by omega))
  simp only [List.map_cons,risR,bI,Bool.and_eq_true,decide_eq_true_eq]
  rw [e]
  exact ⟨⟨⟨h1,by omega⟩,hsz⟩,ih⟩

def mergeI : List IT→List IT→List IT
 | [],b=>b
 | x :: a,[]=>x :: a
 | x :: a,y :: b=>if x.b < y.b then x :: mergeI a (y :: b) else if x.b = y.b then y :: mergeI a b else y :: mergeI (x :: a) b
termination_by a b=>a.length + b.length
theorem mergeI_nil (a : List IT) : mergeI a [] = a:=by cases a <;> simp [mergeI]
theorem merge_map {g h : Nat→IT} (hgb : ∀ i,(g i).b = (i : Int)) (hhb : ∀ i,(h i).b = (i : Int)) {P : Nat→Bool} : ∀ (L : List Nat),L.Pairwise (· < ·)→(∀ i ∈ L,P i = false→g i = h i)→mergeI (L.map g) ((L.filter P).map h) = L.map h
 | [],_,_=>by simp [mergeI]
 | i :: L,hp,hq=>by
  rw [List.pairwise_cons] at hp
  have ih:=merge_map hgb hhb L hp.2 fun j hj=>hq j (by simp [hj])
  by_cases h0 : P i = true
  ·rw [List.filter_cons_of_pos h0,List.map_cons,List.map_cons,List.map_cons,mergeI,if_neg (by rw [hgb,hhb];omega),if_pos (by rw [hgb,hhb]),ih]
  ·rw [List.filter_cons_of_neg h0,List.map_cons,List.map_cons]
   have e:=hq i (by simp) (by simpa using h0)
   cases hf : L.filter P with
   | nil =>
    rw [hf,List.map_nil,mergeI_nil] at ih
    rw [List.map_nil,mergeI_nil,ih,e]
   | cons j M =>
    have hj : j ∈ L:=by
     have : j ∈ L.filter P:=by rw [hf];simp
     exact (List.mem_filter.1 this).1
    have hij:=hp.1 j hj
    rw [hf] at ih
    rw [List.map_cons] at ih ⊢
    rw [mergeI,if_pos (by rw [hgb,hhb];omega),ih,e]

end Go.Abs

namespace Go.Abs
open Go Go.Proofs
set_option maxRecDepth 100000
set_option linter.unusedSimpArgs false
set_option maxHeartbeats 8000000

theorem Right21_con (s : STR) (hl : s.items.length≤1000000) : Con Tryz.prog 26 [.agg (strC s)] [] (B (strR s)) []:=by
 refine C_mementoref21_Right nl nl ?_
 simp only [cz,A_mementoref21_Right,argL,objL,List.length_nil,zX]
 refine aS 16 (fun Q hQ=>by simp (disch:=intros;contradiction) only [zS,strC,simprocAttr];exact hQ) ?_
 refine aw_reg 80 (RG.go fun Q hQ=>?_)
 simp (disch:=intros;contradiction) only [zS,zW,simprocAttr]
 repeat refine ⟨by (first | (simp;omega) | (simp;done)),?_⟩
 refine hQ (RG.nil ?_)
 simp only [zX]
 refine aw_cond _ rfl trivial (fun ht=>?_) (fun hf=>?_)
 ·skip
  try simp at ht
  simp only [zX]
  refine aR 960 ?_
  refine Fin.b (.inr rfl) rfl trivial ?_
  rw [eq_comm,Bool.eq_false_iff];intro h;simp only [strR,strP,Bool.and_eq_true,Bool.or_eq_true,decide_eq_true_eq] at h;omega
 try simp at hf
 simp only [zX]
 have hp : strP s = true:=by
  simp only [strP,Bool.and_eq_true,Bool.or_eq_true,decide_eq_true_eq];omega
 have hR : strR s = risR s.blocks s.size (-1) s.items:=by unfold strR;rw [hp,Bool.true_and]
 rw [hR]
 refine aR 1008 ?_
 refine aR 1056 ?_
 refine aw_loopK (X:={ x : Nat × Int // x.1≤s.items.length∧risR s.blocks s.size (-1) s.items = risR s.blocks s.size x.2 (s.items.drop x.1) }) [1] (fun x=>[(3,I x.1.2),(4,I x.1.1)]) [16] (fun x=>[]) (fun x=>s.items.length - x.1.1) (⟨(0,-1),by simp only;omega,rfl⟩) ?_ ?_
 ·skip
  simp only [keepS,keepE,Option.getD_some,lk_cons,lkE_cons,List.cons_append,List.nil_append,simprocAttr]
  refine Le.lit [] [] _ _ ?_ ?_ ?_ ?_
  ·simp only [zL,simprocAttr]
  ·simp only [zL,↓reduceIte]
  ·simp [rlook]
  ·(simp;done)
 rintro ⟨⟨i,last⟩,hi,hR2⟩
 simp only [keepS,keepE,Option.getD_some,lk_cons,lkE_cons,List.cons_append,List.nil_append,simprocAttr]
 simp only [zX]
 simp only at hi hR2
 refine aS 1104 (fun Q hQ=>by simp (disch:=intros;contradiction) only [zS,zW,simprocAttr];exact hQ) ?_
 refine aw_cond _ rfl trivial (fun ht=>?_) (fun hf=>?_)
 ·skip
  try simp at ht
  simp only [zX]
  have hi' : i < s.items.length:=by omega
  rw [drop_get hi'] at hR2
  simp only [risR] at hR2
  refine aw_draw 1216 (RG.go fun Q hQ=>?_)
  simp (disch:=first | (intros;contradiction) | omega | (simp only [zN];omega)) only [zS,zW,irow,itC,simprocAttr]
  repeat refine ⟨by (first | omega | (simp;omega) | (simp;done)),?_⟩
  refine hQ (RG.nil ⟨by decide +kernel,?_⟩)
  simp only [zX]
  refine aw_cond _ rfl trivial (fun ht=>?_) (fun hf=>?_)
  ·skip
   try simp at ht
   simp only [zX]
   refine aR 1744 ?_
   refine Fin.b (.inr rfl) rfl trivial ?_
   rw [hR2,eq_comm,Bool.eq_false_iff];intro h;simp only [Bool.and_eq_true,decide_eq_true_eq] at h;omega
  try simp at hf
  simp only [zX]
  have hok : (decide (last < s.items[i].b) && decide (s.items[i].b < s.blocks) && decide ((s.items[i].d.length : Int) = s.size)) = true:=by simp only [Bool.and_eq_true,decide_eq_true_eq];omega
  rw [hok,Bool.true_and] at hR2
  refine aS 1792 (fun Q hQ=>by simp (disch:=first | (intros;contradiction) | omega | (simp only [zN];omega)) only [zS,zW,irow,itC,simprocAttr];repeat refine ⟨by (omega),?_⟩;exact hQ) ?_
  refine aS 1936 (fun Q hQ=>by simp (disch:=first | (intros;contradiction) | omega | (simp only [zN];omega)) only [zS,zW,simprocAttr];exact hQ) ?_
  refine ⟨⟨(i + 1,s.items[i].b),by simp only;omega,hR2⟩,?_,by first | omega | (simp only;omega)⟩
  refine Le.lit [] [] _ _ ?_ ?_ ?_ ?_
  ·simp only [zL,simprocAttr]
   all_goals (try ((repeat' (rfl))))
  ·simp only [zL,↓reduceIte]
  ·simp [rlook]
  ·(simp;done)
 try simp at hf
 simp only [zX,↓reduceIte]
 obtain rfl : i = s.items.length:=by omega
 rw [List.drop_length] at hR2
 refine aR 2016 ?_
 refine Fin.b (.inr rfl) rfl trivial ?_
 rw [hR2];rfl

def blocksS (s : STR) : List (List Nat):=if strR s = true∧s.frm < 0 then s.items.map (·.d) else []
theorem Blocks_con (s : STR) (hl : s.items.length≤1000000) : Con Tryz.prog 16 [.agg (strC s)] [] (.c (.sl ((blocksS s).map bodyR))) []:=by
 have cR:=Right21_con s hl
 refine C_mementoref21_Blocks nl nl ?_
 simp only [cz,A_mementoref21_Blocks,argL,objL,List.length_nil,zX]
 refine aS 16 (fun Q hQ=>by simp (disch:=intros;contradiction) only [zS,strC,simprocAttr];exact hQ) ?_
 refine aB 80 ?_
 refine rC [] (cR) ?_
 refine aEs (fun Q hQ=>by simp (disch:=intros;contradiction) only [zS,simprocAttr];repeat refine ⟨by ((simp;done)),?_⟩;exact hQ) ?_
 refine aw_cond _ rfl trivial (fun ht=>?_) (fun hf=>?_)
 ·skip
  try simp at ht
  simp only [zX]
  have : blocksS s = []:=by
   unfold blocksS;rw [if_neg];intro h
   rcases ht with ht | ht
   ·simp [h.1] at ht
   ·omega
  rw [this]
  refine aR 240 ?_
  refine Fin.data [] (.inr rfl) rfl (by (exact trivial)) ?_
  simp only [zL,simprocAttr]
  all_goals (trivial)
 try simp at hf
 simp only [zX]
 have : blocksS s = s.items.map (·.d):=by
  unfold blocksS;rw [if_pos]
  refine ⟨?_,by omega⟩
  cases hc : strR s with
  | true=>rfl
  | false=>simp [hc] at hf
 rw [this]
 refine aR 288 ?_
 refine aR 336 ?_
 refine aw_loopK (X:={ x : Nat × List (List Nat) // x.1≤s.items.length∧x.2 = (s.items.take x.1).map (·.d) }) [1] (fun x=>[(3,.c (.osl 5000)),(4,I x.1.1)]) [16] (fun x=>[(5000,.arr 22 1 (x.1.2.map bodyR) false)]) (fun x=>s.items.length - x.1.1) (⟨(0,[]),by simp only;omega,rfl⟩) ?_ ?_
 ·skip
  simp only [keepS,keepE,Option.getD_some,lk_cons,lkE_cons,List.cons_append,List.nil_append,simprocAttr]
  refine (Le.own 3 5000 22 1 rfl rfl (by decide)).trans ?_
  simp only [setS_cons,setE_cons,setE_nil,simprocAttr]
  refine Le.lit [] [] _ _ ?_ ?_ ?_ ?_
  ·simp only [zL,simprocAttr]
  ·simp only [zL,simprocAttr]
   all_goals (try ((repeat' (((simp [C.isD];done))))))
  ·simp [rlook]
  ·(simp;done)
 rintro ⟨⟨i,acc⟩,hi,hacc⟩
 simp only [keepS,keepE,Option.getD_some,lk_cons,lkE_cons,List.cons_append,List.nil_append,simprocAttr]
 simp only [zX]
 simp only at hi hacc
 refine aS 384 (fun Q hQ=>by simp (disch:=intros;contradiction) only [zS,zW,simprocAttr];exact hQ) ?_
 refine aw_cond _ rfl trivial (fun ht=>?_) (fun hf=>?_)
 ·skip
  try simp at ht
  simp only [zX]
  have hi' : i < s.items.length:=by omega
  have hal : acc.length≤1000000:=by rw [hacc];simp;omega
  have hnx : acc ++ [s.items[i].d] = (s.items.take (i + 1)).map (·.d):=by rw [take_one _ _ hi',List.map_append,hacc];rfl
  have e2 : List.map bodyR acc ++ [[.sl (s.items[i].d.map brow)]] = (acc ++ [s.items[i].d]).map bodyR:=by rw [List.map_append];rfl
  refine aw_reg 496 (RG.go fun Q hQ=>?_)
  simp (disch:=first | (intros;contradiction) | omega | (simp only [zN];omega)) only [zS,zW,irow,itC,e2,simprocAttr]
  repeat refine ⟨by (first | omega | (simp;omega)),?_⟩
  refine hQ (RG.nil ?_)
  simp only [zX]
  refine aS 688 (fun Q hQ=>by simp (disch:=first | (intros;contradiction) | omega | (simp only [zN];omega)) only [zS,zW,simprocAttr];exact hQ) ?_
  refine ⟨⟨(i + 1,acc ++ [s.items[i].d]),by simp only;omega,hnx⟩,?_,by first | omega | (simp only;omega)⟩
  refine Le.lit [] [(5000,624)] _ _ ?_ ?_ ?_ ?_
  ·simp only [zL,simprocAttr]
   all_goals (try ((repeat' (rfl))))
  ·simp only [zL,simprocAttr]
   all_goals (try ((repeat' ((exact drows_body _)))))
  ·simp [rlook]
  ·(simp;done)
 try simp at hf
 simp only [zX,↓reduceIte]
 obtain rfl : i = s.items.length:=by omega
 rw [List.take_length] at hacc
 rw [← hacc]
 refine aR 768 ?_
 refine Fin.data [5000] (.inr rfl) rfl (by (exact trivial)) ?_
 simp only [zL,simprocAttr]
 all_goals ((repeat' (first | (first | exact drows_body _ | (simp [C.isD];done)) | refine ⟨?_,?_⟩)))

end Go.Abs

namespace Go.Abs
open Go Go.Proofs
set_option maxRecDepth 100000
set_option linter.unusedSimpArgs false
set_option maxHeartbeats 8000000

theorem mayE_ok {v : VOL} {f t : Int} : mayE v f t = 0 ↔ ¬ v.hid = true∧f≤t∧v.floor≤f∧t≤lenV v:=by
 unfold mayE
 split
 ·rename_i h;simp [h]
 split
 ·rename_i h h2;constructor
  ·intro h;omega
  ·intro h;omega
 split
 ·rename_i h h2 h3;constructor
  ·intro h;omega
  ·intro h;omega
 split
 ·rename_i h h2 h3 h4;constructor
  ·intro h;omega
  ·intro h;omega
 ·rename_i h h2 h3 h4;exact ⟨fun _=>⟨h,by omega,by omega,by omega⟩,fun _=>rfl⟩

def fullL (v : VOL) (n : Nat) : List CH:=(List.range n).map fun i : Nat=>chG v (i : Int) v.ws.length
theorem fullL_succ (v : VOL) (n : Nat) : fullL v n ++ [chG v (n : Int) v.ws.length] = fullL v (n + 1):=by unfold fullL;rw [List.range_succ,List.map_append];rfl
theorem fullL_good {v : VOL} {n : Nat} (hn : n≤v.place.length) : ∀ c ∈ fullL v n,Gch v c:=by
 intro c hc
 obtain ⟨i,hi,rfl⟩:=List.mem_map.1 hc
 rw [List.mem_range] at hi
 exact ⟨i,v.ws.length,by omega,Nat.le_refl _,rfl⟩
theorem fullL_mem {v : VOL} {n i : Nat} (h : i < n) : chG v (i : Int) v.ws.length ∈ fullL v n:=List.mem_map.2 ⟨i,List.mem_range.2 h,rfl⟩
theorem fullL_len (v : VOL) (n : Nat) : (fullL v n).length = n:=by simp [fullL]
theorem seatM_all {v : VOL} {to : Int} (h : (v.ws.length : Int)≤to) : seatM v to = v.ws.length:=stepM_all h (Nat.zero_le _) (by omega)

theorem eqC_full {v : VOL} {n : Nat} {f t : Int} (h1 : v.floor≤f) (h2 : t≤lenV v) : eqC v n f t (chG v n v.ws.length) = true:=by
 have e1 : (chG v n v.ws.length).floor = min v.floor (v.ws.length : Int):=rfl
 have e2 : (chG v n v.ws.length).mark = (v.ws.length : Int):=rfl
 have e3 : (chG v n v.ws.length).vol = v.id:=rfl
 have e4 : (chG v n v.ws.length).chunk = (n : Int):=rfl
 have e5 : (chG v n v.ws.length).count = countV v n:=rfl
 have e6 : (chG v n v.ws.length).size = v.size:=rfl
 have e7 : lenV v = (v.ws.length : Int):=rfl
 simp only [eqC,Bool.and_eq_true,decide_eq_true_eq]
 omega
theorem picks_full {v : VOL} {l : List CH} {f t : Int} (hm : ∀ i,i < v.place.length→chG v (i : Int) v.ws.length ∈ l) (h1 : v.floor≤f) (h2 : t≤lenV v) : ∀ n,n≤v.place.length→∃ cs,picksN v l f t n = some cs
 | 0,_=>⟨[],rfl⟩
 | n + 1,hn=>by
  obtain ⟨cs,hcs⟩:=picks_full hm h1 h2 n (by omega)
  have hp : pickO v l n f t≠none:=by
   unfold pickO
   rw [if_pos (by omega)]
   intro h
   have:=List.find?_eq_none.1 h _ (hm n (by omega))
   exact this (eqC_full h1 h2)
  obtain ⟨c,hc⟩:=Option.ne_none_iff_exists'.1 hp
  exact ⟨cs ++ [c],by unfold picksN;rw [hcs];simp only [hc]⟩
def fullS (v : VOL) (t : Int) : STR:=⟨v.blocks,v.size,-1,t,(List.range v.blocks.toNat).map (bI v t)⟩
theorem strS_full {v : VOL} {l : List CH} {t : Int} (hg : Vgood v 50000) (hc : ∀ c ∈ l,Gch v c) (hm : ∀ i,i < v.place.length→chG v (i : Int) v.ws.length ∈ l) (h : mayE v t t = 0) : strS v l t t true = (fullS v t,0):=by
 obtain ⟨_,_,h1,h2⟩:=mayE_ok.1 h
 obtain ⟨cs,hcs⟩:=picks_full hm h1 h2 _ (Nat.le_refl _)
 have hgd:=picks_good hc hcs (Nat.le_refl _)
 have hl:=picksN_len hcs
 rw [strS_some h hcs,itsX_full hg hgd _ (by omega),stN_end hg]
 rfl
theorem strS_since {v : VOL} {l : List CH} {f t : Int} (hg : Vgood v 50000) (hc : ∀ c ∈ l,Gch v c) (hm : ∀ i,i < v.place.length→chG v (i : Int) v.ws.length ∈ l) (h : mayE v f t = 0) :
  ∃ P : Nat→Bool,(∀ i,i < v.blocks.toNat→P i = false→bI v f i = bI v t i)∧strS v l f t false = (⟨v.blocks,v.size,f,t,((List.range v.blocks.toNat).filter P).map (bI v t)⟩,0):=by
 obtain ⟨_,h0,h1,h2⟩:=mayE_ok.1 h
 obtain ⟨cs,hcs⟩:=picks_full hm h1 h2 _ (Nat.le_refl _)
 have hgd:=picks_good hc hcs (Nat.le_refl _)
 have hl:=picksN_len hcs
 obtain ⟨P,p1,p2⟩:=itsX_since hg h0 hgd _ (Nat.le_of_eq hl.symm)
 rw [stN_end hg] at p1 p2
 exact ⟨P,p1,by rw [strS_some h hcs,p2];rfl⟩
theorem itsX_none {v : VOL} {t : Int} {cs : List CH} : ∀ (n : Nat),itsX v t t false cs n = []
 | 0=>rfl
 | n + 1=>by
  unfold itsX
  rw [itsX_none n,List.nil_append]
  have : blkL (cs.getD n zeroCH) t t false (cs.getD n zeroCH).hist.length = []:=by
   unfold blkL
   refine List.filter_eq_nil_iff.2 fun i _ hh=>?_
   rw [Bool.false_or] at hh
   unfold chgH at hh
   obtain ⟨x,_,hx⟩:=List.any_eq_true.1 hh
   simp only [Bool.and_eq_true,decide_eq_true_eq] at hx
   omega
  rw [this];rfl
theorem strS_same {v : VOL} {l : List CH} {t : Int} (hm : ∀ i,i < v.place.length→chG v (i : Int) v.ws.length ∈ l) (h : mayE v t t = 0) : strS v l t t false = (⟨v.blocks,v.size,t,t,[]⟩,0):=by
 obtain ⟨_,_,h1,h2⟩:=mayE_ok.1 h
 obtain ⟨cs,hcs⟩:=picks_full hm h1 h2 _ (Nat.le_refl _)
 rw [strS_some h hcs,itsX_none]
 rfl
theorem vol_lims {v : VOL} (hg : Vgood v 50000) : 1≤v.blocks∧v.blocks≤256∧1≤v.size∧v.size≤32∧v.place.length≤512∧0≤v.floor∧v.floor≤lenV v:=by
 obtain ⟨r1,r2,r3,r4,r5,r6,r7,r8⟩:=rightV_iff.1 hg.right
 obtain ⟨s1,s2,s3,s4,s5,s6,s7⟩:=shape_lims r1
 exact ⟨by omega,by omega,by omega,by omega,by omega,by omega,by omega⟩
theorem strR_some {v : VOL} (hg : Vgood v 50000) {f t : Int} {P : Nat→Bool} (h0 : -1≤f) (h1 : f≤t) (h2 : 0≤t) (h3 : t≤lenV v) (h4 : 0≤f∨∀ i,i < v.blocks.toNat→P i = true) : strR ⟨v.blocks,v.size,f,t,((List.range v.blocks.toNat).filter P).map (bI v t)⟩ = true:=by
 obtain ⟨a1,a2,a3,a4,a5,a6,a7⟩:=vol_lims hg
 have hwl:=hg.ws
 have e : lenV v = (v.ws.length : Int):=rfl
 unfold strR
 rw [Bool.and_eq_true]
 constructor
 ·simp only [strP,Bool.and_eq_true,Bool.or_eq_true,decide_eq_true_eq]
  refine ⟨⟨⟨⟨⟨⟨⟨⟨by omega,by omega⟩,by omega⟩,by omega⟩,by omega⟩,by omega⟩,by omega⟩,by omega⟩,?_⟩
  rcases h4 with h4 | h4
  ·exact .inl h4
  ·refine .inr ?_
   rw [List.filter_eq_self.2 fun i hi=>h4 i (List.mem_range.1 hi),List.length_map,List.length_range]
   omega
 ·refine risR_map hg (by omega) _ _ (List.Pairwise.filter _ List.pairwise_lt_range) fun i hi=>?_
  have:=List.mem_range.1 (List.mem_filter.1 hi).1
  omega
theorem strR_full {v : VOL} (hg : Vgood v 50000) {t : Int} (h2 : 0≤t) (h3 : t≤lenV v) : strR (fullS v t) = true:=by
 have:=strR_some hg (f:=-1) (t:=t) (P:=fun _=>true) (by omega) (by omega) h2 h3 (.inr fun _ _=>rfl)
 rw [List.filter_eq_self.2 fun _ _=>rfl] at this
 exact this
theorem blocks_full {v : VOL} (hg : Vgood v 50000) {t : Int} (h2 : 0≤t) (h3 : t≤lenV v) : blocksS (fullS v t) = bodV v t:=by
 unfold blocksS
 rw [if_pos ⟨strR_full hg h2 h3,by show (-1 : Int) < 0;omega⟩]
 have hbl:=bodV_len v t
 unfold fullS
 simp only [List.map_map]
 refine List.ext_getElem (by simp [hbl]) fun i h4 h5=>?_
 simp only [List.getElem_map,List.getElem_range,Function.comp,bI]
 rw [List.getD_eq_getElem?_getD,List.getElem?_eq_getElem h5];rfl

theorem kV_facts : (seatV [0,2,1,1]).hid = false∧(seatV [0,2,1,1]).floor = 0:=by decide +kernel

end Go.Abs

namespace Go.Abs
open Go Go.Proofs
set_option maxRecDepth 100000
set_option linter.unusedSimpArgs false
set_option maxHeartbeats 8000000

def zeroVc : List C:=[.v (.int .i64 0),.v (.int .i64 0),.v (.int .i64 0),.v (.int .i64 0),.v (.slice none 0 0),.v (.int .i64 0),.v (.int .i64 0),.v (.bool false),.v (.int .i64 0),.v (.slice none 0 0),.v (.slice none 0 0)]
theorem Gather_con : Con Tryz.prog 27 [.c (.v (.pointer none)),I 0] [] (.tup [.agg zeroVc,.c (.v (.slice none 0 0)),I 28]) []:=by
 refine C_export_Gather nl nl ?_
 simp only [cz,A_export_Gather,argL,objL,List.length_nil,Nat.zero_add,zX]
 refine aR 16 ?_
 refine aR 96 ?_
 refine aT ?_
 refine aR 160 ?_
 refine Fin.data [] (.inr rfl) rfl (by (exact ⟨trivial,trivial⟩)) ?_
 simp only [zL,simprocAttr]
 all_goals ((repeat' (first | exact trivial | rfl | refine ⟨?_,?_⟩)))

theorem gatT_pure (x : Value) : (SV.tup [.agg zeroVc,.c (.v (.slice none 0 0)),.c (.v x)]).pureD:=by
 intro y hy
 simp only [List.mem_cons,List.not_mem_nil,or_false] at hy
 rcases hy with rfl | rfl | rfl
 ·intro z hz
  simp only [zeroVc,List.mem_cons,List.not_mem_nil,or_false] at hz
  rcases hz with rfl | rfl | rfl | rfl | rfl | rfl | rfl | rfl | rfl | rfl | rfl <;> rfl
 ·rfl
 ·rfl
theorem pick_nil (v : VOL) (n f t : Int) : pickO v [] n f t = none:=by unfold pickO;split <;> rfl
theorem Chunk_full {v : VOL} (hg : Vgood v 50000) {n : Nat} (hn : n < v.place.length) {to : Int} (h : (v.ws.length : Int)≤to) : Con Tryz.prog 12 [.agg (volC v),I n,I to] [] (.agg (chC (chG v n v.ws.length))) []:=by
 have:=Chunk_con v n to 50000 hg (Nat.le_refl _) (by omega) (by omega)
 rw [seatM_all h] at this
 exact this

theorem mementolaw23_known_con : Con Tryz.prog 8 [] [] (B true) []:=by
 have cV:=Volume_con [0,2,1,1] (by intro c hc;simp at hc;omega) (by simp)
 have g0:=seatV_good [0,2,1,1]
 obtain ⟨k1,k2⟩:=kV_facts
 generalize seatV [0,2,1,1] = v at cV g0 k1 k2
 have hg:=g0.mono (show [0,2,1,1].length / 4≤50000 by decide)
 have hwl : v.ws.length≤1:=g0.ws
 have hlen : lenV v = (v.ws.length : Int):=rfl
 obtain ⟨a1,a2,a3,a4,a5,a6,a7⟩:=vol_lims hg
 have hpp:=place_pos hg.right
 have hm0 : mayE v 0 0 = 0:=mayE_ok.2 ⟨by simp [k1],by omega,by omega,by omega⟩
 have hgf:=fullL_good (v:=v) (Nat.le_refl _)
 have hmf : ∀ i,i < v.place.length→chG v (i : Int) v.ws.length ∈ fullL v v.place.length:=fun i hi=>fullL_mem hi
 have hfl:=fullL_len v v.place.length
 have c1:=export_Full_con v (fullL v v.place.length) 0 hg (by omega) hgf
 rw [strS_full hg hgf hmf hm0] at c1
 have c2:=export_Full_con v (fullL v v.place.length) 9 hg (by omega) hgf
 have hm9 : mayE v 9 9 = 31:=by unfold mayE;rw [if_neg (by simp [k1]),if_neg (by omega),if_neg (by omega),if_pos (by omega)]
 rw [strS_no (by omega),hm9] at c2
 have c3:=export_Full_con v [] 0 hg (by simp) (fun c hc=>by cases hc)
 have hpn : picksN v [] 0 0 v.place.length = none:=picksN_none (n:=1) (by unfold picksN;simp only [picksN,pick_nil]) (by omega)
 rw [strS_none hm0 hpn] at c3
 have c5:=export_Pick_con v (fullL v v.place.length) 0 0 0 hg (by omega) hgf
 have hpo : pickO v (fullL v v.place.length) 0 0 0≠none:=by
  unfold pickO
  rw [if_pos (by omega)]
  intro h
  exact List.find?_eq_none.1 h _ (hmf 0 (by omega)) (eqC_full (n:=0) (by omega) (by omega))
 obtain ⟨pc,hpc⟩:=Option.ne_none_iff_exists'.1 hpo
 rw [hpc] at c5
 simp only [pickR] at c5
 have hs1 : (fullS v 0).frm = -1:=rfl
 have hs2 : ((fullS v 0).items.length : Int) = v.blocks:=by simp [fullS];omega
 generalize fullS v 0 = s at c1 hs1 hs2
 refine C_mementolaw23_known nl nl ?_
 simp only [cz,A_mementolaw23_known,argL,objL,List.length_nil,zX]
 refine aR 16 ?_
 refine aB 64 ?_
 refine rO [] [64] (cV) ?_
 refine aEs (fun Q hQ=>by simp (disch:=intros;contradiction) only [zS,vC_eq,simprocAttr];exact hQ) ?_
 refine aR 160 ?_
 refine aR 208 ?_
 refine aw_loopK (X:={ n : Nat // n≤v.place.length }) [1] (fun n=>[(2,.c (.osl 5000)),(3,I n.1)]) [96] (fun n=>[(5000,.arr 35 7 ((fullL v n.1).map chC) false)]) (fun n=>v.place.length - n.1) (⟨0,by omega⟩) ?_ ?_
 ·skip
  simp only [keepS,keepE,Option.getD_some,lk_cons,lkE_cons,List.cons_append,List.nil_append,simprocAttr]
  refine (Le.own 2 5000 35 7 rfl rfl (by decide)).trans ?_
  simp only [setS_cons,setE_cons,setE_nil,simprocAttr]
  refine Le.lit [] [] _ _ ?_ ?_ ?_ ?_
  ·simp only [zL,simprocAttr]
  ·simp only [zL,simprocAttr]
   all_goals (try ((repeat' (first | (exact drows_ch _) | rfl | refine ⟨?_,?_⟩))))
  ·simp [rlook]
  ·(simp;done)
 rintro ⟨n,hn⟩
 simp only [keepS,keepE,Option.getD_some,lk_cons,lkE_cons,List.cons_append,List.nil_append,simprocAttr]
 simp only [zX]
 refine aS 256 (fun Q hQ=>by simp (disch:=intros;contradiction) only [zS,zW,simprocAttr];exact hQ) ?_
 refine aw_cond _ rfl trivial (fun ht=>?_) (fun hf=>?_)
 ·skip
  try simp at ht
  simp only [zX]
  have hn' : n < v.place.length:=by omega
  have cC:=Chunk_full hg hn' (to:=9) (by omega)
  have hnx:=fullL_succ v n
  have hfn:=fullL_len v n
  generalize chG v n v.ws.length = c at cC hnx
  have e2 : List.map chC (fullL v n) ++ [[.v (.int .i64 c.vol),.v (.int .i64 c.chunk),.v (.int .i64 c.count),.v (.int .i64 c.size),.v (.int .i64 c.mark),.v (.int .i64 c.floor),.sl (c.hist.map hrow)]] = (fullL v (n + 1)).map chC:=by rw [← hnx,List.map_append];rfl
  refine aB 368 ?_
  refine rC [] (cC) ?_ (hs:=(by exact .inr ⟨chC_pure _,trivial⟩))
  refine aEs (fun Q hQ=>by simp (disch:=intros;contradiction) only [zS,zW,chC,chO,e2,simprocAttr];repeat refine ⟨by ((simp;omega)),?_⟩;exact hQ) ?_
  refine aS 512 (fun Q hQ=>by simp (disch:=first | (intros;contradiction) | omega | (simp only [zN];omega)) only [zS,zW,simprocAttr];exact hQ) ?_
  refine ⟨⟨n + 1,by omega⟩,?_,by first | omega | (simp only;omega)⟩
  refine Le.lit [] [(5000,448)] _ _ ?_ ?_ ?_ ?_
  ·simp only [zL,simprocAttr]
   all_goals (try ((repeat' (rfl))))
  ·simp only [zL,simprocAttr]
   all_goals (try ((repeat' ((exact drows_ch _)))))
  ·simp [rlook]
  ·(simp;done)
 try simp at hf
 simp only [zX,↓reduceIte]
 obtain rfl : n = v.place.length:=by omega
 refine aB 592 ?_
 refine RG.callo [] [5000] (c1) (.mk (by (repeat' (first | exact tr_nil | refine tr_cons ?_ ?_ | exact tr_v | exact tr_agg (by (repeat' (first | exact trivial | rfl | refine ⟨?_,?_⟩))) | exact tr_view (by simp) rfl (by (exact drows_ch _))))) (by trivial) (by simp) (by simp) (views1 rfl trivial) (by (simp [lkE_cons,lkE_nil];done)) (by (simp [Ent.pure];done)) (by simp) (by simp)) ?_
 refine aEs (fun Q hQ=>by simp (disch:=intros;contradiction) only [zS,strC,simprocAttr];exact hQ) ?_
 refine aB 768 ?_
 refine RG.callo [] [5000] (c2) (.mk (by (repeat' (first | exact tr_nil | refine tr_cons ?_ ?_ | exact tr_v | exact tr_agg (by (repeat' (first | exact trivial | rfl | refine ⟨?_,?_⟩))) | exact tr_view (by simp) rfl (by (exact drows_ch _))))) (by trivial) (by simp) (by simp) (views1 rfl trivial) (by (simp [lkE_cons,lkE_nil];done)) (by (simp [Ent.pure];done)) (by simp) (by simp)) ?_
 refine aEs (fun Q hQ=>by simp (disch:=intros;contradiction) only [zS,strC,zeroS,simprocAttr];exact hQ) ?_
 refine aB 944 ?_
 refine rC [] (c3) ?_ (hs:=(by exact .inr ⟨strT_pure _ _,trivial⟩))
 refine aEs (fun Q hQ=>by simp (disch:=intros;contradiction) only [zS,strC,zeroS,simprocAttr];exact hQ) ?_
 refine aBs 1104 (fun Q hQ=>by simp (disch:=intros;contradiction) only [zS,↓reduceIte];exact hQ) ?_
 refine rC [] (Gather_con) ?_ (hs:=(by exact .inr ⟨gatT_pure _,trivial⟩))
 refine aEs (fun Q hQ=>by simp (disch:=intros;contradiction) only [zS,zeroVc,simprocAttr];exact hQ) ?_
 refine aB 1280 ?_
 refine RG.callo [] [5000] (c5) (.mk (by (repeat' (first | exact tr_nil | refine tr_cons ?_ ?_ | exact tr_v | exact tr_agg (by (repeat' (first | exact trivial | rfl | refine ⟨?_,?_⟩))) | exact tr_view (by simp) rfl (by (exact drows_ch _))))) (by trivial) (by simp) (by simp) (views1 rfl trivial) (by (simp [lkE_cons,lkE_nil];done)) (by (simp [Ent.pure];done)) (by simp) (by simp)) ?_
 refine aEs (fun Q hQ=>by simp (disch:=intros;contradiction) only [zS,zW,simprocAttr];repeat refine ⟨by ((simp;done)),?_⟩;exact hQ) ?_
 refine aS 1456 (fun Q hQ=>by simp (disch:=intros;contradiction) only [zS,zW,simprocAttr];exact hQ) ?_
 refine Fin.b (.inr rfl) rfl trivial ?_
 simp [hs1,hs2]

theorem kN_tm {v : VOL} (hg : Vgood v 50000) (a : Nat) : v.floor≤v.floor + (a : Int) % (lenV v - v.floor + 1)∧v.floor + (a : Int) % (lenV v - v.floor + 1)≤lenV v:=by
 obtain ⟨a1,a2,a3,a4,a5,a6,a7⟩:=vol_lims hg
 have h1:=Int.emod_nonneg (a : Int) (show lenV v - v.floor + 1≠0 by omega)
 have h2:=Int.emod_lt_of_pos (a : Int) (show 0 < lenV v - v.floor + 1 by omega)
 omega

theorem ExportNothing_con (l : List Nat) (a : Nat) (h8 : ∀ c ∈ l,c < 256) (ha : a < 256) : Con Tryz.prog 7 [.c (.sl (l.map brow)),.c (.v (.int .u8 a))] [] (B true) []:=by
 refine C_mementolaw23_ExportNothing nl nl ?_
 simp only [cz,A_mementolaw23_ExportNothing,argL,objL,List.length_nil,Nat.zero_add,zX]
 refine aR 16 ?_
 refine aBs 64 (fun Q hQ=>by simp (disch:=intros;contradiction) only [zS,↓reduceIte];exact hQ) ?_
 refine rC [] (mementolaw23_known_con) ?_
 refine aE ?_
 refine aF ?_
 refine aS 128 (fun Q hQ=>by simp (disch:=intros;contradiction) only [zS,zW,simprocAttr];exact hQ) ?_
 refine aw_cond _ rfl trivial (fun ht=>?_) (fun hf=>?_)
 ·skip
  try simp at ht
  simp only [zX]
  refine aR 208 ?_
  refine Fin.b (.inr rfl) rfl trivial ?_
  rfl
 try simp at hf
 simp only [zX]
 have hl : l.length≤60:=by omega
 have cV:=Volume_con l h8 (by omega)
 have g0:=(seatV_good l).mono (show l.length / 4≤20 by omega)
 generalize seatV l = v at cV g0
 have hg:=g0.mono (show 20≤50000 by omega)
 have hwl:=g0.ws
 have hlen : lenV v = (v.ws.length : Int):=rfl
 obtain ⟨a1,a2,a3,a4,a5,a6,a7⟩:=vol_lims hg
 refine aB 256 ?_
 refine rC [] (cV) ?_ (hs:=(by exact .inr ⟨volC_pure _,trivial⟩))
 refine aEs (fun Q hQ=>by simp (disch:=intros;contradiction) only [zS,vC_eq,simprocAttr];exact hQ) ?_
 refine aR 352 ?_
 refine aw_cond _ rfl trivial (fun ht=>?_) (fun hf=>?_)
 ·skip
  try simp at ht
  simp only [zX]
  refine aR 416 ?_
  refine Fin.b (.inr rfl) rfl trivial ?_
  rfl
 try simp at hf
 simp only [zX]
 have hh : ¬ v.hid = true:=by simpa using hf
 refine aR 464 ?_
 refine aR 512 ?_
 refine aw_loopK (X:={ n : Nat // n≤v.place.length }) [1,5] (fun n=>[(6,.c (.osl 5000)),(7,I n.1)]) [288] (fun n=>[(5000,.arr 35 7 ((fullL v n.1).map chC) false)]) (fun n=>v.place.length - n.1) (⟨0,by omega⟩) ?_ ?_
 ·skip
  simp only [keepS,keepE,Option.getD_some,lk_cons,lkE_cons,List.cons_append,List.nil_append,simprocAttr]
  refine (Le.own 6 5000 35 7 rfl rfl (by decide)).trans ?_
  simp only [setS_cons,setE_cons,setE_nil,simprocAttr]
  refine Le.lit [] [] _ _ ?_ ?_ ?_ ?_
  ·simp only [zL,simprocAttr]
  ·simp only [zL,simprocAttr]
   all_goals (try ((repeat' (first | (exact drows_ch _) | rfl | refine ⟨?_,?_⟩))))
  ·simp [rlook]
  ·(simp;done)
 rintro ⟨n,hn⟩
 simp only [keepS,keepE,Option.getD_some,lk_cons,lkE_cons,List.cons_append,List.nil_append,simprocAttr]
 simp only [zX]
 refine aS 560 (fun Q hQ=>by simp (disch:=intros;contradiction) only [zS,zW,simprocAttr];exact hQ) ?_
 refine aw_cond _ rfl trivial (fun ht=>?_) (fun hf=>?_)
 ·skip
  try simp at ht
  simp only [zX]
  have hn' : n < v.place.length:=by omega
  have cC:=Chunk_full hg hn' (to:=1000) (by omega)
  have hnx:=fullL_succ v n
  have hfn:=fullL_len v n
  generalize chG v n v.ws.length = c at cC hnx
  have e2 : List.map chC (fullL v n) ++ [[.v (.int .i64 c.vol),.v (.int .i64 c.chunk),.v (.int .i64 c.count),.v (.int .i64 c.size),.v (.int .i64 c.mark),.v (.int .i64 c.floor),.sl (c.hist.map hrow)]] = (fullL v (n + 1)).map chC:=by rw [← hnx,List.map_append];rfl
  refine aB 672 ?_
  refine rC [] (cC) ?_ (hs:=(by exact .inr ⟨chC_pure _,trivial⟩))
  refine aEs (fun Q hQ=>by simp (disch:=intros;contradiction) only [zS,zW,chC,chO,e2,simprocAttr];repeat refine ⟨by ((simp;omega)),?_⟩;exact hQ) ?_
  refine aS 816 (fun Q hQ=>by simp (disch:=first | (intros;contradiction) | omega | (simp only [zN];omega)) only [zS,zW,simprocAttr];exact hQ) ?_
  refine ⟨⟨n + 1,by omega⟩,?_,by first | omega | (simp only;omega)⟩
  refine Le.lit [] [(5000,752)] _ _ ?_ ?_ ?_ ?_
  ·simp only [zL,simprocAttr]
   all_goals (try ((repeat' (rfl))))
  ·simp only [zL,simprocAttr]
   all_goals (try ((repeat' ((exact drows_ch _)))))
  ·simp [rlook]
  ·(simp;done)
 try simp at hf
 simp only [zX,↓reduceIte]
 obtain rfl : n = v.place.length:=by omega
 obtain ⟨t1,t2⟩:=kN_tm hg a
 obtain ⟨r,hr⟩ : ∃ r,r = (a : Int) % (lenV v - v.floor + 1):=⟨_,rfl⟩
 have hmm : (a : Int).tmod (lenV v - v.floor + 1) = r:=by rw [hr,Int.tmod_eq_emod_of_nonneg (by omega)]
 rw [← hr] at t1 t2
 have hmm2 : (a : Int) % (lenV v - v.floor + 1) = r:=hr.symm
 have hw1 : IntKind.i64.wrap (a : Int) = a:=w64 _ (by omega) (by omega)
 have hw2 : IntKind.i64.wrap (lenV v - v.floor) = lenV v - v.floor:=w64 _ (by omega) (by omega)
 have hw3 : IntKind.i64.wrap (lenV v - v.floor + 1) = lenV v - v.floor + 1:=w64 _ (by omega) (by omega)
 obtain ⟨t,htt⟩ : ∃ t,t = v.floor + r:=⟨_,rfl⟩
 have hw4 : IntKind.i64.wrap (v.floor + r) = t:=by rw [w64 _ (by omega) (by omega),htt]
 have hm0 : mayE v t t = 0:=mayE_ok.2 ⟨hh,by omega,by omega,by omega⟩
 have hgf:=fullL_good (v:=v) (Nat.le_refl _)
 have hmf : ∀ i,i < v.place.length→chG v (i : Int) v.ws.length ∈ fullL v v.place.length:=fun i hi=>fullL_mem hi
 have hfl:=fullL_len v v.place.length
 have cS:=export_Since_con v (fullL v v.place.length) t t hg (by omega) hgf
 rw [strS_same hmf hm0] at cS
 have cR:=Right21_con ⟨v.blocks,v.size,t,t,[]⟩ (by simp)
 have hR:=strR_some hg (f:=t) (t:=t) (P:=fun _=>false) (by omega) (by omega) (by omega) (by omega) (.inl (by omega))
 rw [show (List.range v.blocks.toNat).filter (fun _=>false) = [] by simp,List.map_nil] at hR
 rw [hR] at cR
 simp only [strC,List.map_nil] at cS cR
 refine aBDs 896 (fun Q hQ=>by simp (disch:=intros;contradiction) only [zS,hw1,simprocAttr];exact hQ) ?_
 refine rC [] (mementoref16_Len_con v) ?_
 refine aEDs (fun Q hQ=>by simp (disch:=first | (intros;contradiction) | omega | (simp only [zN];omega)) only [zS,zW,hw2,hw3,hw4,hmm2,simprocAttr];repeat refine ⟨by (omega),?_⟩;exact hQ) ?_
 refine aB 1136 ?_
 refine RG.callo [] [5000] (cS) (.mk (by (repeat' (first | exact tr_nil | refine tr_cons ?_ ?_ | exact tr_v | exact tr_agg (by (repeat' (first | exact trivial | rfl | refine ⟨?_,?_⟩))) | exact tr_view (by simp) rfl (by (exact drows_ch _))))) (by trivial) (by simp) (by simp) (views1 rfl trivial) (by (simp [lkE_cons,lkE_nil];done)) (by (simp [Ent.pure];done)) (by simp) (by simp)) ?_
 refine aE ?_
 refine aB 1344 ?_
 refine rG _ _ (cR) ?_
 refine aE ?_
 refine Fin.b (.inr rfl) rfl trivial ?_
 simp

theorem ExportNothing_law (l : List Nat) (hl : (∀ c ∈ l,c < 256)∧l.length≤9223372036854775807) (a : Nat) (ha : a < 256) : Con Tryz.prog 7 [.c (.sl (l.map brow)),.c (.v (.int .u8 a))] [] (B true) []:=ExportNothing_con l a hl.1 ha

end Go.Abs

namespace Go.Abs
open Go Go.Proofs
set_option maxRecDepth 100000
set_option linter.unusedSimpArgs false
set_option maxHeartbeats 8000000

theorem pick_empty {v : VOL} (hg : Vgood v 50000) (f t : Int) : picksN v [] f t v.place.length = none:=by
 have hpp:=place_pos hg.right
 exact picksN_none (n:=1) (by unfold picksN;simp only [picksN,pick_nil]) (by omega)
def errL (v : VOL) (nn : Bool) : List CH:=if nn = true then [] else fullL v v.place.length
def errE (v : VOL) (nn : Bool) (f t : Int) : Int:=if mayE v f t≠0 then mayE v f t else if nn = true then 32 else 0
theorem errS {v : VOL} (hg : Vgood v 50000) (nn : Bool) (f t : Int) : (strS v (errL v nn) f t false).2 = errE v nn f t:=by
 unfold errE
 split
 ·rename_i h;rw [strS_no h]
 ·rename_i h
  have h0 : mayE v f t = 0:=by omega
  unfold errL
  split
  ·rw [strS_none h0 (pick_empty hg f t)]
  ·obtain ⟨P,_,hP⟩:=strS_since hg (fullL_good (Nat.le_refl _)) (fun i hi=>fullL_mem hi) h0
   rw [hP]
theorem errF {v : VOL} (hg : Vgood v 50000) (nn : Bool) (t : Int) : (strS v (errL v nn) t t true).2 = errE v nn t t:=by
 unfold errE
 split
 ·rename_i h;rw [strS_no h]
 ·rename_i h
  have h0 : mayE v t t = 0:=by omega
  unfold errL
  split
  ·rw [strS_none h0 (pick_empty hg t t)]
  ·rw [strS_full hg (fullL_good (Nat.le_refl _)) (fun i hi=>fullL_mem hi) h0]
theorem errL_good {v : VOL} (nn : Bool) : ∀ c ∈ errL v nn,Gch v c:=by
 unfold errL
 split
 ·intro c hc;cases hc
 ·exact fullL_good (Nat.le_refl _)

theorem ExportErrors_con (l : List Nat) (a b : Nat) (nn : Bool) (h8 : ∀ c ∈ l,c < 256) (ha : a < 256) (hb : b < 256) : Con Tryz.prog 6 [.c (.sl (l.map brow)),.c (.v (.int .u8 a)),.c (.v (.int .u8 b)),B nn] [] (B true) []:=by
 refine C_mementolaw23_ExportErrors nl nl ?_
 simp only [cz,A_mementolaw23_ExportErrors,argL,objL,List.length_nil,Nat.zero_add,zX,simprocAttr]
 refine aR 16 ?_
 refine aBs 64 (fun Q hQ=>by simp (disch:=intros;contradiction) only [zS,↓reduceIte];exact hQ) ?_
 refine rC [] (mementolaw23_known_con) ?_
 refine aE ?_
 refine aF ?_
 refine aS 128 (fun Q hQ=>by simp (disch:=intros;contradiction) only [zS,zW,simprocAttr];exact hQ) ?_
 refine aw_cond _ rfl trivial (fun ht=>?_) (fun hf=>?_)
 ·skip
  try simp at ht
  simp only [zX]
  refine aR 208 ?_
  refine Fin.b (.inr rfl) rfl trivial ?_
  rfl
 try simp at hf
 simp only [zX]
 have hl : l.length≤60:=by omega
 have cV:=Volume_con l h8 (by omega)
 have g0:=(seatV_good l).mono (show l.length / 4≤20 by omega)
 generalize seatV l = v at cV g0
 have hg:=g0.mono (show 20≤50000 by omega)
 have hwl:=g0.ws
 have hlen : lenV v = (v.ws.length : Int):=rfl
 obtain ⟨a1,a2,a3,a4,a5,a6,a7⟩:=vol_lims hg
 obtain ⟨n,hn⟩ : ∃ n,n = lenV v:=⟨_,rfl⟩
 have cL:=mementoref16_Len_con v
 rw [← hn] at cL
 obtain ⟨f,hf⟩ : ∃ f,f = (a : Int) % (n + 3):=⟨_,rfl⟩
 obtain ⟨t,ht'⟩ : ∃ t,t = (b : Int) % (n + 3):=⟨_,rfl⟩
 have hf0 : 0≤f:=by rw [hf];exact Int.emod_nonneg _ (by omega)
 have ht0 : 0≤t:=by rw [ht'];exact Int.emod_nonneg _ (by omega)
 have hf1 : f < n + 3:=by rw [hf];exact Int.emod_lt_of_pos _ (by omega)
 have ht1 : t < n + 3:=by rw [ht'];exact Int.emod_lt_of_pos _ (by omega)
 have hm1 : (a : Int).tmod (n + 3) = f:=by rw [hf,Int.tmod_eq_emod_of_nonneg (by omega)]
 have hm2 : (b : Int).tmod (n + 3) = t:=by rw [ht',Int.tmod_eq_emod_of_nonneg (by omega)]
 have hm3:=hf.symm
 have hm4:=ht'.symm
 have hw1 : IntKind.i64.wrap (a : Int) = a:=w64 _ (by omega) (by omega)
 have hw2 : IntKind.i64.wrap (b : Int) = b:=w64 _ (by omega) (by omega)
 have hw3 : IntKind.i64.wrap (n + 3) = n + 3:=w64 _ (by omega) (by omega)
 have hgl:=errL_good (v:=v) nn
 have hll : (errL v nn).length≤512:=by unfold errL;split;simp;rw [fullL_len];omega
 have cS:=export_Since_con v (errL v nn) f t hg (by omega) hgl
 have cF:=export_Full_con v (errL v nn) t hg (by omega) hgl
 have eS:=errS hg nn f t
 have eF:=errF hg nn t
 generalize strS v (errL v nn) f t false = q1 at cS eS
 generalize strS v (errL v nn) t t true = q2 at cF eF
 obtain ⟨s1,e1⟩:=q1
 obtain ⟨s2,e2⟩:=q2
 simp only at cS cF eS eF
 subst eS eF
 refine aB 256 ?_
 refine rC [] (cV) ?_ (hs:=(by exact .inr ⟨volC_pure _,trivial⟩))
 refine aEs (fun Q hQ=>by simp (disch:=intros;contradiction) only [zS,vC_eq,simprocAttr];exact hQ) ?_
 refine aB 352 ?_
 refine rC [] (cL) ?_
 refine aE ?_
 refine aw_draw 432 (RG.go fun Q hQ=>?_)
 simp (disch:=first | (intros;contradiction) | omega | (simp only [zN];omega)) only [zS,zW,hw1,hw2,hw3,hm3,hm4,simprocAttr]
 repeat refine ⟨by (omega),?_⟩
 refine hQ (RG.nil ⟨by decide +kernel,?_⟩)
 simp only [zX]
 refine aR 656 ?_
 refine aR 704 ?_
 refine aw_loopK (X:={ x : Nat // x≤v.place.length∧(nn = true→x = 0) }) [3,9,10,11,12] (fun x=>[(13,.c (.osl 5000)),(14,I x.1)]) [288] (fun x=>[(5000,.arr 35 7 ((fullL v x.1).map chC) false)]) (fun x=>v.place.length - x.1) (⟨0,by omega,fun _=>rfl⟩) ?_ ?_
 ·skip
  simp only [keepS,keepE,Option.getD_some,lk_cons,lkE_cons,List.cons_append,List.nil_append,simprocAttr]
  refine (Le.own 13 5000 35 7 rfl rfl (by decide)).trans ?_
  simp only [setS_cons,setE_cons,setE_nil,simprocAttr]
  refine Le.lit [] [] _ _ ?_ ?_ ?_ ?_
  ·simp only [zL,simprocAttr]
  ·simp only [zL,simprocAttr]
   all_goals (try ((repeat' (first | (exact drows_ch _) | rfl | refine ⟨?_,?_⟩))))
  ·simp [rlook]
  ·(simp;done)
 rintro ⟨x,hx,hx2⟩
 simp only [keepS,keepE,Option.getD_some,lk_cons,lkE_cons,List.cons_append,List.nil_append,simprocAttr]
 simp only [zX]
 refine aS 752 (fun Q hQ=>by simp (disch:=intros;contradiction) only [zS,zW,simprocAttr];exact hQ) ?_
 refine aw_cond _ rfl trivial (fun ht=>?_) (fun hf=>?_)
 ·skip
  try simp at ht
  simp only [zX]
  have hnn : nn = false:=by
   cases nn with
   | false=>rfl
   | true=>simp at ht
  have hx' : x < v.place.length:=by
   rcases ht with ⟨h1,h2⟩
   omega
  have cC:=Chunk_full hg hx' (to:=1000) (by omega)
  have hnx:=fullL_succ v x
  have hfn:=fullL_len v x
  generalize chG v x v.ws.length = c at cC hnx
  have e2 : List.map chC (fullL v x) ++ [[.v (.int .i64 c.vol),.v (.int .i64 c.chunk),.v (.int .i64 c.count),.v (.int .i64 c.size),.v (.int .i64 c.mark),.v (.int .i64 c.floor),.sl (c.hist.map hrow)]] = (fullL v (x + 1)).map chC:=by rw [← hnx,List.map_append];rfl
  refine aB 928 ?_
  refine rC [] (cC) ?_ (hs:=(by exact .inr ⟨chC_pure _,trivial⟩))
  refine aEs (fun Q hQ=>by simp (disch:=intros;contradiction) only [zS,zW,chC,chO,e2,simprocAttr];repeat refine ⟨by ((simp;omega)),?_⟩;exact hQ) ?_
  refine aS 1072 (fun Q hQ=>by simp (disch:=first | (intros;contradiction) | omega | (simp only [zN];omega)) only [zS,zW,simprocAttr];exact hQ) ?_
  refine ⟨⟨x + 1,by omega,fun h=>by rw [hnn] at h;cases h⟩,?_,by first | omega | (simp only;omega)⟩
  refine Le.lit [] [(5000,1008)] _ _ ?_ ?_ ?_ ?_
  ·simp only [zL,simprocAttr]
   all_goals (try ((repeat' (rfl))))
  ·simp only [zL,simprocAttr]
   all_goals (try ((repeat' ((exact drows_ch _)))))
  ·simp [rlook]
  ·(simp;done)
 try simp at hf
 simp only [zX,↓reduceIte]
 have hxe : fullL v x = errL v nn:=by
  unfold errL
  cases nn with
  | true=>rw [if_pos rfl,hx2 rfl];rfl
  | false =>
   have : x = v.place.length:=by simp at hf;omega
   rw [if_neg (by simp),this]
 rw [hxe]
 clear hxe
 refine aw_reg 1152 (RG.go fun Q hQ=>?_)
 simp (disch:=intros;contradiction) only [zS,simprocAttr]
 refine hQ (RG.nil ?_)
 simp only [zY]
 refine aw_joinS (Y:=Unit) [3,9,10,11,12,13] (fun y=>[(15,I (errE v nn f t))]) [288,5000] (fun y=>[]) (by (repeat' (exact cl_fin))) ?_ ?_
 ·skip
  simp only [zX]
  refine aR 1200 ?_
  refine aw_cond _ rfl trivial (fun ht=>?_) (fun hf=>?_)
  ·skip
   try simp at ht
   have hm : mayE v f t = 28:=by unfold mayE;rw [if_pos (by simpa using ht)]
   have e : errE v nn f t = 28:=by unfold errE;rw [hm];rfl
   refine aR 1280 ?_
   refine ⟨(),?_⟩
   simp only [keepS,keepE,Option.getD_some,lk_cons,lkE_cons,List.cons_append,List.nil_append,simprocAttr]
   refine Le.lit [] [] _ _ ?_ ?_ ?_ ?_
   ·simp only [zL,simprocAttr]
    all_goals (rw [e];skip)
   ·simp only [zL,simprocAttr]
    all_goals (try ((repeat' ((exact drows_ch _)))))
   ·simp [rlook]
   ·(simp;done)
  try simp at hf
  simp only [zX]
  have h1 : ¬ v.hid = true:=by simpa using hf
  refine aR 1328 ?_
  refine aw_cond _ rfl trivial (fun ht=>?_) (fun hf=>?_)
  ·skip
   try simp at ht
   have hm : mayE v f t = 23:=by unfold mayE;rw [if_neg h1,if_pos (by omega)]
   have e : errE v nn f t = 23:=by unfold errE;rw [hm];rfl
   refine aR 1424 ?_
   refine ⟨(),?_⟩
   simp only [keepS,keepE,Option.getD_some,lk_cons,lkE_cons,List.cons_append,List.nil_append,simprocAttr]
   refine Le.lit [] [] _ _ ?_ ?_ ?_ ?_
   ·simp only [zL,simprocAttr]
    all_goals (rw [e];skip)
   ·simp only [zL,simprocAttr]
    all_goals (try ((repeat' ((exact drows_ch _)))))
   ·simp [rlook]
   ·(simp;done)
  try simp at hf
  simp only [zX]
  have h2 : ¬ t < f:=by omega
  refine aR 1472 ?_
  refine aw_cond _ rfl trivial (fun ht=>?_) (fun hf=>?_)
  ·skip
   try simp at ht
   have hm : mayE v f t = 30:=by unfold mayE;rw [if_neg h1,if_neg h2,if_pos (by omega)]
   have e : errE v nn f t = 30:=by unfold errE;rw [hm];rfl
   refine aR 1584 ?_
   refine ⟨(),?_⟩
   simp only [keepS,keepE,Option.getD_some,lk_cons,lkE_cons,List.cons_append,List.nil_append,simprocAttr]
   refine Le.lit [] [] _ _ ?_ ?_ ?_ ?_
   ·simp only [zL,simprocAttr]
    all_goals (rw [e];skip)
   ·simp only [zL,simprocAttr]
    all_goals (try ((repeat' ((exact drows_ch _)))))
   ·simp [rlook]
   ·(simp;done)
  try simp at hf
  simp only [zX]
  have h3 : ¬ f < v.floor:=by omega
  refine aR 1632 ?_
  refine aw_cond _ rfl trivial (fun ht=>?_) (fun hf=>?_)
  ·skip
   try simp at ht
   have hm : mayE v f t = 31:=by unfold mayE;rw [if_neg h1,if_neg h2,if_neg h3,if_pos (by omega)]
   have e : errE v nn f t = 31:=by unfold errE;rw [hm];rfl
   refine aR 1728 ?_
   refine ⟨(),?_⟩
   simp only [keepS,keepE,Option.getD_some,lk_cons,lkE_cons,List.cons_append,List.nil_append,simprocAttr]
   refine Le.lit [] [] _ _ ?_ ?_ ?_ ?_
   ·simp only [zL,simprocAttr]
    all_goals (rw [e];skip)
   ·simp only [zL,simprocAttr]
    all_goals (try ((repeat' ((exact drows_ch _)))))
   ·simp [rlook]
   ·(simp;done)
  try simp at hf
  simp only [zX]
  have hm : mayE v f t = 0:=by unfold mayE;rw [if_neg h1,if_neg h2,if_neg h3,if_neg (by omega)]
  refine aR 1776 ?_
  refine aw_cond _ rfl trivial (fun ht=>?_) (fun hf=>?_)
  ·skip
   try simp at ht
   have e : errE v nn f t = 32:=by unfold errE;rw [if_neg (by omega),if_pos (by simpa using ht)]
   refine aR 1840 ?_
   refine ⟨(),?_⟩
   simp only [keepS,keepE,Option.getD_some,lk_cons,lkE_cons,List.cons_append,List.nil_append,simprocAttr]
   refine Le.lit [] [] _ _ ?_ ?_ ?_ ?_
   ·simp only [zL,simprocAttr]
    all_goals (rw [e];skip)
   ·simp only [zL,simprocAttr]
    all_goals (try ((repeat' ((exact drows_ch _)))))
   ·simp [rlook]
   ·(simp;done)
  try simp at hf
  simp only [zX]
  have e : errE v nn f t = 0:=by unfold errE;rw [if_neg (by omega),if_neg (by simpa using hf)]
  refine ⟨(),?_⟩
  simp only [keepS,keepE,Option.getD_some,lk_cons,lkE_cons,List.cons_append,List.nil_append,simprocAttr]
  refine Le.lit [] [] _ _ ?_ ?_ ?_ ?_
  ·simp only [zL,simprocAttr]
   all_goals (rw [e];skip)
  ·simp only [zL,simprocAttr]
   all_goals (try ((repeat' ((exact drows_ch _)))))
  ·simp [rlook]
  ·(simp;done)
 rintro ⟨⟩
 simp only [keepS,keepE,Option.getD_some,lk_cons,lkE_cons,List.cons_append,List.nil_append,simprocAttr]
 simp only [zX]
 refine aB 1888 ?_
 refine RG.callo [] [5000] (cS) (.mk (by (repeat' (first | exact tr_nil | refine tr_cons ?_ ?_ | exact tr_v | exact tr_agg (by (repeat' (first | exact trivial | rfl | refine ⟨?_,?_⟩))) | exact tr_view (by simp) rfl (by (exact drows_ch _))))) (by trivial) (by simp) (by simp) (views1 rfl trivial) (by (simp [lkE_cons,lkE_nil];done)) (by (simp [Ent.pure];done)) (by simp) (by simp)) ?_
 refine RG.go fun Q hQ=>?_
 simp (disch:=intros;contradiction) only [zS,zW,simprocAttr]
 have hw28 : v.hid = true→errE v nn f t = 28:=fun h=>by
  have hm : mayE v f t = 28:=by unfold mayE;rw [if_pos h]
  unfold errE;rw [hm];rfl
 generalize errE v nn f t = want at hw28
 repeat refine ⟨by ((simp;done)),?_⟩
 refine hQ (RG.nil ?_)
 simp only [zX]
 refine aw_reg 2096 (RG.go fun Q hQ=>?_)
 simp (disch:=intros;contradiction) only [zS,simprocAttr]
 refine hQ (RG.nil ?_)
 simp only [zY]
 refine aw_joinS (Y:={ z : Int // v.hid = true→z = 28 }) [3,9,10,12,13,15,17] (fun y=>[(18,I y.1)]) [288,5000] (fun y=>[]) (by (repeat' (exact cl_fin))) ?_ ?_
 ·skip
  simp only [zX]
  refine aS 2160 (fun Q hQ=>by simp (disch:=intros;contradiction) only [zS,simprocAttr];repeat refine ⟨by ((simp;done)),?_⟩;exact hQ) ?_
  refine aw_cond _ rfl trivial (fun ht=>?_) (fun hf=>?_)
  ·skip
   try simp at ht
   refine aR 2288 ?_
   refine ⟨⟨0,fun h=>by have:=hw28 h;omega⟩,?_⟩
   simp only [keepS,keepE,Option.getD_some,lk_cons,lkE_cons,List.cons_append,List.nil_append,simprocAttr]
   refine Le.lit [] [] _ _ ?_ ?_ ?_ ?_
   ·simp only [zL,simprocAttr]
   ·simp only [zL,simprocAttr]
    all_goals (try ((repeat' ((exact drows_ch _)))))
   ·simp [rlook]
   ·(simp;done)
  try simp at hf
  simp only [zX]
  refine ⟨⟨want,hw28⟩,?_⟩
  simp only [keepS,keepE,Option.getD_some,lk_cons,lkE_cons,List.cons_append,List.nil_append,simprocAttr]
  refine Le.lit [] [] _ _ ?_ ?_ ?_ ?_
  ·simp only [zL,simprocAttr]
  ·simp only [zL,simprocAttr]
   all_goals (try ((repeat' ((exact drows_ch _)))))
  ·simp [rlook]
  ·(simp;done)
 rintro ⟨z,hz⟩
 simp only [keepS,keepE,Option.getD_some,lk_cons,lkE_cons,List.cons_append,List.nil_append,simprocAttr]
 refine aw_joinS (Y:=Unit) [9,12,13,15,17] (fun y=>[(18,I (errE v nn t t))]) [288,5000] (fun y=>[]) (by (repeat' (exact cl_fin))) ?_ ?_
 ·skip
  simp only [zX]
  refine aR 2336 ?_
  refine aw_cond _ rfl trivial (fun ht=>?_) (fun hf=>?_)
  ·skip
   try simp at ht
   simp only [zX]
   have h1 : ¬ v.hid = true:=by simpa using ht
   refine aR 2416 ?_
   refine aw_cond _ rfl trivial (fun ht=>?_) (fun hf=>?_)
   ·skip
    try simp at ht
    have hm : mayE v t t = 30:=by unfold mayE;rw [if_neg h1,if_neg (by omega),if_pos (by omega)]
    have e : errE v nn t t = 30:=by unfold errE;rw [hm];rfl
    refine aR 2528 ?_
    refine ⟨(),?_⟩
    simp only [keepS,keepE,Option.getD_some,lk_cons,lkE_cons,List.cons_append,List.nil_append,simprocAttr]
    refine Le.lit [] [] _ _ ?_ ?_ ?_ ?_
    ·simp only [zL,simprocAttr]
     all_goals (rw [e];skip)
    ·simp only [zL,simprocAttr]
     all_goals (try ((repeat' ((exact drows_ch _)))))
    ·simp [rlook]
    ·(simp;done)
   try simp at hf
   simp only [zX]
   refine aR 2576 ?_
   refine aw_cond _ rfl trivial (fun ht=>?_) (fun hf=>?_)
   ·skip
    try simp at ht
    have hm : mayE v t t = 31:=by unfold mayE;rw [if_neg h1,if_neg (by omega),if_neg (by omega),if_pos (by omega)]
    have e : errE v nn t t = 31:=by unfold errE;rw [hm];rfl
    refine aR 2672 ?_
    refine ⟨(),?_⟩
    simp only [keepS,keepE,Option.getD_some,lk_cons,lkE_cons,List.cons_append,List.nil_append,simprocAttr]
    refine Le.lit [] [] _ _ ?_ ?_ ?_ ?_
    ·simp only [zL,simprocAttr]
     all_goals (rw [e];skip)
    ·simp only [zL,simprocAttr]
     all_goals (try ((repeat' ((exact drows_ch _)))))
    ·simp [rlook]
    ·(simp;done)
   try simp at hf
   simp only [zX]
   have hm : mayE v t t = 0:=by unfold mayE;rw [if_neg h1,if_neg (by omega),if_neg (by omega),if_neg (by omega)]
   refine aR 2720 ?_
   refine aw_cond _ rfl trivial (fun ht=>?_) (fun hf=>?_)
   ·skip
    try simp at ht
    have e : errE v nn t t = 32:=by unfold errE;rw [if_neg (by omega),if_pos (by simpa using ht)]
    refine aR 2784 ?_
    refine ⟨(),?_⟩
    simp only [keepS,keepE,Option.getD_some,lk_cons,lkE_cons,List.cons_append,List.nil_append,simprocAttr]
    refine Le.lit [] [] _ _ ?_ ?_ ?_ ?_
    ·simp only [zL,simprocAttr]
     all_goals (rw [e];skip)
    ·simp only [zL,simprocAttr]
     all_goals (try ((repeat' ((exact drows_ch _)))))
    ·simp [rlook]
    ·(simp;done)
   try simp at hf
   have e : errE v nn t t = 0:=by unfold errE;rw [if_neg (by omega),if_neg (by simpa using hf)]
   refine aR 2832 ?_
   refine ⟨(),?_⟩
   simp only [keepS,keepE,Option.getD_some,lk_cons,lkE_cons,List.cons_append,List.nil_append,simprocAttr]
   refine Le.lit [] [] _ _ ?_ ?_ ?_ ?_
   ·simp only [zL,simprocAttr]
    all_goals (rw [e];skip)
   ·simp only [zL,simprocAttr]
    all_goals (try ((repeat' ((exact drows_ch _)))))
   ·simp [rlook]
   ·(simp;done)
  try simp at hf
  simp only [zX]
  have h1 : v.hid = true:=by simpa using hf
  have hm : mayE v t t = 28:=by unfold mayE;rw [if_pos h1]
  have e : errE v nn t t = 28:=by unfold errE;rw [hm];rfl
  refine ⟨(),?_⟩
  simp only [keepS,keepE,Option.getD_some,lk_cons,lkE_cons,List.cons_append,List.nil_append,simprocAttr]
  refine Le.lit [] [] _ _ ?_ ?_ ?_ ?_
  ·simp only [zL,simprocAttr]
   all_goals (rw [e,hz h1];skip)
  ·simp only [zL,simprocAttr]
   all_goals (try ((repeat' ((exact drows_ch _)))))
  ·simp [rlook]
  ·(simp;done)
 rintro ⟨⟩
 simp only [keepS,keepE,Option.getD_some,lk_cons,lkE_cons,List.cons_append,List.nil_append,simprocAttr]
 simp only [zX]
 refine aB 2880 ?_
 refine RG.callo [] [5000] (cF) (.mk (by (repeat' (first | exact tr_nil | refine tr_cons ?_ ?_ | exact tr_v | exact tr_agg (by (repeat' (first | exact trivial | rfl | refine ⟨?_,?_⟩))) | exact tr_view (by simp) rfl (by (exact drows_ch _))))) (by trivial) (by simp) (by simp) (views1 rfl trivial) (by (simp [lkE_cons,lkE_nil];done)) (by (simp [Ent.pure];done)) (by simp) (by simp)) ?_
 refine aEs (fun Q hQ=>by simp (disch:=intros;contradiction) only [zS,zW,simprocAttr];repeat refine ⟨by ((simp;done)),?_⟩;exact hQ) ?_
 refine aR 3072 ?_
 refine Fin.b (.inr rfl) rfl trivial ?_
 simp

theorem ExportErrors_law (l : List Nat) (hl : (∀ c ∈ l,c < 256)∧l.length≤9223372036854775807) (a : Nat) (ha : a < 256) (b : Nat) (hb : b < 256) (nn : Bool) : Con Tryz.prog 6 [.c (.sl (l.map brow)),.c (.v (.int .u8 a)),.c (.v (.int .u8 b)),B nn] [] (B true) []:=ExportErrors_con l a b nn hl.1 ha hb

theorem chunks_con (v : VOL) (l : List Nat) (hg : Vgood v 50000) (hl : l.length≤1000) (h8 : ∀ c ∈ l,c < 256) :
  ∃ cs : List CH,cs.length = l.length∧(∀ c ∈ cs,Gch v c)∧Con Tryz.prog 11 [.agg (volC v),.c (.sl (l.map brow))] [] (.c (.osl 0)) [.arr 35 7 (cs.map chC) false]:=by
 refine ⟨l.map fun c : Nat=>chG v ((c % v.place.length : Nat) : Int) (seatM v (((c / 8 : Nat) : Int) % (lenV v + 4))),by simp,fun c hc=>?_,?_⟩
 ·obtain ⟨x,hx,rfl⟩:=List.mem_map.1 hc
  exact ⟨x % v.place.length,_,Nat.mod_lt _ (place_pos hg.right),seatM_le _ _,rfl⟩
 obtain ⟨a1,a2,a3,a4,a5,a6,a7⟩:=vol_lims hg
 have hpp:=place_pos hg.right
 have hwl:=hg.ws
 have hlen : lenV v = (v.ws.length : Int):=rfl
 generalize hF : (fun c : Nat=>chG v ((c % v.place.length : Nat) : Int) (seatM v (((c / 8 : Nat) : Int) % (lenV v + 4)))) = F
 refine C_mementolaw23_chunks nl nl ?_
 simp only [cz,A_mementolaw23_chunks,argL,objL,List.length_nil,Nat.zero_add,zX]
 refine aS 16 (fun Q hQ=>by simp (disch:=intros;contradiction) only [zS,vC_eq,simprocAttr];exact hQ) ?_
 refine aR 80 ?_
 refine aR 128 ?_
 refine aw_loopK (X:={ i : Nat // i≤l.length }) [1,2] (fun i=>[(5,.c (.osl 5000)),(6,I i.1)]) [16] (fun i=>[(5000,.arr 35 7 (((l.take i.1).map F).map chC) false)]) (fun i=>l.length - i.1) (⟨0,by omega⟩) ?_ ?_
 ·skip
  simp only [keepS,keepE,Option.getD_some,lk_cons,lkE_cons,List.cons_append,List.nil_append,simprocAttr]
  refine (Le.own 5 5000 35 7 rfl rfl (by decide)).trans ?_
  simp only [setS_cons,setE_cons,setE_nil,simprocAttr]
  refine Le.lit [] [] _ _ ?_ ?_ ?_ ?_
  ·simp only [zL,simprocAttr]
  ·simp only [zL,simprocAttr]
   all_goals (try ((repeat' (((simp [C.isD];done))))))
  ·simp [rlook]
  ·(simp;done)
 rintro ⟨i,hi⟩
 simp only [keepS,keepE,Option.getD_some,lk_cons,lkE_cons,List.cons_append,List.nil_append,simprocAttr]
 simp only [zX]
 refine aS 176 (fun Q hQ=>by simp (disch:=intros;contradiction) only [zS,zW,simprocAttr];exact hQ) ?_
 refine aw_cond _ rfl trivial (fun ht=>?_) (fun hf=>?_)
 ·skip
  try simp at ht
  simp only [zX]
  have hi' : i < l.length:=by omega
  obtain ⟨x,hx⟩ : ∃ x,l[i] = x:=⟨_,rfl⟩
  have hx8:=h8 x (by rw [← hx];exact List.getElem_mem hi')
  have htk : (l.take (i + 1)).map F = (l.take i).map F ++ [F x]:=by rw [take_one _ _ hi',List.map_append,hx];rfl
  have hkl : x % v.place.length < v.place.length:=Nat.mod_lt _ hpp
  have cC:=Chunk_con v ((x % v.place.length : Nat) : Int) (((x / 8 : Nat) : Int) % (lenV v + 4)) 50000 hg (Nat.le_refl _) (by omega) (by omega)
  have hFx : chG v ((x % v.place.length : Nat) : Int) (seatM v (((x / 8 : Nat) : Int) % (lenV v + 4))) = F x:=by rw [← hF]
  rw [hFx] at cC
  have hm1 : (x : Int) % (v.place.length : Int) = ((x % v.place.length : Nat) : Int):=by omega
  have hm2 : ((x : Int) / 8) = ((x / 8 : Nat) : Int):=by omega
  have hw1 : IntKind.i64.wrap (x : Int) = x:=w64 _ (by omega) (by omega)
  have hw2 : IntKind.i64.wrap ((x / 8 : Nat) : Int) = ((x / 8 : Nat) : Int):=w64 _ (by omega) (by omega)
  have hw3 : IntKind.i64.wrap (lenV v + 4) = lenV v + 4:=w64 _ (by omega) (by omega)
  generalize F x = c at cC htk
  have e2 : List.map chC ((l.take i).map F) ++ [[.v (.int .i64 c.vol),.v (.int .i64 c.chunk),.v (.int .i64 c.count),.v (.int .i64 c.size),.v (.int .i64 c.mark),.v (.int .i64 c.floor),.sl (c.hist.map hrow)]] = ((l.take (i + 1)).map F).map chC:=by rw [htk,List.map_append (f:=chC)];rfl
  refine aw_draw 272 (RG.go fun Q hQ=>?_)
  simp (disch:=first | (intros;contradiction) | omega | (simp only [zN];omega)) only [zS,zW,brow,hx,hm1,hm2,hw1,hw2,simprocAttr]
  repeat refine ⟨by (omega),?_⟩
  refine hQ ?_
  refine rC [] (mementoref16_Len_con v) ?_
  refine aMs (fun Q hQ=>by simp (disch:=first | (intros;contradiction) | omega | (simp only [zN];omega)) only [zS,zW,hw3,simprocAttr];repeat refine ⟨by (omega),?_⟩;exact hQ) ?_
  refine rC [] (cC) ?_ (hs:=(by exact .inr ⟨chC_pure _,trivial⟩))
  refine aEDs (fun Q hQ=>by simp (disch:=intros;contradiction) only [zS,zW,chC,chO,e2,simprocAttr];repeat refine ⟨by ((simp;omega)),?_⟩;exact hQ) ?_
  refine aS 704 (fun Q hQ=>by simp (disch:=first | (intros;contradiction) | omega | (simp only [zN];omega)) only [zS,zW,simprocAttr];exact hQ) ?_
  refine ⟨⟨i + 1,hi'⟩,?_,by first | omega | (simp only;omega)⟩
  refine Le.lit [] [(5000,640)] _ _ ?_ ?_ ?_ ?_
  ·simp only [zL,simprocAttr]
   all_goals (try ((repeat' (rfl))))
  ·simp only [zL,simprocAttr]
   all_goals (try ((repeat' ((exact drows_ch _)))))
  ·simp [rlook]
  ·(simp;done)
 try simp at hf
 simp only [zX,↓reduceIte]
 obtain rfl : i = l.length:=by omega
 rw [List.take_length]
 refine aR 784 ?_
 refine Fin.objs [] [(0,5000)] (.inr rfl) rfl (by exact trivial) ?_ ?_ (by simp [objL,rlook]) (by (simp [objL,rlook];done))
 ·simp only [zL,simprocAttr]
 ·simp only [zL,simprocAttr]
  all_goals (try ((repeat' ((exact drows_ch _)))))

end Go.Abs

namespace Go.Abs
open Go Go.Proofs
set_option maxRecDepth 100000
set_option linter.unusedSimpArgs false
set_option maxHeartbeats 8000000

theorem state_in {v : VOL} (hg : Vgood v 50000) {t : Int} (h1 : v.floor≤t) (h2 : t≤lenV v) : Con Tryz.prog 14 [.agg (volC v),I t] [] (.tup [.c (.sl ((bodV v t).map bodyR)),I 0]) []:=by
 have c:=refState_con v t ⟨50000,Nat.le_refl _,hg⟩
 have h0 : timeE v.floor t (lenV v) = 0:=timeE_of.2 ⟨h1,h2⟩
 rw [h0] at c
 unfold bodE at c
 rw [if_pos h0] at c
 exact c
theorem bodT_pure (l : List (List Nat)) (x : Value) : (SV.tup [.c (.sl (l.map bodyR)),.c (.v x)]).pureD:=by
 intro y hy
 simp only [List.mem_cons,List.not_mem_nil,or_false] at hy
 rcases hy with rfl | rfl <;> rfl

theorem ExportWhich_con (l marks : List Nat) (a : Nat) (h8 : ∀ c ∈ l,c < 256) (hm8 : ∀ c ∈ marks,c < 256) (ha : a < 256) : Con Tryz.prog 3 [.c (.sl (l.map brow)),.c (.sl (marks.map brow)),.c (.v (.int .u8 a))] [] (B true) []:=by
 refine C_mementolaw23_ExportWhich nl nl ?_
 simp only [cz,A_mementolaw23_ExportWhich,argL,objL,List.length_nil,Nat.zero_add,zX,simprocAttr]
 refine aR 16 ?_
 refine aBs 64 (fun Q hQ=>by simp (disch:=intros;contradiction) only [zS,↓reduceIte];exact hQ) ?_
 refine rC [] (mementolaw23_known_con) ?_
 refine aE ?_
 refine aF ?_
 refine aS 128 (fun Q hQ=>by simp (disch:=intros;contradiction) only [zS,zW,simprocAttr];repeat refine ⟨by ((simp;done)),?_⟩;exact hQ) ?_
 refine aw_cond _ rfl trivial (fun ht=>?_) (fun hf=>?_)
 ·skip
  try simp at ht
  simp only [zX]
  refine aR 288 ?_
  refine Fin.b (.inr rfl) rfl trivial ?_
  rfl
 try simp at hf
 simp only [zX]
 have hl : l.length≤60∧marks.length≤8:=by omega
 have cV:=Volume_con l h8 (by omega)
 have g0:=(seatV_good l).mono (show l.length / 4≤20 by omega)
 generalize seatV l = v at cV g0
 have hg:=g0.mono (show 20≤50000 by omega)
 have hwl:=g0.ws
 have hlen : lenV v = (v.ws.length : Int):=rfl
 obtain ⟨a1,a2,a3,a4,a5,a6,a7⟩:=vol_lims hg
 obtain ⟨t1,t2⟩:=kN_tm hg a
 obtain ⟨r,hr⟩ : ∃ r,r = (a : Int) % (lenV v - v.floor + 1):=⟨_,rfl⟩
 have hmm : (a : Int).tmod (lenV v - v.floor + 1) = r:=by rw [hr,Int.tmod_eq_emod_of_nonneg (by omega)]
 rw [← hr] at t1 t2
 have hmm2 : (a : Int) % (lenV v - v.floor + 1) = r:=hr.symm
 have hw1 : IntKind.i64.wrap (a : Int) = a:=w64 _ (by omega) (by omega)
 have hw2 : IntKind.i64.wrap (lenV v - v.floor) = lenV v - v.floor:=w64 _ (by omega) (by omega)
 have hw3 : IntKind.i64.wrap (lenV v - v.floor + 1) = lenV v - v.floor + 1:=w64 _ (by omega) (by omega)
 obtain ⟨t,htt⟩ : ∃ t,t = v.floor + r:=⟨_,rfl⟩
 have hw4 : IntKind.i64.wrap (v.floor + r) = t:=by rw [w64 _ (by omega) (by omega),htt]
 obtain ⟨cs,hcl,hcg,cM⟩:=chunks_con v marks hg (by omega) hm8
 refine aB 336 ?_
 refine rC [] (cV) ?_ (hs:=(by exact .inr ⟨volC_pure _,trivial⟩))
 refine aEs (fun Q hQ=>by simp (disch:=intros;contradiction) only [zS,vC_eq,simprocAttr];exact hQ) ?_
 refine aR 432 ?_
 refine aw_cond _ rfl trivial (fun ht=>?_) (fun hf=>?_)
 ·skip
  try simp at ht
  simp only [zX]
  refine aR 496 ?_
  refine Fin.b (.inr rfl) rfl trivial ?_
  rfl
 try simp at hf
 simp only [zX]
 have hh : ¬ v.hid = true:=by simpa using hf
 have hm0 : mayE v t t = 0:=mayE_ok.2 ⟨hh,by omega,by omega,by omega⟩
 refine aBDs 544 (fun Q hQ=>by simp (disch:=intros;contradiction) only [zS,hw1,simprocAttr];exact hQ) ?_
 refine rC [] (mementoref16_Len_con v) ?_
 refine aEDs (fun Q hQ=>by simp (disch:=first | (intros;contradiction) | omega | (simp only [zN];omega)) only [zS,zW,hw2,hw3,hw4,hmm2,simprocAttr];repeat refine ⟨by (omega),?_⟩;exact hQ) ?_
 refine aB 784 ?_
 refine RG.callo [] [] (cM) (.mk (by (repeat' (first | exact tr_nil | refine tr_cons ?_ ?_ | exact tr_sl | exact tr_agg (by repeat' (first | exact trivial | rfl | refine ⟨?_,?_⟩))))) (by trivial) (by simp) (by simp) (trivial) (by (simp [lkE_cons,lkE_nil];done)) (by (simp [Ent.pure];repeat' ((exact drows_ch _)))) (by simp) (by simp)) ?_
 refine aE ?_
 refine aR 880 ?_
 refine aw_loopK (X:={ x : Nat × List CH // x.1≤v.place.length∧x.2 = cs ++ fullL v x.1 }) [7,8] (fun x=>[(9,.c (.osl 5000)),(10,I x.1.1)]) [368] (fun x=>[(5000,.arr 35 7 (x.1.2.map chC) false)]) (fun x=>v.place.length - x.1.1) (⟨(0,cs),by simp only;omega,by simp [fullL]⟩) ?_ ?_
 ·skip
  simp only [keepS,keepE,Option.getD_some,lk_cons,lkE_cons,List.cons_append,List.nil_append,simprocAttr]
  refine Le.lit [] [(5000,816)] _ _ ?_ ?_ ?_ ?_
  ·simp only [zL,simprocAttr]
  ·simp only [zL,simprocAttr]
   all_goals (try ((repeat' ((exact drows_ch _)))))
  ·simp [rlook]
  ·(simp;done)
 rintro ⟨⟨n,acc⟩,hn,hacc⟩
 simp only [keepS,keepE,Option.getD_some,lk_cons,lkE_cons,List.cons_append,List.nil_append,simprocAttr]
 simp only [zX]
 simp only at hn hacc
 refine aS 928 (fun Q hQ=>by simp (disch:=intros;contradiction) only [zS,zW,simprocAttr];exact hQ) ?_
 refine aw_cond _ rfl trivial (fun ht=>?_) (fun hf=>?_)
 ·skip
  try simp at ht
  simp only [zX]
  have hn' : n < v.place.length:=by omega
  have cC:=Chunk_full hg hn' (to:=1000) (by omega)
  have hnx : acc ++ [chG v n v.ws.length] = cs ++ fullL v (n + 1):=by rw [hacc,List.append_assoc,fullL_succ]
  have hal : acc.length≤1000000:=by rw [hacc,List.length_append,fullL_len];omega
  generalize chG v n v.ws.length = c at cC hnx
  have e2 : List.map chC acc ++ [[.v (.int .i64 c.vol),.v (.int .i64 c.chunk),.v (.int .i64 c.count),.v (.int .i64 c.size),.v (.int .i64 c.mark),.v (.int .i64 c.floor),.sl (c.hist.map hrow)]] = (acc ++ [c]).map chC:=by rw [List.map_append];rfl
  refine aB 1040 ?_
  refine rC [] (cC) ?_ (hs:=(by exact .inr ⟨chC_pure _,trivial⟩))
  refine aEs (fun Q hQ=>by simp (disch:=intros;contradiction) only [zS,zW,chC,chO,e2,simprocAttr];repeat refine ⟨by ((simp;omega)),?_⟩;exact hQ) ?_
  refine aS 1184 (fun Q hQ=>by simp (disch:=first | (intros;contradiction) | omega | (simp only [zN];omega)) only [zS,zW,simprocAttr];exact hQ) ?_
  refine ⟨⟨(n + 1,acc ++ [c]),by simp only;omega,hnx⟩,?_,by first | omega | (simp only;omega)⟩
  refine Le.lit [] [(5000,1120)] _ _ ?_ ?_ ?_ ?_
  ·simp only [zL,simprocAttr]
   all_goals (try ((repeat' (rfl))))
  ·simp only [zL,simprocAttr]
   all_goals (try ((repeat' ((exact drows_ch _)))))
  ·simp [rlook]
  ·(simp;done)
 try simp at hf
 simp only [zX,↓reduceIte]
 obtain rfl : n = v.place.length:=by omega
 have hgf : ∀ c ∈ acc,Gch v c:=fun c hc=>by
  rw [hacc] at hc
  rcases List.mem_append.1 hc with hc | hc
  ·exact hcg c hc
  ·exact fullL_good (Nat.le_refl _) c hc
 have hmf : ∀ i,i < v.place.length→chG v (i : Int) v.ws.length ∈ acc:=fun i hi=>by rw [hacc];exact List.mem_append.2 (.inr (fullL_mem hi))
 have hal : acc.length≤1000000:=by rw [hacc,List.length_append,fullL_len];omega
 have cF:=export_Full_con v acc t hg hal hgf
 rw [strS_full hg hgf hmf hm0] at cF
 have cS:=state_in hg (t:=t) (by omega) (by omega)
 have hsl : (fullS v t).items.length≤1000000:=by simp [fullS];omega
 have cB:=Blocks_con (fullS v t) hsl
 rw [blocks_full hg (by omega) (by omega)] at cB
 have hb8:=bodV_8 t g0.by8
 have hbl:=bodV_len v t
 have cD:=Bodies_con (bodV v t) (bodV v t) (by omega) hb8 hb8
 simp only [decide_true] at cD
 generalize bodV v t = bd at cS cB cD
 generalize fullS v t = s at cF cB
 refine aB 1264 ?_
 refine RG.callo [] [5000] (cF) (.mk (by (repeat' (first | exact tr_nil | refine tr_cons ?_ ?_ | exact tr_v | exact tr_agg (by (repeat' (first | exact trivial | rfl | refine ⟨?_,?_⟩))) | exact tr_view (by simp) rfl (by (exact drows_ch _))))) (by trivial) (by simp) (by simp) (views1 rfl trivial) (by (simp [lkE_cons,lkE_nil];done)) (by (simp [Ent.pure];done)) (by simp) (by simp)) ?_
 refine aEs (fun Q hQ=>by simp (disch:=intros;contradiction) only [zS,strC,simprocAttr];exact hQ) ?_
 refine aB 1456 ?_
 refine rC [] (cS) ?_ (hs:=(by exact .inr ⟨bodT_pure _ _,trivial⟩))
 refine aE ?_
 refine aB 1616 ?_
 refine rG _ _ (cB) ?_
 refine aM ?_
 refine rG _ _ (cD) ?_
 refine aE ?_
 refine Fin.b (.inr rfl) rfl trivial ?_
 simp

theorem ExportWhich_law (l : List Nat) (hl : (∀ c ∈ l,c < 256)∧l.length≤9223372036854775807) (marks : List Nat) (hm : (∀ c ∈ marks,c < 256)∧marks.length≤9223372036854775807) (a : Nat) (ha : a < 256) : Con Tryz.prog 3 [.c (.sl (l.map brow)),.c (.sl (marks.map brow)),.c (.v (.int .u8 a))] [] (B true) []:=ExportWhich_con l marks a hl.1 hm.1 ha

end Go.Abs

namespace Go.Abs
open Go Go.Proofs
set_option maxRecDepth 100000
set_option linter.unusedSimpArgs false
set_option maxHeartbeats 8000000

theorem drows_str (l : List STR) : isDRows (l.map strC):=by
 intro r hr c hc
 obtain ⟨p,_,rfl⟩:=List.mem_map.1 hr
 exact strC_pure p c hc
def mergeS (a b : STR) : STR:=⟨a.blocks,a.size,a.frm,b.to,mergeI a.items b.items⟩
theorem merge_left {x y : IT} {a b : List IT} (h : x.b < y.b) : mergeI (x :: a) (y :: b) = x :: mergeI a (y :: b):=by rw [mergeI,if_pos h]
theorem merge_both {x y : IT} {a b : List IT} (h : x.b = y.b) : mergeI (x :: a) (y :: b) = y :: mergeI a b:=by rw [mergeI,if_neg (by omega),if_pos h]
theorem merge_right {x y : IT} {a b : List IT} (h : y.b < x.b) : mergeI (x :: a) (y :: b) = y :: mergeI (x :: a) b:=by rw [mergeI,if_neg (by omega),if_neg (by omega)]

theorem merged_con (a b : STR) (ha : a.items.length≤1000000) (hb : b.items.length≤1000000) : Con Tryz.prog 48 [.agg (strC a),.agg (strC b)] [] (.agg (strC (mergeS a b))) []:=by
 refine C_mementoref21_merged nl nl ?_
 simp only [cz,A_mementoref21_merged,argL,objL,List.length_nil,Nat.zero_add,zX]
 refine aS 16 (fun Q hQ=>by simp (disch:=intros;contradiction) only [zS,strC,simprocAttr];exact hQ) ?_
 refine aR 96 ?_
 refine aR 304 ?_
 refine aw_loopK (X:={ x : Nat × Nat × List IT // x.1≤a.items.length∧x.2.1≤b.items.length∧x.2.2.length≤x.1 + x.2.1∧x.2.2 ++ mergeI (a.items.drop x.1) (b.items.drop x.2.1) = mergeI a.items b.items }) [2,3,4,5] (fun x=>[(6,I x.1.1),(7,I x.1.2.1)]) [16,32,48] (fun x=>[(240,.box [.v (.int .i64 a.blocks),.v (.int .i64 a.size),.v (.int .i64 a.frm),.v (.int .i64 b.to),.osl 5000]),(5000,.arr 96 2 (x.1.2.2.map irow) false)]) (fun x=>(a.items.length - x.1.1) + (b.items.length - x.1.2.1)) (⟨(0,0,[]),by simp only;omega,by simp only;omega,by simp,by simp⟩) ?_ ?_
 ·skip
  simp only [keepS,keepE,Option.getD_some,lk_cons,lkE_cons,List.cons_append,List.nil_append,simprocAttr]
  refine (Le.ownB 240 4 5000 _ 96 2 rfl rfl rfl (by decide)).trans ?_
  simp only [List.set_cons_succ,List.set_cons_zero,setE_cons,setE_nil,simprocAttr]
  refine Le.lit [] [] _ _ ?_ ?_ ?_ ?_
  ·simp only [zL,simprocAttr]
  ·simp only [zL,simprocAttr]
   all_goals (try ((repeat' (((simp [C.isD];done))))))
  ·simp [rlook]
  ·(simp;done)
 rintro ⟨⟨i,k,acc⟩,hi,hk,hal,hm⟩
 simp only [keepS,keepE,Option.getD_some,lk_cons,lkE_cons,List.cons_append,List.nil_append,simprocAttr]
 simp only [zX]
 simp only at hi hk hal hm
 refine aS 368 (fun Q hQ=>by simp (disch:=intros;contradiction) only [zS,zW,simprocAttr];repeat refine ⟨by ((simp;done)),?_⟩;exact hQ) ?_
 refine aw_cond _ rfl trivial (fun ht=>?_) (fun hf=>?_)
 ·skip
  try simp at ht
  simp only [zX]
  by_cases hk2 : b.items.length≤k
  ·skip
   have hi' : i < a.items.length:=by omega
   have hkb : b.items.drop k = []:=List.drop_of_length_le hk2
   have hd1 : decide ((b.items.length : Int)≤(k : Int)) = true:=by simp;omega
   obtain ⟨y,hy⟩ : ∃ y,a.items[i] = y:=⟨_,rfl⟩
   rw [hkb,mergeI_nil,drop_get hi',hy] at hm
   have e2 : List.map irow acc ++ [[.v (.int .i64 y.b),.sl (y.d.map brow)]] = (acc ++ [y]).map irow:=by rw [List.map_append];rfl
   refine aSD 592 (fun Q hQ=>by simp (disch:=first | (intros;contradiction) | omega | (simp only [zN];omega)) only [zS,zW,irow,itC,hy,hd1,simprocAttr];exact hQ) ?_
   refine aT ?_
   refine aw_draw 1072 (RG.go fun Q hQ=>?_)
   simp (disch:=first | (intros;contradiction) | omega | (simp only [zN];omega)) only [zS,zW,irow,itC,hy,e2,simprocAttr]
   repeat refine ⟨by (first | omega | (simp;omega)),?_⟩
   refine hQ (RG.nil ⟨by decide +kernel,?_⟩)
   simp only [zX]
   refine aS 1280 (fun Q hQ=>by simp (disch:=first | (intros;contradiction) | omega | (simp only [zN];omega)) only [zS,zW,simprocAttr];exact hQ) ?_
   refine ⟨⟨(i + 1,k,acc ++ [y]),by simp only;omega,by simp only;omega,by simp;omega,by simp only;rw [hkb,mergeI_nil,← hm,List.append_assoc];rfl⟩,?_,by first | omega | (simp only;omega)⟩
   refine Le.lit [] [(5000,1200)] _ _ ?_ ?_ ?_ ?_
   ·simp only [zL,simprocAttr]
    all_goals (try ((repeat' (rfl))))
   ·simp only [zL,simprocAttr]
    all_goals (try ((repeat' ((exact drows_irow _)))))
   ·simp [rlook]
   ·(simp;done)
  have hk' : k < b.items.length:=by omega
  have hd2 : decide ((b.items.length : Int)≤(k : Int)) = false:=by simp;omega
  by_cases hi2 : a.items.length≤i
  ·skip
   have hia : a.items.drop i = []:=List.drop_of_length_le hi2
   have hd3 : decide ((i : Int) < (a.items.length : Int)) = false:=by simp;omega
   obtain ⟨y,hy⟩ : ∃ y,b.items[k] = y:=⟨_,rfl⟩
   rw [hia,drop_get hk',hy] at hm
   have hm' : acc ++ y :: b.items.drop (k + 1) = mergeI a.items b.items:=by rw [← hm];simp [mergeI]
   have e2 : List.map irow acc ++ [[.v (.int .i64 y.b),.sl (y.d.map brow)]] = (acc ++ [y]).map irow:=by rw [List.map_append];rfl
   refine aSD 1360 (fun Q hQ=>by simp (disch:=first | (intros;contradiction) | omega | (simp only [zN];omega)) only [zS,zW,irow,itC,hy,hd2,hd3,simprocAttr];exact hQ) ?_
   refine aF ?_
   refine aSD 1840 (fun Q hQ=>by simp (disch:=first | (intros;contradiction) | omega | (simp only [zN];omega)) only [zS,zW,irow,itC,hy,hd3,simprocAttr];exact hQ) ?_
   refine aF ?_
   refine aw_draw 2192 (RG.go fun Q hQ=>?_)
   simp (disch:=first | (intros;contradiction) | omega | (simp only [zN];omega)) only [zS,zW,irow,itC,hy,e2,simprocAttr]
   repeat refine ⟨by (first | omega | (simp;omega)),?_⟩
   refine hQ (RG.nil ⟨by decide +kernel,?_⟩)
   simp only [zX]
   refine aS 2400 (fun Q hQ=>by simp (disch:=first | (intros;contradiction) | omega | (simp only [zN];omega)) only [zS,zW,simprocAttr];exact hQ) ?_
   refine ⟨⟨(i,k + 1,acc ++ [y]),by simp only;omega,by simp only;omega,by simp;omega,by simp only;rw [hia,← hm',show mergeI [] (b.items.drop (k + 1)) = b.items.drop (k + 1) by simp [mergeI],List.append_assoc];rfl⟩,?_,by first | omega | (simp only;omega)⟩
   refine Le.lit [] [(5000,2320)] _ _ ?_ ?_ ?_ ?_
   ·simp only [zL,simprocAttr]
    all_goals (try ((repeat' (rfl))))
   ·simp only [zL,simprocAttr]
    all_goals (try ((repeat' ((exact drows_irow _)))))
   ·simp [rlook]
   ·(simp;done)
  have hi' : i < a.items.length:=by omega
  obtain ⟨y,hy⟩ : ∃ y,a.items[i] = y:=⟨_,rfl⟩
  obtain ⟨z,hz⟩ : ∃ z,b.items[k] = z:=⟨_,rfl⟩
  have hda:=drop_get hi'
  have hdb:=drop_get hk'
  rw [hda,hdb,hy,hz] at hm
  rw [hy] at hda
  rw [hz] at hdb
  have e2 : List.map irow acc ++ [[.v (.int .i64 y.b),.sl (y.d.map brow)]] = (acc ++ [y]).map irow:=by rw [List.map_append];rfl
  have e3 : List.map irow acc ++ [[.v (.int .i64 z.b),.sl (z.d.map brow)]] = (acc ++ [z]).map irow:=by rw [List.map_append];rfl
  have hd4 : decide ((i : Int) < (a.items.length : Int)) = true:=by simp;omega
  refine aw_draw 2480 (RG.go fun Q hQ=>?_)
  simp (disch:=first | (intros;contradiction) | omega | (simp only [zN];omega)) only [zS,zW,irow,itC,hy,hz,hd2,hd4,simprocAttr]
  repeat refine ⟨by (omega),?_⟩
  refine hQ (RG.nil ⟨by decide +kernel,?_⟩)
  simp only [zX]
  refine aw_cond _ rfl trivial (fun ht=>?_) (fun hf=>?_)
  ·skip
   try simp at ht
   simp only [zX]
   rw [merge_left (by omega)] at hm
   refine aw_draw 2960 (RG.go fun Q hQ=>?_)
   simp (disch:=first | (intros;contradiction) | omega | (simp only [zN];omega)) only [zS,zW,irow,itC,hy,e2,simprocAttr]
   repeat refine ⟨by (first | omega | (simp;omega)),?_⟩
   refine hQ (RG.nil ⟨by decide +kernel,?_⟩)
   simp only [zX]
   refine aS 3168 (fun Q hQ=>by simp (disch:=first | (intros;contradiction) | omega | (simp only [zN];omega)) only [zS,zW,simprocAttr];exact hQ) ?_
   refine ⟨⟨(i + 1,k,acc ++ [y]),by simp only;omega,by simp only;omega,by simp;omega,by simp only;rw [hdb,← hm,List.append_assoc];rfl⟩,?_,by first | omega | (simp only;omega)⟩
   refine Le.lit [] [(5000,3088)] _ _ ?_ ?_ ?_ ?_
   ·simp only [zL,simprocAttr]
    all_goals (try ((repeat' (rfl))))
   ·simp only [zL,simprocAttr]
    all_goals (try ((repeat' ((exact drows_irow _)))))
   ·simp [rlook]
   ·(simp;done)
  try simp at hf
  simp only [zX]
  refine aw_draw 3248 (RG.go fun Q hQ=>?_)
  simp (disch:=first | (intros;contradiction) | omega | (simp only [zN];omega)) only [zS,zW,irow,itC,hy,hz,hd4,simprocAttr]
  repeat refine ⟨by (omega),?_⟩
  refine hQ (RG.nil ⟨by decide +kernel,?_⟩)
  simp only [zX]
  refine aw_cond _ rfl trivial (fun ht=>?_) (fun hf=>?_)
  ·skip
   try simp at ht
   rw [merge_both (by omega)] at hm
   refine aS 3600 (fun Q hQ=>by simp (disch:=first | (intros;contradiction) | omega | (simp only [zN];omega)) only [zS,zW,simprocAttr];exact hQ) ?_
   refine aw_draw 3680 (RG.go fun Q hQ=>?_)
   simp (disch:=first | (intros;contradiction) | omega | (simp only [zN];omega)) only [zS,zW,irow,itC,hz,e3,simprocAttr]
   repeat refine ⟨by (first | omega | (simp;omega)),?_⟩
   refine hQ (RG.nil ⟨by decide +kernel,?_⟩)
   simp only [zX]
   refine aS 3888 (fun Q hQ=>by simp (disch:=first | (intros;contradiction) | omega | (simp only [zN];omega)) only [zS,zW,simprocAttr];exact hQ) ?_
   refine ⟨⟨(i + 1,k + 1,acc ++ [z]),by simp only;omega,by simp only;omega,by simp;omega,by simp only;rw [← hm,List.append_assoc];rfl⟩,?_,by first | omega | (simp only;omega)⟩
   refine Le.lit [] [(5000,3808)] _ _ ?_ ?_ ?_ ?_
   ·simp only [zL,simprocAttr]
    all_goals (try ((repeat' ((simp;done)))))
   ·simp only [zL,simprocAttr]
    all_goals (try ((repeat' ((exact drows_irow _)))))
   ·simp [rlook]
   ·(simp;done)
  try simp at hf
  simp only [zX]
  rw [merge_right (by omega)] at hm
  refine aw_draw 3968 (RG.go fun Q hQ=>?_)
  simp (disch:=first | (intros;contradiction) | omega | (simp only [zN];omega)) only [zS,zW,irow,itC,hz,e3,simprocAttr]
  repeat refine ⟨by (first | omega | (simp;omega)),?_⟩
  refine hQ (RG.nil ⟨by decide +kernel,?_⟩)
  simp only [zX]
  refine aS 4176 (fun Q hQ=>by simp (disch:=first | (intros;contradiction) | omega | (simp only [zN];omega)) only [zS,zW,simprocAttr];exact hQ) ?_
  refine ⟨⟨(i,k + 1,acc ++ [z]),by simp only;omega,by simp only;omega,by simp;omega,by simp only;rw [hda,← hm,List.append_assoc];rfl⟩,?_,by first | omega | (simp only;omega)⟩
  refine Le.lit [] [(5000,4096)] _ _ ?_ ?_ ?_ ?_
  ·simp only [zL,simprocAttr]
   all_goals (try ((repeat' (rfl))))
  ·simp only [zL,simprocAttr]
   all_goals (try ((repeat' ((exact drows_irow _)))))
  ·simp [rlook]
  ·(simp;done)
 try simp at hf
 simp only [zX,↓reduceIte]
 obtain rfl : i = a.items.length:=by omega
 obtain rfl : k = b.items.length:=by omega
 have : acc = mergeI a.items b.items:=by rw [← hm,List.drop_length,List.drop_length];simp [mergeI]
 have e : mergeS a b = ⟨a.blocks,a.size,a.frm,b.to,acc⟩:=by unfold mergeS;rw [this]
 rw [e]
 refine aR 4256 ?_
 refine Fin.data [5000] (.inr rfl) rfl (by (exact ⟨trivial,trivial⟩)) ?_
 simp only [zL,simprocAttr]
 all_goals ((repeat' (first | exact trivial | rfl | (refine ⟨⟨_,_,rfl⟩,?_⟩;(exact drows_irow _)) | refine ⟨?_,?_⟩)))

theorem Follows_con (a b : STR) (ha : a.items.length≤1000000) (hb : b.items.length≤1000000) (h1 : strR a = true) (h2 : strR b = true) (h3 : a.blocks = b.blocks) (h4 : a.size = b.size) (h5 : b.frm = a.to) : Con Tryz.prog 75 [.agg (strC a),.agg (strC b)] [] (B true) []:=by
 have c1:=Right21_con a ha
 have c2:=Right21_con b hb
 rw [h1] at c1
 rw [h2] at c2
 refine C_mementoref21_Follows nl nl ?_
 simp only [cz,A_mementoref21_Follows,argL,objL,List.length_nil,Nat.zero_add,zX]
 refine aS 16 (fun Q hQ=>by simp (disch:=intros;contradiction) only [zS,strC,simprocAttr];exact hQ) ?_
 refine aB 96 ?_
 refine rC [] (c1) ?_
 refine aM ?_
 refine rG _ _ (c2) ?_
 refine aE ?_
 refine Fin.b (.inr rfl) rfl trivial ?_
 simp [h3,h4,h5]

structure ChainS (l : List STR) : Prop where
 pos : 0 < l.length
 right : ∀ s ∈ l,strR s = true
 first : (l[0]'pos).frm < 0
 next : ∀ (i : Nat) (h : i + 1 < l.length),l[i].blocks = l[i + 1].blocks∧l[i].size = l[i + 1].size∧l[i + 1].frm = l[i].to
 len : ∀ s ∈ l,s.items.length≤1000
theorem bad_con (l : List STR) (h : ChainS l) (hl : l.length≤1000000) : Con Tryz.prog 47 [.c (.sl (l.map strC))] [] (I (-1)) []:=by
 obtain ⟨h0,h1,h2,h3,h4⟩:=h
 obtain ⟨s,hs⟩ : ∃ s,l[0] = s:=⟨_,rfl⟩
 have hsm : s ∈ l:=by rw [← hs];exact List.getElem_mem h0
 have c1:=Right21_con s (by have:=h4 s hsm;omega)
 rw [h1 s hsm] at c1
 rw [hs] at h2
 have hd0 : ((l.length : Int) == 0) = false:=by rw [beq_eq_false_iff_ne];omega
 have hd5 : decide (0≤s.frm) = false:=by simp;omega
 refine C_mementoref21_bad nl nl ?_
 simp only [cz,A_mementoref21_bad,argL,objL,List.length_nil,zX]
 refine aR 16 ?_
 refine aBs 64 (fun Q hQ=>by simp (disch:=first | (intros;contradiction) | omega | (simp only [zN];omega)) only [zS,zW,strC,hs,hd0,simprocAttr];repeat refine ⟨by (omega),?_⟩;exact hQ) ?_
 refine rG _ _ (c1) ?_
 refine aEs (fun Q hQ=>by simp (disch:=first | (intros;contradiction) | omega | (simp only [zN];omega)) only [zS,zW,strC,hs,hd5,simprocAttr];repeat refine ⟨by (omega),?_⟩;exact hQ) ?_
 refine aF ?_
 refine aR 368 ?_
 refine aw_loopK (X:={ i : Nat // 1≤i∧i≤l.length }) [0] (fun i=>[(3,I i.1)]) [] (fun i=>[]) (fun i=>l.length - i.1) (⟨1,by omega⟩) ?_ ?_
 ·skip
  simp only [keepS,keepE,lk_cons,List.cons_append,List.nil_append,↓reduceIte]
  refine Le.lit [] [] _ _ ?_ ?_ ?_ ?_
  ·simp only [zL,simprocAttr]
  ·simp only [zL,simprocAttr]
  ·simp [rlook]
  ·(simp;done)
 rintro ⟨i,hi1,hi⟩
 simp only [keepS,keepE,lk_cons,List.cons_append,List.nil_append,↓reduceIte]
 simp only [zX]
 refine aS 416 (fun Q hQ=>by simp (disch:=intros;contradiction) only [zS,zW,simprocAttr];exact hQ) ?_
 refine aw_cond _ rfl trivial (fun ht=>?_) (fun hf=>?_)
 ·skip
  try simp at ht
  simp only [zX]
  have hi' : i < l.length:=by omega
  have hp : i - 1 < l.length:=by omega
  have hw : IntKind.i64.wrap ((i : Int) - 1) = ((i - 1 : Nat) : Int):=by rw [w64 _ (by omega) (by omega)];omega
  have hn:=h3 (i - 1) (by omega)
  have ea : l[i - 1 + 1]'(by omega) = l[i]:=by congr 1;omega
  rw [ea] at hn
  obtain ⟨a,haa⟩ : ∃ a,l[i - 1] = a:=⟨_,rfl⟩
  obtain ⟨b,hbb⟩ : ∃ b,l[i] = b:=⟨_,rfl⟩
  have ham : a ∈ l:=by rw [← haa];exact List.getElem_mem hp
  have hbm : b ∈ l:=by rw [← hbb];exact List.getElem_mem hi'
  rw [haa,hbb] at hn
  have cF:=Follows_con a b (by have:=h4 a ham;omega) (by have:=h4 b hbm;omega) (h1 a ham) (h1 b hbm) hn.1 hn.2.1 hn.2.2
  refine aw_draw 512 (RG.go fun Q hQ=>?_)
  simp (disch:=first | (intros;contradiction) | omega | (simp only [zN];omega)) only [zS,zW,strC,haa,hbb,hw,simprocAttr]
  repeat refine ⟨by (omega),?_⟩
  refine hQ ?_
  refine rC [] (cF) ?_
  refine aED ?_
  refine aF ?_
  refine aS 720 (fun Q hQ=>by simp (disch:=first | (intros;contradiction) | omega | (simp only [zN];omega)) only [zS,zW,simprocAttr];exact hQ) ?_
  refine ⟨⟨i + 1,by omega,by omega⟩,?_,by first | omega | (simp only;omega)⟩
  refine Le.lit [] [] _ _ ?_ ?_ ?_ ?_
  ·simp only [zL,simprocAttr]
   all_goals (try ((repeat' (rfl))))
  ·simp only [zL,simprocAttr]
  ·simp [rlook]
  ·(simp;done)
 try simp at hf
 simp only [zX,↓reduceIte]
 refine aR 800 ?_
 refine Fin.i (.inr rfl) rfl trivial ?_
 rfl

def allS : List STR→STR
 | []=>zeroS
 | s :: l=>l.foldl mergeS s
theorem mergeI_len : ∀ (a b : List IT),(mergeI a b).length≤a.length + b.length
 | [],b=>by simp [mergeI]
 | x :: a,[]=>by simp [mergeI]
 | x :: a,y :: b=>by
  rw [mergeI]
  split
  ·have:=mergeI_len a (y :: b);simp only [List.length_cons] at this ⊢;omega
  split
  ·have:=mergeI_len a b;simp only [List.length_cons] at this ⊢;omega
  ·have:=mergeI_len (x :: a) b;simp only [List.length_cons] at this ⊢;omega
termination_by a b=>a.length + b.length
theorem fold_len : ∀ (l : List STR) (s : STR),(∀ x ∈ l,x.items.length≤1000)→(l.foldl mergeS s).items.length≤s.items.length + l.length * 1000
 | [],s,_=>by simp
 | x :: l,s,h=>by
  have h1:=fold_len l (mergeS s x) fun y hy=>h y (by simp [hy])
  have h2:=h x (by simp)
  have h3:=mergeI_len s.items x.items
  have h4 : (mergeS s x).items = mergeI s.items x.items:=rfl
  rw [h4] at h1
  rw [List.foldl_cons,List.length_cons];omega
theorem cons_at {s : STR} {l l' : List STR} (h : l = s :: l') {i : Nat} (h1 : 1≤i) (hi : i < l.length) : ∃ h2 : i - 1 < l'.length,l'[i - 1] = l[i]:=by
 subst h
 obtain ⟨j,rfl⟩ : ∃ j,i = j + 1:=⟨i - 1,by omega⟩
 exact ⟨by simpa using hi,by simp⟩
theorem All_con (l : List STR) (h : ChainS l) (hl : l.length≤100) : Con Tryz.prog 25 [.c (.sl (l.map strC))] [] (.tup [.agg (strC (allS l)),I 0]) []:=by
 have cB:=bad_con l h (by omega)
 obtain ⟨h0,h1,h2,h3,h4⟩:=h
 obtain ⟨s,l',hl'⟩ : ∃ s l',l = s :: l':=by
  cases l with
  | nil=>simp at h0
  | cons s l'=>exact ⟨s,l',rfl⟩
 have hs : l[0] = s:=by subst hl';rfl
 have hsm : s ∈ l:=by rw [← hs];exact List.getElem_mem h0
 have hs0:=h4 s hsm
 have hm' : ∀ x ∈ l',x ∈ l:=fun x hx=>by rw [hl'];simp [hx]
 have hll : l.length = l'.length + 1:=by rw [hl'];rfl
 have hA : allS l = l'.foldl mergeS s:=by rw [hl'];rfl
 refine C_mementoref21_All nl nl ?_
 simp only [cz,A_mementoref21_All,argL,objL,List.length_nil,zX]
 refine aR 16 ?_
 refine aR 80 ?_
 refine aw_loopK (X:={ i : Nat // i≤l.length }) [0,2] (fun i=>[(4,I i.1)]) [16] (fun i=>[]) (fun i=>l.length - i.1) (⟨0,by omega⟩) ?_ ?_
 ·skip
  simp only [keepS,keepE,Option.getD_some,lk_cons,lkE_cons,List.cons_append,List.nil_append,simprocAttr]
  refine Le.lit [] [] _ _ ?_ ?_ ?_ ?_
  ·simp only [zL,simprocAttr]
  ·simp only [zL,↓reduceIte]
  ·simp [rlook]
  ·(simp;done)
 rintro ⟨i,hi⟩
 simp only [keepS,keepE,Option.getD_some,lk_cons,lkE_cons,List.cons_append,List.nil_append,simprocAttr]
 simp only [zX]
 refine aS 128 (fun Q hQ=>by simp (disch:=intros;contradiction) only [zS,zW,simprocAttr];exact hQ) ?_
 refine aw_cond _ rfl trivial (fun ht=>?_) (fun hf=>?_)
 ·skip
  try simp at ht
  simp only [zX]
  have hi' : i < l.length:=by omega
  obtain ⟨a,haa⟩ : ∃ a,l[i] = a:=⟨_,rfl⟩
  have ham : a ∈ l:=by rw [← haa];exact List.getElem_mem hi'
  have cR:=Right21_con a (by have:=h4 a ham;omega)
  rw [h1 a ham] at cR
  refine aBs 224 (fun Q hQ=>by simp (disch:=first | (intros;contradiction) | omega | (simp only [zN];omega)) only [zS,zW,strC,haa,simprocAttr];repeat refine ⟨by (omega),?_⟩;exact hQ) ?_
  refine rC [] (cR) ?_
  refine aE ?_
  refine aF ?_
  refine aS 352 (fun Q hQ=>by simp (disch:=first | (intros;contradiction) | omega | (simp only [zN];omega)) only [zS,zW,simprocAttr];exact hQ) ?_
  refine ⟨⟨i + 1,hi'⟩,?_,by first | omega | (simp only;omega)⟩
  refine Le.lit [] [] _ _ ?_ ?_ ?_ ?_
  ·simp only [zL,simprocAttr]
   all_goals (try ((repeat' (rfl))))
  ·simp only [zL,↓reduceIte]
  ·simp [rlook]
  ·(simp;done)
 try simp at hf
 simp only [zX,↓reduceIte]
 refine aB 432 ?_
 refine rC [] (cB) ?_
 refine aE ?_
 refine aF ?_
 refine aS 512 (fun Q hQ=>by simp (disch:=first | (intros;contradiction) | omega | (simp only [zN];omega)) only [zS,zW,strC,hs,simprocAttr];repeat refine ⟨by (omega),?_⟩;exact hQ) ?_
 refine aR 624 ?_
 refine aw_loopK (X:={ x : Nat × STR // 1≤x.1∧x.1≤l.length∧x.2 = (l'.take (x.1 - 1)).foldl mergeS s }) [0,2,5] (fun x=>[(6,I x.1.1)]) [16] (fun x=>[(560,.box [.v (.int .i64 x.1.2.blocks),.v (.int .i64 x.1.2.size),.v (.int .i64 x.1.2.frm),.v (.int .i64 x.1.2.to),.sl (x.1.2.items.map irow)])]) (fun x=>l.length - x.1.1) (⟨(1,s),by simp only;omega,by simp only;omega,by simp⟩) ?_ ?_
 ·skip
  simp only [keepS,keepE,Option.getD_some,lk_cons,lkE_cons,List.cons_append,List.nil_append,simprocAttr]
  refine Le.lit [] [] _ _ ?_ ?_ ?_ ?_
  ·simp only [zL,simprocAttr]
  ·simp only [zL,simprocAttr]
  ·simp [rlook]
  ·(simp;done)
 rintro ⟨⟨i,acc⟩,hi1,hi,hacc⟩
 simp only [keepS,keepE,Option.getD_some,lk_cons,lkE_cons,List.cons_append,List.nil_append,simprocAttr]
 simp only [zX]
 simp only at hi1 hi hacc
 refine aS 672 (fun Q hQ=>by simp (disch:=intros;contradiction) only [zS,zW,simprocAttr];exact hQ) ?_
 refine aw_cond _ rfl trivial (fun ht=>?_) (fun hf=>?_)
 ·skip
  try simp at ht
  simp only [zX]
  have hi' : i < l.length:=by omega
  obtain ⟨a,haa⟩ : ∃ a,l[i] = a:=⟨_,rfl⟩
  have ham : a ∈ l:=by rw [← haa];exact List.getElem_mem hi'
  have hal:=h4 a ham
  have hfl:=fold_len (l'.take (i - 1)) s fun x hx=>h4 x (hm' x (List.mem_of_mem_take hx))
  rw [← hacc,List.length_take] at hfl
  have cM:=merged_con acc a (by omega) (by omega)
  have hnx : mergeS acc a = (l'.take (i + 1 - 1)).foldl mergeS s:=by
   obtain ⟨h5,h6⟩:=cons_at hl' hi1 hi'
   rw [show i + 1 - 1 = i - 1 + 1 by omega,take_one _ _ h5,List.foldl_append,h6,haa,← hacc];rfl
  generalize mergeS acc a = nx at cM hnx
  refine aBDs 768 (fun Q hQ=>by simp (disch:=first | (intros;contradiction) | omega | (simp only [zN];omega)) only [zS,zW,strC,haa,simprocAttr];repeat refine ⟨by (omega),?_⟩;exact hQ) ?_
  refine rC [] (cM) ?_ (hs:=(by exact .inr ⟨strC_pure _,trivial⟩))
  refine aEDs (fun Q hQ=>by simp (disch:=intros;contradiction) only [zS,strC,simprocAttr];exact hQ) ?_
  refine aS 912 (fun Q hQ=>by simp (disch:=first | (intros;contradiction) | omega | (simp only [zN];omega)) only [zS,zW,simprocAttr];exact hQ) ?_
  refine ⟨⟨(i + 1,nx),by simp only;omega,by simp only;omega,hnx⟩,?_,by first | omega | (simp only;omega)⟩
  refine Le.lit [] [] _ _ ?_ ?_ ?_ ?_
  ·simp only [zL,simprocAttr]
   all_goals (try ((repeat' (rfl))))
  ·simp only [zL,simprocAttr]
  ·simp [rlook]
  ·(simp;done)
 try simp at hf
 simp only [zX,↓reduceIte]
 obtain rfl : i = l.length:=by omega
 have hend : acc = allS l:=by rw [hacc,hA,hll];simp
 rw [← hend]
 refine aR 992 ?_
 refine Fin.data [] (.inr rfl) rfl (by (exact ⟨trivial,trivial⟩)) ?_
 simp only [zL,simprocAttr]
 all_goals ((repeat' (first | exact trivial | rfl | refine ⟨?_,?_⟩)))

end Go.Abs

namespace Go.Abs
open Go Go.Proofs
set_option maxRecDepth 100000
set_option linter.unusedSimpArgs false
set_option maxHeartbeats 8000000

theorem merge_full {v : VOL} {f t : Int} {P : Nat→Bool} (h : ∀ i,i < v.blocks.toNat→P i = false→bI v f i = bI v t i) : mergeS (fullS v f) ⟨v.blocks,v.size,f,t,((List.range v.blocks.toNat).filter P).map (bI v t)⟩ = fullS v t:=by
 unfold mergeS fullS
 simp only
 rw [merge_map (fun i=>rfl) (fun i=>rfl) _ List.pairwise_lt_range fun i hi hp=>h i (List.mem_range.1 hi) hp]
theorem allS_snoc {l : List STR} (h : 0 < l.length) (x : STR) : allS (l ++ [x]) = mergeS (allS l) x:=by
 cases l with
 | nil=>simp at h
 | cons s l=>simp [allS,List.foldl_append]
structure StOk (v : VOL) (l : List STR) (t : Int) : Prop where
 fl : v.floor≤t
 le : t≤lenV v
 first : 0 < l.length→ChainS l∧allS l = fullS v t∧∀ h : l.length - 1 < l.length,l[l.length - 1].to = t∧l[l.length - 1].blocks = v.blocks∧l[l.length - 1].size = v.size
 none : l.length = 0→t = v.floor
theorem fullS_len (v : VOL) (t : Int) : (fullS v t).items.length = v.blocks.toNat:=by simp [fullS]
theorem StOk.one {v : VOL} (hg : Vgood v 50000) {t : Int} (h1 : v.floor≤t) (h2 : t≤lenV v) : StOk v [fullS v t] t:=by
 obtain ⟨a1,a2,a3,a4,a5,a6,a7⟩:=vol_lims hg
 have hl:=fullS_len v t
 refine ⟨h1,h2,fun _=>⟨⟨by simp,fun s hs=>?_,by show (-1 : Int) < 0;omega,fun i h=>by simp at h,fun s hs=>?_⟩,rfl,fun _=>⟨rfl,rfl,rfl⟩⟩,fun h=>by simp at h⟩
 ·simp only [List.mem_singleton] at hs;subst hs;exact strR_full hg (by omega) h2
 ·simp only [List.mem_singleton] at hs;subst hs;omega
theorem StOk.more {v : VOL} (hg : Vgood v 50000) {l : List STR} {f t : Int} {P : Nat→Bool} (h : StOk v l f) (hl : 0 < l.length) (h1 : f≤t) (h2 : t≤lenV v) (hP : ∀ i,i < v.blocks.toNat→P i = false→bI v f i = bI v t i) :
  StOk v (l ++ [⟨v.blocks,v.size,f,t,((List.range v.blocks.toNat).filter P).map (bI v t)⟩]) t:=by
 obtain ⟨a1,a2,a3,a4,a5,a6,a7⟩:=vol_lims hg
 obtain ⟨b1,b2,b3,b4⟩:=h
 obtain ⟨⟨c1,c2,c3,c4,c5⟩,d1,d2⟩:=b3 hl
 obtain ⟨e1,e2,e3⟩:=d2 (by omega)
 obtain ⟨x,hx⟩ : ∃ x : STR,x = ⟨v.blocks,v.size,f,t,((List.range v.blocks.toNat).filter P).map (bI v t)⟩:=⟨_,rfl⟩
 have hxR : strR x = true:=by rw [hx];exact strR_some hg (by omega) h1 (by omega) h2 (.inl (by omega))
 have hxl : x.items.length≤1000:=by
  rw [hx];simp only [List.length_map]
  exact Nat.le_trans (List.length_filter_le ..) (by simp;omega)
 have hxf : x.frm = f∧x.to = t∧x.blocks = v.blocks∧x.size = v.size:=by rw [hx];exact ⟨rfl,rfl,rfl,rfl⟩
 have hm : mergeS (allS l) x = fullS v t:=by rw [d1,hx];exact merge_full hP
 rw [← hx]
 refine ⟨by omega,h2,fun _=>⟨⟨by simp,fun s hs=>?_,?_,fun i hi=>?_,fun s hs=>?_⟩,?_,fun hh=>?_⟩,fun hh=>by simp at hh⟩
 ·rcases List.mem_append.1 hs with hs | hs
  ·exact c2 s hs
  ·simp only [List.mem_singleton] at hs;subst hs;exact hxR
 ·rw [List.getElem_append_left c1];exact c3
 ·by_cases h5 : i + 1 < l.length
  ·rw [List.getElem_append_left h5,List.getElem_append_left (by omega)];exact c4 i h5
  ·have h6 : i + 1 = l.length:=by simp at hi;omega
   rw [List.getElem_append_left (show i < l.length by omega),List.getElem_append_right (by omega)]
   simp only [h6,Nat.sub_self,List.getElem_cons_zero]
   have e : l[i]'(by omega) = l[l.length - 1]'(by omega):=by congr 1;omega
   rw [e,e1,e2,e3]
   exact ⟨hxf.2.2.1.symm,hxf.2.2.2.symm,hxf.1⟩
 ·rcases List.mem_append.1 hs with hs | hs
  ·exact c5 s hs
  ·simp only [List.mem_singleton] at hs;subst hs;exact hxl
 ·rw [allS_snoc hl,hm]
 ·have e : (l ++ [x])[(l ++ [x]).length - 1] = x:=by
   simp only [List.length_append,List.length_singleton,Nat.add_sub_cancel]
   rw [List.getElem_append_right (by omega)];simp
  rw [e]
  exact hxf.2

theorem ExportStates_con (l ts : List Nat) (h8 : ∀ c ∈ l,c < 256) (ht8 : ∀ c ∈ ts,c < 256) : Con Tryz.prog 5 [.c (.sl (l.map brow)),.c (.sl (ts.map brow))] [] (B true) []:=by
 refine C_mementolaw23_ExportStates nl nl ?_
 simp only [cz,A_mementolaw23_ExportStates,argL,objL,List.length_nil,Nat.zero_add,zX]
 refine aR 16 ?_
 refine aBs 64 (fun Q hQ=>by simp (disch:=intros;contradiction) only [zS,↓reduceIte];exact hQ) ?_
 refine rC [] (mementolaw23_known_con) ?_
 refine aE ?_
 refine aF ?_
 refine aw_reg 128 (RG.go fun Q hQ=>?_)
 simp (disch:=intros;contradiction) only [zS,zW,simprocAttr]
 repeat refine ⟨by ((simp;done)),?_⟩
 refine hQ (RG.nil ?_)
 simp only [zX]
 refine aw_cond _ rfl trivial (fun ht=>?_) (fun hf=>?_)
 ·skip
  try simp at ht
  simp only [zX]
  refine aR 368 ?_
  refine Fin.b (.inr rfl) rfl trivial ?_
  rfl
 try simp at hf
 simp only [zX]
 have hl : l.length≤80∧ts.length≤6∧0 < ts.length:=by
  obtain ⟨h1,h2⟩:=hf
  refine ⟨by omega,by omega,Nat.pos_of_ne_zero fun h=>?_⟩
  exact h2 (List.eq_nil_of_length_eq_zero h)
 have cV:=Volume_con l h8 (by omega)
 have g0:=(seatV_good l).mono (show l.length / 4≤20 by omega)
 generalize seatV l = v at cV g0
 have hg:=g0.mono (show 20≤50000 by omega)
 have hwl:=g0.ws
 have hlen : lenV v = (v.ws.length : Int):=rfl
 obtain ⟨a1,a2,a3,a4,a5,a6,a7⟩:=vol_lims hg
 refine aB 416 ?_
 refine rC [] (cV) ?_ (hs:=(by exact .inr ⟨volC_pure _,trivial⟩))
 refine aEs (fun Q hQ=>by simp (disch:=intros;contradiction) only [zS,vC_eq,simprocAttr];exact hQ) ?_
 refine aR 512 ?_
 refine aw_cond _ rfl trivial (fun ht=>?_) (fun hf=>?_)
 ·skip
  try simp at ht
  simp only [zX]
  refine aR 576 ?_
  refine Fin.b (.inr rfl) rfl trivial ?_
  rfl
 try simp at hf
 simp only [zX]
 have hh : ¬ v.hid = true:=by simpa using hf
 refine aR 624 ?_
 refine aR 672 ?_
 refine aw_loopK (X:={ n : Nat // n≤v.place.length }) [1,5] (fun n=>[(6,.c (.osl 5000)),(7,I n.1)]) [448] (fun n=>[(5000,.arr 35 7 ((fullL v n.1).map chC) false)]) (fun n=>v.place.length - n.1) (⟨0,by omega⟩) ?_ ?_
 ·skip
  simp only [keepS,keepE,Option.getD_some,lk_cons,lkE_cons,List.cons_append,List.nil_append,simprocAttr]
  refine (Le.own 6 5000 35 7 rfl rfl (by decide)).trans ?_
  simp only [setS_cons,setE_cons,setE_nil,simprocAttr]
  refine Le.lit [] [] _ _ ?_ ?_ ?_ ?_
  ·simp only [zL,simprocAttr]
  ·simp only [zL,simprocAttr]
   all_goals (try ((repeat' (first | (exact drows_ch _) | rfl | refine ⟨?_,?_⟩))))
  ·simp [rlook]
  ·(simp;done)
 rintro ⟨n,hn⟩
 simp only [keepS,keepE,Option.getD_some,lk_cons,lkE_cons,List.cons_append,List.nil_append,simprocAttr]
 simp only [zX]
 refine aS 720 (fun Q hQ=>by simp (disch:=intros;contradiction) only [zS,zW,simprocAttr];exact hQ) ?_
 refine aw_cond _ rfl trivial (fun ht=>?_) (fun hf=>?_)
 ·skip
  try simp at ht
  simp only [zX]
  have hn' : n < v.place.length:=by omega
  have cC:=Chunk_full hg hn' (to:=1000) (by omega)
  have hnx:=fullL_succ v n
  have hfn:=fullL_len v n
  generalize chG v n v.ws.length = c at cC hnx
  have e2 : List.map chC (fullL v n) ++ [[.v (.int .i64 c.vol),.v (.int .i64 c.chunk),.v (.int .i64 c.count),.v (.int .i64 c.size),.v (.int .i64 c.mark),.v (.int .i64 c.floor),.sl (c.hist.map hrow)]] = (fullL v (n + 1)).map chC:=by rw [← hnx,List.map_append];rfl
  refine aB 832 ?_
  refine rC [] (cC) ?_ (hs:=(by exact .inr ⟨chC_pure _,trivial⟩))
  refine aEs (fun Q hQ=>by simp (disch:=intros;contradiction) only [zS,zW,chC,chO,e2,simprocAttr];repeat refine ⟨by ((simp;omega)),?_⟩;exact hQ) ?_
  refine aS 976 (fun Q hQ=>by simp (disch:=first | (intros;contradiction) | omega | (simp only [zN];omega)) only [zS,zW,simprocAttr];exact hQ) ?_
  refine ⟨⟨n + 1,by omega⟩,?_,by first | omega | (simp only;omega)⟩
  refine Le.lit [] [(5000,912)] _ _ ?_ ?_ ?_ ?_
  ·simp only [zL,simprocAttr]
   all_goals (try ((repeat' (rfl))))
  ·simp only [zL,simprocAttr]
   all_goals (try ((repeat' ((exact drows_ch _)))))
  ·simp [rlook]
  ·(simp;done)
 try simp at hf
 simp only [zX,↓reduceIte]
 obtain rfl : n = v.place.length:=by omega
 have hgf:=fullL_good (v:=v) (Nat.le_refl _)
 have hmf : ∀ i,i < v.place.length→chG v (i : Int) v.ws.length ∈ fullL v v.place.length:=fun i hi=>fullL_mem hi
 have hfl:=fullL_len v v.place.length
 generalize fullL v v.place.length = cs at hgf hmf hfl
 refine awp_pre [(1,.c (.sl (ts.map brow))),(5,.c (.bp 448 0)),(6,.c (.sl (cs.map chC)))] [(448,.box [.v (.int .i64 v.id),.v (.int .i64 v.blocks),.v (.int .i64 v.size),.v (.int .i64 v.per),.sl (v.place.map nrow),.v (.int .i64 v.total),.v (.int .i64 v.next),.v (.bool v.hid),.v (.int .i64 v.floor),.sl (v.pins.map nrow),.sl (v.ws.map wrow)])] ?_ ?_
 ·skip
  refine Le.lit [5000] [] _ _ ?_ ?_ ?_ ?_
  ·simp only [zL,simprocAttr]
   all_goals (try ((repeat' ((refine ⟨⟨_,_,rfl⟩,?_⟩;(exact drows_ch _))))))
  ·simp only [zL,simprocAttr]
  ·simp [rlook]
  ·(simp;done)
 refine aR 1056 ?_
 refine aR 1104 ?_
 refine aR 1184 ?_
 refine aw_loopK (X:={ x : Nat × List STR × Int // x.1≤ts.length∧x.2.1.length = x.1∧StOk v x.2.1 x.2.2 }) [1,5,6] (fun x=>[(8,.c (.osl 5001)),(9,I x.1.2.2),(10,I x.1.1)]) [448] (fun x=>[(5001,.arr 39 5 (x.1.2.1.map strC) false)]) (fun x=>ts.length - x.1.1) (⟨(0,[],v.floor),by simp only;omega,rfl,⟨Int.le_refl _,a7,fun h=>by simp at h,fun _=>rfl⟩⟩) ?_ ?_
 ·skip
  simp only [keepS,keepE,Option.getD_some,lk_cons,lkE_cons,List.cons_append,List.nil_append,simprocAttr]
  refine (Le.own 8 5001 39 5 rfl rfl (by decide)).trans ?_
  simp only [setS_cons,setE_cons,setE_nil,simprocAttr]
  refine Le.lit [] [] _ _ ?_ ?_ ?_ ?_
  ·simp only [zL,simprocAttr]
  ·simp only [zL,simprocAttr]
   all_goals (try ((repeat' (((simp [C.isD];done))))))
  ·simp [rlook]
  ·(simp;done)
 rintro ⟨⟨i,ss,f⟩,hi,hsl,hst⟩
 simp only [keepS,keepE,Option.getD_some,lk_cons,lkE_cons,List.cons_append,List.nil_append,simprocAttr]
 simp only [zX]
 simp only at hi hsl hst
 refine aS 1232 (fun Q hQ=>by simp (disch:=intros;contradiction) only [zS,zW,simprocAttr];exact hQ) ?_
 refine aw_cond _ rfl trivial (fun ht=>?_) (fun hf=>?_)
 ·skip
  try simp at ht
  simp only [zX]
  have hi' : i < ts.length:=by omega
  obtain ⟨x,hx⟩ : ∃ x,ts[i] = x:=⟨_,rfl⟩
  have hx8:=ht8 x (by rw [← hx];exact List.getElem_mem hi')
  have f1:=hst.fl
  have f2:=hst.le
  have e1:=Int.emod_nonneg (x : Int) (show lenV v - f + 1≠0 by omega)
  have e3:=Int.emod_lt_of_pos (x : Int) (show 0 < lenV v - f + 1 by omega)
  obtain ⟨r,hr⟩ : ∃ r,r = (x : Int) % (lenV v - f + 1):=⟨_,rfl⟩
  have hmm : (x : Int).tmod (lenV v - f + 1) = r:=by rw [hr,Int.tmod_eq_emod_of_nonneg (by omega)]
  have hmm2 : (x : Int) % (lenV v - f + 1) = r:=hr.symm
  rw [← hr] at e1 e3
  have hw1 : IntKind.i64.wrap (x : Int) = x:=w64 _ (by omega) (by omega)
  have hw2 : IntKind.i64.wrap (lenV v - f) = lenV v - f:=w64 _ (by omega) (by omega)
  have hw3 : IntKind.i64.wrap (lenV v - f + 1) = lenV v - f + 1:=w64 _ (by omega) (by omega)
  obtain ⟨t,htt⟩ : ∃ t,t = f + r:=⟨_,rfl⟩
  have hw4 : IntKind.i64.wrap (f + r) = t:=by rw [w64 _ (by omega) (by omega),htt]
  have hm0 : mayE v f t = 0:=mayE_ok.2 ⟨hh,by omega,by omega,by omega⟩
  have hm1 : mayE v t t = 0:=mayE_ok.2 ⟨hh,by omega,by omega,by omega⟩
  obtain ⟨P,hP,hS⟩:=strS_since hg hgf hmf hm0
  have cS:=export_Since_con v cs f t hg (by omega) hgf
  rw [hS] at cS
  have cF:=export_Full_con v cs t hg (by omega) hgf
  rw [strS_full hg hgf hmf hm1] at cF
  have hone:=StOk.one hg (t:=t) (by omega) (by omega)
  have hmore:=fun hl=>StOk.more hg hst hl (t:=t) (by omega) (by omega) hP
  generalize (⟨v.blocks,v.size,f,t,((List.range v.blocks.toNat).filter P).map (bI v t)⟩ : STR) = s1 at cS hmore
  generalize fullS v t = s2 at cF hone
  have k1 : List.map strC ss ++ [[.v (.int .i64 s1.blocks),.v (.int .i64 s1.size),.v (.int .i64 s1.frm),.v (.int .i64 s1.to),.sl (s1.items.map irow)]] = (ss ++ [s1]).map strC:=by rw [List.map_append];rfl
  have k2 : List.map strC ss ++ [[.v (.int .i64 s2.blocks),.v (.int .i64 s2.size),.v (.int .i64 s2.frm),.v (.int .i64 s2.to),.sl (s2.items.map irow)]] = (ss ++ [s2]).map strC:=by rw [List.map_append];rfl
  refine aBDs 1328 (fun Q hQ=>by simp (disch:=first | (intros;contradiction) | omega | (simp only [zN];omega)) only [zS,zW,brow,hx,hw1,simprocAttr];repeat refine ⟨by (omega),?_⟩;exact hQ) ?_
  refine rC [] (mementoref16_Len_con v) ?_
  refine aEDs (fun Q hQ=>by simp (disch:=first | (intros;contradiction) | omega | (simp only [zN];omega)) only [zS,zW,hw2,hw3,hw4,hmm2,simprocAttr];repeat refine ⟨by (omega),?_⟩;exact hQ) ?_
  refine aB 1584 ?_
  refine rC [] (cS) ?_ (hs:=(by exact .inr ⟨strT_pure _ _,trivial⟩))
  refine aEs (fun Q hQ=>by simp (disch:=intros;contradiction) only [zS,strC,simprocAttr];exact hQ) ?_
  by_cases hi0 : i = 0
  ·skip
   have hsn : ss = []:=List.eq_nil_of_length_eq_zero (by omega)
   have hid : ((i : Int) == 0) = true:=by rw [hi0];rfl
   refine aS 1792 (fun Q hQ=>by simp (disch:=intros;contradiction) only [zS,hid,simprocAttr];exact hQ) ?_
   refine aw_cond _ rfl trivial (fun ht=>?_) (fun hf=>by cases hf)
   refine aB 1856 ?_
   refine rC [] (cF) ?_ (hs:=(by exact .inr ⟨strT_pure _ _,trivial⟩))
   refine aEs (fun Q hQ=>by simp (disch:=intros;contradiction) only [zS,strC,simprocAttr];exact hQ) ?_
   refine aR 2032 ?_
   refine aF ?_
   refine aS 2096 (fun Q hQ=>by simp (disch:=intros;contradiction) only [zS,zW,k2,simprocAttr];repeat refine ⟨by ((simp;omega)),?_⟩;exact hQ) ?_
   refine aS 2240 (fun Q hQ=>by simp (disch:=first | (intros;contradiction) | omega | (simp only [zN];omega)) only [zS,zW,simprocAttr];exact hQ) ?_
   refine ⟨⟨(i + 1,ss ++ [s2],t),by simp only;omega,by simp;omega,by simp only;rw [hsn];exact hone⟩,?_,by first | omega | (simp only;omega)⟩
   refine Le.lit [] [(5001,2144)] _ _ ?_ ?_ ?_ ?_
   ·simp only [zL,simprocAttr]
    all_goals (try ((repeat' (rfl))))
   ·simp only [zL,simprocAttr]
    all_goals (try ((repeat' ((exact drows_str _)))))
   ·simp [rlook]
   ·(simp;done)
  have hid : ((i : Int) == 0) = false:=by rw [beq_eq_false_iff_ne];omega
  refine aS 2320 (fun Q hQ=>by simp (disch:=intros;contradiction) only [zS,hid,simprocAttr];exact hQ) ?_
  refine aF ?_
  refine aR 2384 ?_
  refine aF ?_
  refine aS 2448 (fun Q hQ=>by simp (disch:=intros;contradiction) only [zS,zW,k1,simprocAttr];repeat refine ⟨by ((simp;omega)),?_⟩;exact hQ) ?_
  refine aS 2592 (fun Q hQ=>by simp (disch:=first | (intros;contradiction) | omega | (simp only [zN];omega)) only [zS,zW,simprocAttr];exact hQ) ?_
  refine ⟨⟨(i + 1,ss ++ [s1],t),by simp only;omega,by simp;omega,hmore (by omega)⟩,?_,by first | omega | (simp only;omega)⟩
  refine Le.lit [] [(5001,2496)] _ _ ?_ ?_ ?_ ?_
  ·simp only [zL,simprocAttr]
   all_goals (try ((repeat' (rfl))))
  ·simp only [zL,simprocAttr]
   all_goals (try ((repeat' ((exact drows_str _)))))
  ·simp [rlook]
  ·(simp;done)
 try simp at hf
 simp only [zX,↓reduceIte]
 obtain rfl : i = ts.length:=by omega
 obtain ⟨hch,hal,_⟩:=hst.first (by omega)
 have f1:=hst.fl
 have f2:=hst.le
 have cA:=All_con ss hch (by omega)
 rw [hal] at cA
 have cS:=state_in hg f1 f2
 have hsl2 : (fullS v f).items.length≤1000000:=by simp [fullS];omega
 have cB:=Blocks_con (fullS v f) hsl2
 rw [blocks_full hg (by omega) (by omega)] at cB
 have hb8:=bodV_8 f g0.by8
 have hbl:=bodV_len v f
 have cD:=Bodies_con (bodV v f) (bodV v f) (by omega) hb8 hb8
 simp only [decide_true] at cD
 generalize bodV v f = bd at cS cB cD
 generalize fullS v f = s at cA cB
 refine aB 2672 ?_
 refine RG.callo [] [5001] (cA) (.mk (by (repeat' (first | exact tr_nil | refine tr_cons ?_ ?_ | exact tr_view (by simp) rfl (by (exact drows_str _))))) (by trivial) (by simp) (by simp) (views1 rfl trivial) (by (simp [lkE_cons,lkE_nil];done)) (by (simp [Ent.pure];done)) (by simp) (by simp)) ?_
 refine aEs (fun Q hQ=>by simp (disch:=intros;contradiction) only [zS,strC,simprocAttr];exact hQ) ?_
 refine aB 2832 ?_
 refine rC [] (cS) ?_ (hs:=(by exact .inr ⟨bodT_pure _ _,trivial⟩))
 refine aE ?_
 refine aB 2992 ?_
 refine rG _ _ (cB) ?_
 refine aM ?_
 refine rG _ _ (cD) ?_
 refine aE ?_
 refine Fin.b (.inr rfl) rfl trivial ?_
 simp

theorem ExportStates_law (l : List Nat) (hl : (∀ c ∈ l,c < 256)∧l.length≤9223372036854775807) (ts : List Nat) (ht : (∀ c ∈ ts,c < 256)∧ts.length≤9223372036854775807) : Con Tryz.prog 5 [.c (.sl (l.map brow)),.c (.sl (ts.map brow))] [] (B true) []:=ExportStates_con l ts hl.1 ht.1

end Go.Abs

namespace Go.Abs
open Go Go.Proofs
set_option maxRecDepth 100000
set_option linter.unusedSimpArgs false
set_option maxHeartbeats 8000000

def ugOk (gs : Nat) (want : Bool) (ops : List AO) : Bool:=ops.all fun o=>(match o.gd with | none=>true | some (a,b)=>a == gs && b == want) && (match o.dst with | none=>true | some d=>d != gs)
theorem RunL.unAll {P : Program} {gs : Nat} {want g t : Bool} {F : St→List Rec→Prop} (hw : (g && (t == want)) = true) : ∀ (ops : List AO) {fr : Nat} {st : St} {rs : List Rec},ugOk gs want ops = true→gval (st.sl gs) = some (g,t)→RunL P fr (ops.map fun o=>⟨o.op,o.dst,none,o.after⟩) st rs F→RunL P fr ops st rs F
 | [],_,_,_,_,_,h=>h
 | o :: ops,fr,st,rs,hu,hg,h=>by
  obtain ⟨r,h1,h2⟩:=h
  simp only [ugOk,List.all_cons,Bool.and_eq_true] at hu
  obtain ⟨⟨hu1,hu2⟩,hu3⟩:=hu
  have h1' : En0 P fr o.op st.sl st.σ r:=h1
  refine ⟨r,?_,RunL.unAll hw ops hu3 ?_ h2⟩
  ·unfold En
   cases hgd : o.gd with
   | none=>exact h1'
   | some p =>
    obtain ⟨a,b⟩:=p
    rw [hgd] at hu1
    simp only [Bool.and_eq_true,beq_iff_eq] at hu1
    obtain ⟨rfl,rfl⟩:=hu1
    exact .inr ⟨g,t,hg,hw,h1'⟩
  ·unfold St.put
   cases hd : o.dst with
   | none=>exact hg
   | some d =>
    rw [hd] at hu2
    have hne : d≠gs:=by intro h;simp [h] at hu2
    simp only [upd]
    rw [if_neg (by exact fun h=>hne h.symm)]
    exact hg
theorem RG.unAll {P : Program} {gs : Nat} {want g t : Bool} {fr : Nat} {ops : List AO} {l : SL} {es : EL} {ks : KL} {K : SL→EL→KL→Prop} (hw : (g && (t == want)) = true) (hu : ugOk gs want ops = true) (hg : gval (lk .dead l gs) = some (g,t)) (h : RG P fr (ops.map fun o=>⟨o.op,o.dst,none,o.after⟩) l es ks K) : RG P fr ops l es ks K :=
 fun rs hr=>RunL.unAll hw ops hu hg (h rs hr)
theorem RX.run2 {P : Program} {K : SL→EL→KL→Prop} (post : List AO) : ∀ (ops : List AO) {fr : Nat} {l : SL} {es : EL} {ks : KL},RX fr ops l es ks (fun fr ops l es ks=>RG P fr (ops ++ post) l es ks K)→RG P fr (ops ++ post) l es ks K
 | [],fr,l,es,ks,h=>h
 | o :: ops,fr,l,es,ks,h=>by
  unfold RX at h
  split at h
  ·exact h
  ·rename_i hc
   rw [List.cons_append]
   split at h
   ·rename_i hg
    split at h
    ·rename_i sv ups cond he
     obtain ⟨h1,h2,h3⟩:=h
     refine RG.step ⟨sv,ups,idsOf (ev (lk .dead l)) o.op.rds ++ [fr]⟩ ?_ (RX.run2 post ops h3)
     unfold En
     rw [hg]
     exact En0.of_eff hc he h1 h2
    ·exact h.elim
   ·rename_i gs want hg
    split at h
    ·rename_i g t hv
     split at h
     ·rename_i sv cond he
      obtain ⟨h1,h3⟩:=h
      refine RG.step ⟨.opt (g && (t == want)) sv,[],idsOf (ev (lk .dead l)) o.op.rds ++ [fr]⟩ ?_ (RX.run2 post ops h3)
      unfold En
      rw [hg]
      exact .inl ⟨g,t,sv,hv,rfl,fun hh=>En0.of_eff hc he (h1 hh).1 (h1 hh).2⟩
     ·obtain ⟨h1,h3⟩:=h
      refine RG.step ⟨.opt false (.c (.v (.bool false))),[],[]⟩ ?_ (RX.run2 post ops h3)
      unfold En
      rw [hg]
      exact .inl ⟨g,t,.c (.v (.bool false)),hv,by rw [h1],fun hh=>by rw [h1] at hh;cases hh⟩
    ·exact h.elim
theorem RG.cutGo {P : Program} {fr : Nat} {ops : List AO} {l : SL} {es : EL} {ks : KL} {K : SL→EL→KL→Prop} (k : Nat)
  (h : ∀ Q : Nat→List AO→SL→EL→KL→Prop,(∀ {fr pre l es ks},RG P fr (pre ++ ops.drop k) l es ks K→Q fr pre l es ks)→RX fr (ops.take k) l es ks Q) : RG P fr ops l es ks K:=by
 have:=RX.run2 (P:=P) (K:=K) (ops.drop k) (ops.take k) (h _ fun hh=>hh)
 rwa [List.take_append_drop] at this

def prI (p : Int × Int) : List C:=[.v (.int .i64 p.1),.v (.int .i64 p.2)]
theorem drows_pr (l : List (Int × Int)) : isDRows (l.map prI):=by
 intro r hr c hc
 obtain ⟨p,_,rfl⟩:=List.mem_map.1 hr
 simp only [prI,List.mem_cons,List.not_mem_nil,or_false] at hc
 rcases hc with rfl | rfl <;> rfl
def smallH (h : List IT) : Bool:=decide (h.length≤10) && h.all fun x=>decide (x.d.length≤40)
def smallC (c : CH) : Bool:=decide (c.hist.length≤20) && c.hist.all smallH
theorem SmallChunk_con (c : CH) : Con Tryz.prog 17 [.agg (chC c)] [] (B (smallC c)) []:=by
 refine C_mementoseat_SmallChunk nl nl ?_
 simp only [cz,A_mementoseat_SmallChunk,argL,objL,List.length_nil,zX]
 refine aS 16 (fun Q hQ=>by simp (disch:=intros;contradiction) only [zS,chC,chO,simprocAttr];exact hQ) ?_
 refine aS 80 (fun Q hQ=>by simp (disch:=intros;contradiction) only [zS,zW,simprocAttr];exact hQ) ?_
 refine aw_cond _ rfl trivial (fun ht=>?_) (fun hf=>?_)
 ·skip
  try simp at ht
  simp only [zX]
  refine aR 176 ?_
  refine Fin.b (.inr rfl) rfl trivial ?_
  rw [eq_comm,Bool.eq_false_iff];intro h;simp only [smallC,Bool.and_eq_true,decide_eq_true_eq] at h;omega
 try simp at hf
 simp only [zX]
 have hR : smallC c = c.hist.all smallH:=by unfold smallC;rw [show decide (c.hist.length≤20) = true by simp;omega,Bool.true_and]
 rw [hR]
 refine aR 224 ?_
 refine aw_loopK (X:={ i : Nat // i≤c.hist.length∧(c.hist.take i).all smallH = true }) [1] (fun i=>[(3,I i.1)]) [16] (fun i=>[]) (fun i=>c.hist.length - i.1) (⟨0,by omega,rfl⟩) ?_ ?_
 ·skip
  simp only [keepS,keepE,Option.getD_some,lk_cons,lkE_cons,List.cons_append,List.nil_append,simprocAttr]
  refine Le.lit [] [] _ _ ?_ ?_ ?_ ?_
  ·simp only [zL,simprocAttr]
  ·simp only [zL,↓reduceIte]
  ·simp [rlook]
  ·(simp;done)
 rintro ⟨i,hi,hall⟩
 simp only [keepS,keepE,Option.getD_some,lk_cons,lkE_cons,List.cons_append,List.nil_append,simprocAttr]
 simp only [zX]
 refine aS 272 (fun Q hQ=>by simp (disch:=intros;contradiction) only [zS,zW,simprocAttr];exact hQ) ?_
 refine aw_cond _ rfl trivial (fun ht=>?_) (fun hf=>?_)
 ·skip
  try simp at ht
  simp only [zX]
  have hi' : i < c.hist.length:=by omega
  have hno : smallH c.hist[i] = false→c.hist.all smallH = false:=all_bad hi'
  have hyes : smallH c.hist[i] = true→(c.hist.take (i + 1)).all smallH = true:=fun h=>by rw [all_succ hi',hall,h];rfl
  obtain ⟨l,hll⟩ : ∃ l,c.hist[i] = l:=⟨_,rfl⟩
  rw [hll] at hno hyes
  refine aS 384 (fun Q hQ=>by simp (disch:=first | (intros;contradiction) | omega | (simp only [zN];omega)) only [zS,zW,hrow,hll,simprocAttr];repeat refine ⟨by (omega),?_⟩;exact hQ) ?_
  refine aw_cond _ rfl trivial (fun ht=>?_) (fun hf=>?_)
  ·skip
   try simp at ht
   simp only [zX]
   refine aR 528 ?_
   refine Fin.b (.inr rfl) rfl trivial ?_
   rw [hno]
   rw [Bool.eq_false_iff];intro h;simp only [smallH,Bool.and_eq_true,decide_eq_true_eq] at h;omega
  try simp at hf
  simp only [zX]
  have hO : smallH l = l.all fun x=>decide (x.d.length≤40):=by unfold smallH;rw [show decide (l.length≤10) = true by simp;omega,Bool.true_and]
  rw [hO] at hno hyes
  refine aR 576 ?_
  refine aw_loopK (X:={ k : Nat // k≤l.length∧((l.take k).all fun x=>decide (x.d.length≤40)) = true }) [1,3] (fun k=>[(4,I k.1)]) [16] (fun k=>[]) (fun k=>l.length - k.1) (⟨0,by omega,rfl⟩) ?_ ?_
  ·skip
   simp only [keepS,keepE,Option.getD_some,lk_cons,lkE_cons,List.cons_append,List.nil_append,simprocAttr]
   refine Le.lit [] [] _ _ ?_ ?_ ?_ ?_
   ·simp only [zL,simprocAttr]
   ·simp only [zL,↓reduceIte]
   ·simp [rlook]
   ·(simp;done)
  rintro ⟨k,hk,hka⟩
  simp only [keepS,keepE,Option.getD_some,lk_cons,lkE_cons,List.cons_append,List.nil_append,simprocAttr]
  simp only [zX]
  refine aS 624 (fun Q hQ=>by simp (disch:=first | (intros;contradiction) | omega | (simp only [zN];omega)) only [zS,zW,hrow,hll,simprocAttr];repeat refine ⟨by (omega),?_⟩;exact hQ) ?_
  refine aw_cond _ rfl trivial (fun ht=>?_) (fun hf=>?_)
  ·skip
   try simp at ht
   simp only [zX]
   have hk' : k < l.length:=by omega
   refine aw_reg 784 (RG.go fun Q hQ=>?_)
   simp (disch:=first | (intros;contradiction) | omega | (simp only [zN];omega)) only [zS,zW,hrow,hll,irow,itC,simprocAttr]
   repeat refine ⟨by (omega),?_⟩
   refine hQ (RG.nil ?_)
   simp only [zX]
   refine aw_cond _ rfl trivial (fun ht=>?_) (fun hf=>?_)
   ·skip
    try simp at ht
    simp only [zX]
    refine aR 992 ?_
    refine Fin.b (.inr rfl) rfl trivial ?_
    rw [hno (all_bad hk' _)]
    rw [Bool.eq_false_iff];intro h;simp only [decide_eq_true_eq] at h;omega
   try simp at hf
   simp only [zX]
   refine aS 1040 (fun Q hQ=>by simp (disch:=first | (intros;contradiction) | omega | (simp only [zN];omega)) only [zS,zW,simprocAttr];exact hQ) ?_
   refine ⟨⟨k + 1,hk',by rw [all_succ hk',hka];simp only [Bool.true_and,decide_eq_true_eq];omega⟩,?_,by first | omega | (simp only;omega)⟩
   refine Le.lit [] [] _ _ ?_ ?_ ?_ ?_
   ·simp only [zL,simprocAttr]
    all_goals (try ((repeat' (rfl))))
   ·simp only [zL,↓reduceIte]
   ·simp [rlook]
   ·(simp;done)
  try simp at hf
  simp only [zX,↓reduceIte]
  obtain rfl : k = l.length:=by omega
  rw [List.take_length] at hka
  refine aS 1120 (fun Q hQ=>by simp (disch:=first | (intros;contradiction) | omega | (simp only [zN];omega)) only [zS,zW,simprocAttr];exact hQ) ?_
  refine ⟨⟨i + 1,hi',hyes hka⟩,?_,by first | omega | (simp only;omega)⟩
  refine Le.lit [] [] _ _ ?_ ?_ ?_ ?_
  ·simp only [zL,simprocAttr]
   all_goals (try ((repeat' (rfl))))
  ·simp only [zL,↓reduceIte]
  ·simp [rlook]
  ·(simp;done)
 try simp at hf
 simp only [zX,↓reduceIte]
 obtain rfl : i = c.hist.length:=by omega
 rw [List.take_length] at hall
 refine aR 1200 ?_
 refine Fin.b (.inr rfl) rfl trivial ?_
 rw [hall]

theorem rdC_by {c : CH} (h : byH c.hist) (b t : Int) : ∀ x ∈ (rdC c b t).1,x < 256:=by
 unfold rdC
 split
 ·intro x hx;cases hx
 split
 ·intro x hx;cases hx
 split
 ·intro x hx;cases hx
 ·refine atF_by ?_
  rw [List.getD_eq_getElem?_getD]
  by_cases hb : b.toNat < c.hist.length
  ·rw [List.getElem?_eq_getElem hb];exact h _ (List.getElem_mem hb)
  ·rw [List.getElem?_eq_none (by omega)];intro x hx;cases hx
theorem Gch.by8 {v : VOL} {c : CH} (hg : Vgood v 50000) (h : Gch v c) : byH c.hist:=by
 obtain ⟨k,m,h1,h2,rfl⟩:=h
 have hwl:=hg.ws
 exact chF_by hg.right hg.by8 (by omega) (by omega) (by omega) h2
theorem itsX_by {v : VOL} {f t : Int} {full : Bool} {cs : List CH} (h : ∀ c ∈ cs,byH c.hist) : ∀ n,byI (itsX v f t full cs n)
 | 0=>fun x hx=>by cases hx
 | n + 1=>fun x hx=>by
  unfold itsX at hx
  rcases List.mem_append.1 hx with hx | hx
  ·exact itsX_by h n x hx
  ·obtain ⟨b,_,rfl⟩:=List.mem_map.1 hx
   refine rdC_by ?_ _ _
   rw [List.getD_eq_getElem?_getD]
   by_cases hn : n < cs.length
   ·rw [List.getElem?_eq_getElem hn];exact h _ (List.getElem_mem hn)
   ·rw [List.getElem?_eq_none (by omega)];intro g hg;cases hg
theorem strS_ok {v : VOL} (hg : Vgood v 50000) {l : List CH} {f t : Int} {full : Bool} (hc : ∀ c ∈ l,Gch v c) : (strS v l f t full).1.items.length≤1000000∧byI (strS v l f t full).1.items:=by
 obtain ⟨a1,a2,a3,a4,a5,a6,a7⟩:=vol_lims hg
 unfold strS
 split
 ·exact ⟨by simp [zeroS],fun x hx=>by cases hx⟩
 cases hp : picksN v l f t v.place.length with
 | none=>exact ⟨by simp [zeroS],fun x hx=>by cases hx⟩
 | some cs =>
  have hm : ∀ c ∈ cs,Gch v c:=fun c hc'=>by
   obtain ⟨i,hi,rfl⟩:=List.mem_iff_getElem.1 hc'
   exact hc _ (picksN_mem hp i hi).1
  have h1:=itsX_len (v:=v) (f:=f) (t:=t) (full:=full) (fun c hc'=>((hm c hc').facts hg).2.2.2.1) v.place.length
  exact ⟨by simp only;omega,itsX_by (fun c hc'=>(hm c hc').by8 hg) _⟩
theorem Streams_con (s : STR) (hl : s.items.length≤1000000) (h8 : byI s.items) : Con Tryz.prog 19 [.agg (strC s),.agg (strC s)] [] (B true) []:=by
 have c1:=mementoref13_SameItems_con s.items s.items hl h8 h8
 simp only [decide_true] at c1
 refine C_mementohelp_Streams nl nl ?_
 simp only [cz,A_mementohelp_Streams,argL,objL,List.length_nil,Nat.zero_add,zX]
 refine aS 16 (fun Q hQ=>by simp (disch:=intros;contradiction) only [zS,strC,simprocAttr];exact hQ) ?_
 refine aB 96 ?_
 refine rG _ _ (c1) ?_
 refine aE ?_
 refine Fin.b (.inr rfl) rfl trivial ?_
 simp

theorem Chunks_con (l : List CH) (hl : l.length≤1000000) (h : ∀ c ∈ l,Cin c∧byH c.hist) : Con Tryz.prog 24 [.c (.sl (l.map chC)),.c (.sl (l.map chC))] [] (B true) []:=by
 refine C_mementohelp_Chunks nl nl ?_
 simp only [cz,A_mementohelp_Chunks,argL,objL,List.length_nil,Nat.zero_add,zX]
 refine aR 16 ?_
 refine aS 64 (fun Q hQ=>by simp (disch:=intros;contradiction) only [zS,zW,simprocAttr];exact hQ) ?_
 refine aw_cond _ rfl trivial (fun ht=>by simp at ht) (fun hf=>?_)
 simp only [zX]
 refine aR 176 ?_
 refine aw_loopK (X:={ i : Nat // i≤l.length }) [0,1] (fun i=>[(5,I i.1)]) [] (fun i=>[]) (fun i=>l.length - i.1) (⟨0,by omega⟩) ?_ ?_
 ·skip
  simp only [keepS,keepE,lk_cons,List.cons_append,List.nil_append,simprocAttr]
  refine Le.lit [] [] _ _ ?_ ?_ ?_ ?_
  ·simp only [zL,simprocAttr]
  ·simp only [zL,simprocAttr]
  ·simp [rlook]
  ·(simp;done)
 rintro ⟨i,hi⟩
 simp only [keepS,keepE,lk_cons,List.cons_append,List.nil_append,simprocAttr]
 simp only [zX]
 refine aS 224 (fun Q hQ=>by simp (disch:=intros;contradiction) only [zS,zW,simprocAttr];exact hQ) ?_
 refine aw_cond _ rfl trivial (fun ht=>?_) (fun hf=>?_)
 ·skip
  try simp at ht
  simp only [zX]
  have hi' : i < l.length:=by omega
  obtain ⟨c,hc⟩ : ∃ c,l[i] = c:=⟨_,rfl⟩
  obtain ⟨h1,h2⟩:=h c (by rw [← hc];exact List.getElem_mem hi')
  have cS:=mementoref13_Same_con c c h1 h2 h2
  simp only [decide_true] at cS
  refine aw_draw 320 (RG.go fun Q hQ=>?_)
  simp (disch:=first | (intros;contradiction) | omega | (simp only [zN];omega)) only [zS,zW,hc,chC,chO,simprocAttr]
  repeat refine ⟨by (omega),?_⟩
  refine hQ ?_
  refine rC [] (cS) ?_
  refine aED ?_
  refine aw_cond _ rfl trivial (fun ht=>by cases ht) (fun hf=>?_)
  simp only [zX]
  refine aw_reg 512 (RG.go fun Q hQ=>?_)
  simp (disch:=first | (intros;contradiction) | omega | (simp only [zN];omega)) only [zS,zW,simprocAttr]
  refine hQ (RG.nil ?_)
  simp only [zX]
  refine ⟨⟨i + 1,hi'⟩,?_,by first | omega | (simp only;omega)⟩
  refine Le.lit [] [] _ _ ?_ ?_ ?_ ?_
  ·simp only [zL,simprocAttr]
   all_goals (try ((repeat' (rfl))))
  ·simp only [zL,simprocAttr]
  ·simp [rlook]
  ·(simp;done)
 try simp at hf
 simp only [zX,↓reduceIte]
 refine aw_reg 592 (RG.go fun Q hQ=>?_)
 simp (disch:=intros;contradiction) only [zS,simprocAttr]
 refine hQ (RG.nil ?_)
 simp only [zX]
 refine Fin.b (.inr rfl) rfl trivial ?_
 rfl

theorem pickR_ok {v : VOL} (hg : Vgood v 50000) {l : List CH} (hc : ∀ c ∈ l,Gch v c) (n f t : Int) : Cin (pickR (pickO v l n f t)).1∧byH (pickR (pickO v l n f t)).1.hist:=by
 cases hp : pickO v l n f t with
 | none=>exact ⟨⟨by simp [pickR,zeroCH],fun h hh=>by simp [pickR,zeroCH] at hh⟩,fun h hh=>by simp [pickR,zeroCH] at hh⟩
 | some c =>
  have hG:=hc c (pickO_mem hp).1
  exact ⟨(hG.facts hg).1,hG.by8 hg⟩

theorem ExportTells_con (l marks : List Nat) (fr to : Int) (k j : Nat) (raw : List CH) (n : Int) (h8 : ∀ c ∈ l,c < 256) (hm8 : ∀ c ∈ marks,c < 256) (hk : k < 256) (hj : j < 256) :
  Con Tryz.prog 4 [.c (.sl (l.map brow)),.c (.sl (marks.map brow)),I fr,I to,.c (.v (.int .u8 k)),.c (.v (.int .u8 j)),.c (.sl (raw.map chC)),I n] [] (B true) []:=by
 refine C_mementolaw23_ExportTells nl nl ?_
 simp only [cz,A_mementolaw23_ExportTells,argL,objL,List.length_nil,Nat.zero_add,zX,simprocAttr]
 refine aR 16 ?_
 refine aBs 64 (fun Q hQ=>by simp (disch:=intros;contradiction) only [zS,↓reduceIte];exact hQ) ?_
 refine rC [] (mementolaw23_known_con) ?_
 refine aE ?_
 refine aF ?_
 refine aw_reg 128 (RG.go fun Q hQ=>?_)
 simp (disch:=intros;contradiction) only [zS,zW,simprocAttr]
 repeat refine ⟨by ((simp;done)),?_⟩
 refine hQ (RG.nil ?_)
 simp only [zX]
 refine aw_cond _ rfl trivial (fun ht=>?_) (fun hf=>?_)
 ·skip
  try simp at ht
  simp only [zX]
  refine aR 368 ?_
  refine Fin.b (.inr rfl) rfl trivial ?_
  rfl
 try simp at hf
 simp only [zX]
 have hl : l.length≤60∧marks.length≤16∧raw.length≤4:=by
  obtain ⟨h1,h2⟩:=hf
  omega
 refine aR 416 ?_
 refine aw_loopK (X:={ i : Nat // i≤raw.length }) [0,1,2,3,4,5,6,7] (fun i=>[(17,I i.1)]) [] (fun i=>[]) (fun i=>raw.length - i.1) (⟨0,by omega⟩) ?_ ?_
 ·skip
  simp only [keepS,keepE,lk_cons,List.cons_append,List.nil_append,simprocAttr]
  refine Le.lit [] [] _ _ ?_ ?_ ?_ ?_
  ·simp only [zL,simprocAttr]
  ·simp only [zL,simprocAttr]
  ·simp [rlook]
  ·(simp;done)
 rintro ⟨i,hi⟩
 simp only [keepS,keepE,lk_cons,List.cons_append,List.nil_append,simprocAttr]
 simp only [zX]
 refine aS 464 (fun Q hQ=>by simp (disch:=intros;contradiction) only [zS,zW,simprocAttr];exact hQ) ?_
 refine aw_cond _ rfl trivial (fun ht=>?_) (fun hf=>?_)
 ·skip
  try simp at ht
  simp only [zX]
  have hi' : i < raw.length:=by omega
  refine aBs 560 (fun Q hQ=>by simp (disch:=first | (intros;contradiction) | omega | (simp only [zN];omega)) only [zS,zW,chC,chO,simprocAttr];repeat refine ⟨by (omega),?_⟩;exact hQ) ?_
  refine rC [] (SmallChunk_con raw[i]) ?_
  refine aE ?_
  refine aw_cond _ rfl trivial (fun ht=>?_) (fun hf=>?_)
  ·skip
   try simp at ht
   simp only [zX]
   refine aR 688 ?_
   refine Fin.b (.inr rfl) rfl trivial ?_
   rfl
  try simp at hf
  simp only [zX]
  refine aS 736 (fun Q hQ=>by simp (disch:=first | (intros;contradiction) | omega | (simp only [zN];omega)) only [zS,zW,simprocAttr];exact hQ) ?_
  refine ⟨⟨i + 1,hi'⟩,?_,by first | omega | (simp only;omega)⟩
  refine Le.lit [] [] _ _ ?_ ?_ ?_ ?_
  ·simp only [zL,simprocAttr]
   all_goals (try ((repeat' (rfl))))
  ·simp only [zL,simprocAttr]
  ·simp [rlook]
  ·(simp;done)
 try simp at hf
 simp only [zX,↓reduceIte]
 have cV:=Volume_con l h8 (by omega)
 have g0:=(seatV_good l).mono (show l.length / 4≤20 by omega)
 generalize seatV l = v at cV g0
 have hg:=g0.mono (show 20≤50000 by omega)
 have hwl:=g0.ws
 have hlen : lenV v = (v.ws.length : Int):=rfl
 obtain ⟨a1,a2,a3,a4,a5,a6,a7⟩:=vol_lims hg
 obtain ⟨cs,hcl,hcg,cM⟩:=chunks_con v marks hg (by omega) hm8
 refine aB 816 ?_
 refine rC [] (cV) ?_ (hs:=(by exact .inr ⟨volC_pure _,trivial⟩))
 refine aEs (fun Q hQ=>by simp (disch:=intros;contradiction) only [zS,vC_eq,simprocAttr];exact hQ) ?_
 refine aB 912 ?_
 refine RG.callo [] [] (cM) (.mk (by (repeat' (first | exact tr_nil | refine tr_cons ?_ ?_ | exact tr_sl | exact tr_agg (by repeat' (first | exact trivial | rfl | refine ⟨?_,?_⟩))))) (by trivial) (by simp) (by simp) (trivial) (by (simp [lkE_cons,lkE_nil];done)) (by (simp [Ent.pure];repeat' ((exact drows_ch _)))) (by simp) (by simp)) ?_
 refine aE ?_
 refine aR 1008 ?_
 refine aw_loopK (X:={ x : Nat × List CH // x.1≤v.place.length∧(∀ c ∈ x.2,Gch v c)∧x.2.length≤16 + x.1 }) [2,3,4,5,7,18] (fun x=>[(19,.c (.osl 5000)),(20,I x.1.1)]) [848] (fun x=>[(5000,.arr 35 7 (x.1.2.map chC) false)]) (fun x=>v.place.length - x.1.1) (⟨(0,cs),by simp only;omega,hcg,by simp only;omega⟩) ?_ ?_
 ·skip
  simp only [keepS,keepE,Option.getD_some,lk_cons,lkE_cons,List.cons_append,List.nil_append,simprocAttr]
  refine Le.lit [] [(5000,944)] _ _ ?_ ?_ ?_ ?_
  ·simp only [zL,simprocAttr]
  ·simp only [zL,simprocAttr]
   all_goals (try ((repeat' ((exact drows_ch _)))))
  ·simp [rlook]
  ·(simp;done)
 rintro ⟨⟨i,acc⟩,hi,hacc,hal⟩
 simp only [keepS,keepE,Option.getD_some,lk_cons,lkE_cons,List.cons_append,List.nil_append,simprocAttr]
 simp only [zX]
 simp only at hi hacc hal
 refine aw_reg 1056 (RG.go fun Q hQ=>?_)
 simp (disch:=first | (intros;contradiction) | omega | (simp only [zN];omega)) only [zS,zW,simprocAttr]
 repeat refine ⟨by ((simp;done)),?_⟩
 refine hQ (RG.nil ?_)
 simp only [zX]
 refine aw_cond _ rfl trivial (fun ht=>?_) (fun hf=>?_)
 ·skip
  try simp at ht
  simp only [zX]
  have hi' : i < v.place.length:=by omega
  have cC:=Chunk_full hg hi' (to:=30) (by omega)
  have hG : Gch v (chG v i v.ws.length):=⟨i,v.ws.length,hi',Nat.le_refl _,rfl⟩
  generalize chG v i v.ws.length = c at cC hG
  have hnew : ∀ y ∈ acc ++ [c],Gch v y:=fun y hy=>by
   rcases List.mem_append.1 hy with hy | hy
   ·exact hacc y hy
   ·simp only [List.mem_singleton] at hy;subst hy;exact hG
  have e2 : List.map chC acc ++ [[.v (.int .i64 c.vol),.v (.int .i64 c.chunk),.v (.int .i64 c.count),.v (.int .i64 c.size),.v (.int .i64 c.mark),.v (.int .i64 c.floor),.sl (c.hist.map hrow)]] = (acc ++ [c]).map chC:=by rw [List.map_append];rfl
  refine aB 1248 ?_
  refine rC [] (cC) ?_ (hs:=(by exact .inr ⟨chC_pure _,trivial⟩))
  refine aEs (fun Q hQ=>by simp (disch:=intros;contradiction) only [zS,zW,chC,chO,e2,simprocAttr];repeat refine ⟨by ((simp;omega)),?_⟩;exact hQ) ?_
  refine aS 1392 (fun Q hQ=>by simp (disch:=first | (intros;contradiction) | omega | (simp only [zN];omega)) only [zS,zW,simprocAttr];exact hQ) ?_
  refine ⟨⟨(i + 1,acc ++ [c]),by simp only;omega,hnew,by simp;omega⟩,?_,by first | omega | (simp only;omega)⟩
  refine Le.lit [] [(5000,1328)] _ _ ?_ ?_ ?_ ?_
  ·simp only [zL,simprocAttr]
   all_goals (try ((repeat' (rfl))))
  ·simp only [zL,simprocAttr]
   all_goals (try ((repeat' ((exact drows_ch _)))))
  ·simp [rlook]
  ·(simp;done)
 try simp at hf
 simp only [zX,↓reduceIte]
 have hal' : acc.length≤1000000:=by omega
 obtain ⟨e,he⟩ : ∃ e,e = lenV v + 2:=⟨_,rfl⟩
 have hw1 : IntKind.i64.wrap (lenV v + 2) = e:=by rw [w64 _ (by omega) (by omega),he]
 have hw2 : IntKind.i64.wrap (k : Int) = k:=w64 _ (by omega) (by omega)
 have hw3 : IntKind.i64.wrap (j : Int) = j:=w64 _ (by omega) (by omega)
 obtain ⟨rk,hrk⟩ : ∃ r,r = (k : Int) % e:=⟨_,rfl⟩
 obtain ⟨rj,hrj⟩ : ∃ r,r = (j : Int) % e:=⟨_,rfl⟩
 have hk1 : (k : Int).tmod e = rk:=by rw [hrk,Int.tmod_eq_emod_of_nonneg (by omega)]
 have hj1 : (j : Int).tmod e = rj:=by rw [hrj,Int.tmod_eq_emod_of_nonneg (by omega)]
 have hk2:=hrk.symm
 have hj2:=hrj.symm
 have cL:=mementoref16_Len_con v
 obtain ⟨xs,hxs⟩ : ∃ xs : List (Int × Int),xs = [(fr,to),(rk,rj),(v.floor,lenV v)]:=⟨_,rfl⟩
 have hxl : xs.length = 3:=by rw [hxs];rfl
 refine awp_pre [(2,I fr),(3,I to),(4,.c (.v (.int .u8 k))),(5,.c (.v (.int .u8 j))),(7,I n),(18,.c (.bp 848 0)),(19,.c (.sl (acc.map chC)))] [(848,.box [.v (.int .i64 v.id),.v (.int .i64 v.blocks),.v (.int .i64 v.size),.v (.int .i64 v.per),.sl (v.place.map nrow),.v (.int .i64 v.total),.v (.int .i64 v.next),.v (.bool v.hid),.v (.int .i64 v.floor),.sl (v.pins.map nrow),.sl (v.ws.map wrow)])] ?_ ?_
 ·skip
  refine Le.lit [5000] [] _ _ ?_ ?_ ?_ ?_
  ·simp only [zL,simprocAttr]
   all_goals (try ((repeat' ((refine ⟨⟨_,_,rfl⟩,?_⟩;(exact drows_ch _))))))
  ·simp only [zL,simprocAttr]
  ·simp [rlook]
  ·(simp;done)
 refine aB 1472 ?_
 refine rC [] (cL) ?_
 refine aEs (fun Q hQ=>by simp (disch:=intros;contradiction) only [zS,hw1,simprocAttr];exact hQ) ?_
 refine aw_draw 1568 (RG.go fun Q hQ=>?_)
 simp (disch:=first | (intros;contradiction) | omega | (simp only [zN];omega)) only [zS,zW,hw2,hw3,hk2,hj2,simprocAttr]
 repeat refine ⟨by (omega),?_⟩
 refine hQ ?_
 refine rC [] (cL) ?_
 refine aED ?_
 refine aw_loopK (X:={ i : Nat // i≤3 }) [5,7,18,19,104,105] (fun i=>[(106,I i.1)]) [848] (fun i=>[(1840,.arr 50 2 (xs.map prI) false)]) (fun i=>3 - i.1) (⟨0,by omega⟩) ?_ ?_
 ·skip
  simp only [keepS,keepE,Option.getD_some,lk_cons,lkE_cons,List.cons_append,List.nil_append,simprocAttr]
  refine Le.lit [] [] _ _ ?_ ?_ ?_ ?_
  ·simp only [zL,simprocAttr]
  ·simp only [zL,simprocAttr]
   all_goals (exact ⟨by rw [hxs];rfl,drows_pr _⟩;skip)
  ·simp [rlook]
  ·(simp;done)
 rintro ⟨i,hi⟩
 simp only [keepS,keepE,Option.getD_some,lk_cons,lkE_cons,List.cons_append,List.nil_append,simprocAttr]
 simp only [zX]
 refine aR 1920 ?_
 refine aw_cond _ rfl trivial (fun ht=>?_) (fun hf=>?_)
 ·skip
  try simp at ht
  simp only [zX]
  have hi' : i < xs.length:=by omega
  obtain ⟨⟨f,t⟩,hx⟩ : ∃ p,xs[i] = p:=⟨_,rfl⟩
  have c1:=export_Full_con v acc t hg hal' hacc
  have c2:=mementoref23_Full_con v acc t hg hal' hacc
  have o1:=strS_ok hg (f:=t) (t:=t) (full:=true) hacc
  generalize strS v acc t t true = q1 at c1 c2 o1
  obtain ⟨s1,e1⟩:=q1
  simp only at c1 c2 o1
  have c3:=Streams_con s1 o1.1 o1.2
  have c4:=export_Since_con v acc f t hg hal' hacc
  have c5:=mementoref23_Since_con v acc f t hg hal' hacc
  have o2:=strS_ok hg (f:=f) (t:=t) (full:=false) hacc
  generalize strS v acc f t false = q2 at c4 c5 o2
  obtain ⟨s2,e2⟩:=q2
  simp only at c4 c5 o2
  have c6:=Streams_con s2 o2.1 o2.2
  refine aw_reg 1968 (RG.go fun Q hQ=>?_)
  simp (disch:=first | (intros;contradiction) | omega | (simp only [zN];omega)) only [zS,zW,prI,hx,simprocAttr]
  repeat refine ⟨by (omega),?_⟩
  refine hQ (RG.nil ?_)
  simp only [zX]
  refine aB 2064 ?_
  refine rC [] (c1) ?_ (hs:=(by exact .inr ⟨strT_pure _ _,trivial⟩))
  refine aEs (fun Q hQ=>by simp (disch:=intros;contradiction) only [zS,strC,simprocAttr];exact hQ) ?_
  refine aB 2272 ?_
  refine rC [] (c2) ?_ (hs:=(by exact .inr ⟨strT_pure _ _,trivial⟩))
  refine aEs (fun Q hQ=>by simp (disch:=intros;contradiction) only [zS,strC,simprocAttr];exact hQ) ?_
  refine aB 2480 ?_
  refine rG _ _ (c3) ?_
  refine aEs (fun Q hQ=>by simp (disch:=intros;contradiction) only [zS,simprocAttr];repeat refine ⟨by ((simp;done)),?_⟩;exact hQ) ?_
  refine aw_cond _ rfl trivial (fun ht=>by simp at ht) (fun hf=>?_)
  simp only [zX]
  refine aB 2656 ?_
  refine rC [] (c4) ?_ (hs:=(by exact .inr ⟨strT_pure _ _,trivial⟩))
  refine aEs (fun Q hQ=>by simp (disch:=intros;contradiction) only [zS,strC,simprocAttr];exact hQ) ?_
  refine aB 2880 ?_
  refine rC [] (c5) ?_ (hs:=(by exact .inr ⟨strT_pure _ _,trivial⟩))
  refine aEs (fun Q hQ=>by simp (disch:=intros;contradiction) only [zS,strC,simprocAttr];exact hQ) ?_
  refine aB 3104 ?_
  refine rG _ _ (c6) ?_
  refine aEs (fun Q hQ=>by simp (disch:=intros;contradiction) only [zS,simprocAttr];repeat refine ⟨by ((simp;done)),?_⟩;exact hQ) ?_
  refine aw_cond _ rfl trivial (fun ht=>by simp at ht) (fun hf=>?_)
  simp only [zX]
  have hw6 : IntKind.i64.wrap ((j : Int) % 6) = (j : Int) % 6:=w64 _ (by omega) (by omega)
  obtain ⟨zs,hzs⟩ : ∃ zs : List Int,zs = [n,(j : Int) % 6]:=⟨_,rfl⟩
  have hzl : zs.length = 2:=by rw [hzs];rfl
  refine aw_reg 3280 (RG.go fun Q hQ=>?_)
  simp (disch:=first | (intros;contradiction) | omega | (simp only [zN];omega)) only [zS,zW,hw6,simprocAttr]
  repeat refine ⟨by (omega),?_⟩
  refine hQ (RG.nil ?_)
  simp only [zX]
  refine aw_loopK (X:={ q : Nat // q≤2 }) [5,7,18,19,23,104,105,106,168,169] (fun q=>[(170,I q.1)]) [848,2000,1840] (fun q=>[(3344,.arr 3 1 (zs.map nrow) false)]) (fun q=>2 - q.1) (⟨0,by omega⟩) ?_ ?_
  ·skip
   simp only [keepS,keepE,Option.getD_some,lk_cons,lkE_cons,List.cons_append,List.nil_append,simprocAttr]
   refine Le.lit [] [] _ _ ?_ ?_ ?_ ?_
   ·simp only [zL,simprocAttr]
   ·simp only [zL,simprocAttr]
    all_goals (exact ⟨⟨by rw [hzs];rfl,drows_nrow _⟩,drows_pr _⟩;skip)
   ·simp [rlook]
   ·(simp;done)
  rintro ⟨q,hq⟩
  simp only [keepS,keepE,Option.getD_some,lk_cons,lkE_cons,List.cons_append,List.nil_append,simprocAttr]
  simp only [zX]
  refine aR 3424 ?_
  refine aw_cond _ rfl trivial (fun ht=>?_) (fun hf=>?_)
  ·skip
   try simp at ht
   simp only [zX]
   have hq' : q < zs.length:=by omega
   obtain ⟨z,hz⟩ : ∃ z,zs[q] = z:=⟨_,rfl⟩
   have cP:=export_Pick_con v acc z f t hg hal' hacc
   have cQ:=mementoref23_Pick_con v acc z f t hg hal'
   have ok:=pickR_ok hg hacc z f t
   generalize pickR (pickO v acc z f t) = r at cP cQ ok
   obtain ⟨c,b⟩:=r
   simp only at cP cQ ok
   have hbb : (b != b) = false:=by simp
   have cH:=Chunks_con [c] (by simp) (fun y hy=>by simp only [List.mem_singleton] at hy;subst hy;exact ok)
   have hdr:=drows_ch [c]
   simp only [List.map_cons,List.map_nil] at cH hdr
   refine aw_reg 3472 (RG.go fun Q hQ=>?_)
   simp (disch:=first | (intros;contradiction) | omega | (simp only [zN];omega)) only [zS,zW,nrow,hz,simprocAttr]
   repeat refine ⟨by (omega),?_⟩
   refine hQ (RG.nil ?_)
   simp only [zX]
   refine aB 3552 ?_
   refine rC [] (cP) ?_ (hs:=(by exact .inr ⟨chT_pure _ _,trivial⟩))
   refine aEs (fun Q hQ=>by simp (disch:=intros;contradiction) only [zS,chC,chO,simprocAttr];exact hQ) ?_
   refine aB 3808 ?_
   refine rC [] (cQ) ?_ (hs:=(by exact .inr ⟨chT_pure _ _,trivial⟩))
   refine aEs (fun Q hQ=>by simp (disch:=intros;contradiction) only [zS,chC,chO,simprocAttr];exact hQ) ?_
   refine aw_reg 4064 (RG.cutGo 4 fun Q hQ=>?_)
   simp only [List.take_succ_cons,List.take_zero]
   simp (disch:=intros;contradiction) only [zS,simprocAttr]
   refine hQ ?_
   simp only [List.nil_append,List.drop_succ_cons,List.drop_zero]
   refine RG.unAll (gs:=199) (want:=false) (g:=true) (t:=false) rfl rfl (by simp (disch:=first | (intros;contradiction) | omega) only [lk_cons,gval,simprocAttr]) ?_
   simp only [List.map_cons,List.map_nil]
   refine aM ?_
   refine rC [4144,4176] (cH) ?_
   refine aE ?_
   refine aw_cond _ rfl trivial (fun ht=>by simp at ht) (fun hf=>?_)
   simp only [zX]
   refine aS 4272 (fun Q hQ=>by simp (disch:=first | (intros;contradiction) | omega | (simp only [zN];omega)) only [zS,zW,simprocAttr];exact hQ) ?_
   refine ⟨⟨q + 1,by omega⟩,?_,by first | omega | (simp only;omega)⟩
   refine Le.lit [] [] _ _ ?_ ?_ ?_ ?_
   ·simp only [zL,simprocAttr]
    all_goals (try ((repeat' (rfl))))
   ·simp only [zL,simprocAttr]
    all_goals (try ((repeat' (first | (first | exact drows_pr _ | exact drows_nrow _) | refine ⟨?_,?_⟩))))
   ·simp [rlook]
   ·(simp;done)
  try simp at hf
  simp only [zX,↓reduceIte]
  refine aS 4336 (fun Q hQ=>by simp (disch:=first | (intros;contradiction) | omega | (simp only [zN];omega)) only [zS,zW,simprocAttr];exact hQ) ?_
  refine ⟨⟨i + 1,by omega⟩,?_,by first | omega | (simp only;omega)⟩
  refine Le.lit [] [] _ _ ?_ ?_ ?_ ?_
  ·simp only [zL,simprocAttr]
   all_goals (try ((repeat' (rfl))))
  ·simp only [zL,simprocAttr]
   all_goals (try ((repeat' ((exact drows_pr _)))))
  ·simp [rlook]
  ·(simp;done)
 try simp at hf
 simp only [zX,↓reduceIte]
 refine aR 4400 ?_
 refine Fin.b (.inr rfl) rfl trivial ?_
 rfl

theorem ExportTells_law (l : List Nat) (hl : (∀ c ∈ l,c < 256)∧l.length≤9223372036854775807) (marks : List Nat) (hm : (∀ c ∈ marks,c < 256)∧marks.length≤9223372036854775807) (fr to : Int) (k : Nat) (hk : k < 256) (j : Nat) (hj : j < 256) (raw : List CH) (n : Int) :
  Con Tryz.prog 4 [.c (.sl (l.map brow)),.c (.sl (marks.map brow)),I fr,I to,.c (.v (.int .u8 k)),.c (.v (.int .u8 j)),.c (.sl (raw.map chC)),I n] [] (B true) []:=ExportTells_con l marks fr to k j raw n hl.1 hm.1 hk hj

end Go.Abs

