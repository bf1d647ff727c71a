/- What the functions that the law comes to do, part 2. No condition. -/
import Derived.Test.YtidooialknbgaaaGreatCona
set_option linter.unusedVariables false
set_option linter.unusedSimpArgs false
set_option linter.unnecessarySimpa false
namespace Go.Abs
open Go Go.Proofs
set_option maxRecDepth 100000
set_option linter.unusedSimpArgs false
set_option maxHeartbeats 8000000

theorem hasL_mem {k : Int} {c : Nat} (h : c ∈ hasL k) : c = 116∨c = 105∨c = 120∨c = 99∨c = 111∨c = 101∨c = 98∨c = 100∨c = 109:=by
 unfold hasL at h
 repeat' split at h
 all_goals (simp at h <;> omega)
theorem hasL_len (k : Int) : (hasL k).length≤4:=by
 unfold hasL
 repeat' split
 all_goals simp
def partM (m : MG) (i : Nat) : MG:=((hasL m.kind).take i).foldl (setF m) (baseM m)
theorem partM_succ (m : MG) (i : Nat) (h : i < (hasL m.kind).length) : partM m (i + 1) = setF m (partM m i) (hasL m.kind)[i]:=by
 unfold partM;rw [take_one _ _ h,List.foldl_append];rfl
theorem msg_only_con (m : MG) : Con Tryz.prog 35 [.agg (msgC m)] [] (.agg (msgC (onlyM m))) []:=by
 have cH:=msg_has_con m.kind
 have hat:=hasB_at m.kind
 have hln:=hasL_len m.kind
 refine C_msg_only nl nl ?_
 simp only [cz,A_msg_only,argL,objL,List.length_nil,zX]
 refine aS 16 (fun Q hQ=>by simp (disch:=intros;contradiction) only [zS,msgC,simprocAttr];exact hQ) ?_
 refine aR 80 ?_
 refine aB 288 ?_
 refine rC [] (cH) ?_
 refine aE ?_
 refine aw_loopK (X:={ p : Nat × MG // p.1≤(hasL m.kind).length∧p.2 = partM m p.1 }) [1,2,3,18] (fun p=>[]) [16,32] (fun p=>[(336,.it (hasB m.kind) p.1.1),(224,.box [.v (.int .i64 p.1.2.kind),.v (.int .i64 p.1.2.grp),.v (.int .i64 p.1.2.frm),.v (.int .i64 p.1.2.to),.v (.int .i64 p.1.2.term),.v (.int .i64 p.1.2.idx),.v (.int .i64 p.1.2.lterm),.v (.int .i64 p.1.2.com),.v (.bool p.1.2.ok),.sl (p.1.2.es.map erow),.v (.int .i64 p.1.2.bi),.v (.int .i64 p.1.2.bt),.sl (p.1.2.bc.map nrow),.sl (p.1.2.bd.map brow),.sl (p.1.2.d.map brow),.v (.int .i64 p.1.2.vol),.v (.int .i64 p.1.2.chk),.v (.int .i64 p.1.2.mark),.v (.int .i64 p.1.2.floor)])]) (fun p=>(hasL m.kind).length - p.1.1) (⟨(0,baseM m),by simp only;omega,rfl⟩) ?_ ?_
 ·skip
  simp only [keepS,keepE,Option.getD_some,lk_cons,lkE_cons,List.cons_append,List.nil_append,simprocAttr]
  refine Le.lit [] [] _ _ ?_ ?_ ?_ ?_
  ·simp only [zL,simprocAttr]
  ·simp only [zL,simprocAttr]
   all_goals (try ((repeat' (first | rfl | refine ⟨?_,?_⟩))))
  ·simp [rlook]
  ·(simp;done)
 rintro ⟨⟨i,q⟩,hi,hq⟩
 simp only [keepS,keepE,Option.getD_some,lk_cons,lkE_cons,List.cons_append,List.nil_append,simprocAttr]
 simp only [zX]
 simp only at hi hq
 have hai:=hat i
 by_cases hil : i < (hasL m.kind).length
 ·skip
  obtain ⟨c,hc⟩ : ∃ c,(hasL m.kind)[i] = c:=⟨_,rfl⟩
  have hcm : c ∈ hasL m.kind:=by rw [← hc];exact List.getElem_mem hil
  have hcs:=hasL_mem hcm
  have hsucc:=partM_succ m i hil
  rw [hc,← hq] at hsucc
  rw [List.getElem?_eq_getElem hil,hc] at hai
  simp only [Option.map_some] at hai
  obtain ⟨k,g,f,o,t,x,lt,c',ok,es,bi,bt,bc,bd,d,v,ch,mk,fl⟩:=q
  simp only
  have hcn : (UInt8.ofNat c).toNat = c:=by
   have hlt : c < 256:=by omega
   simp;omega
  refine aw_reg 384 (RG.go fun Q hQ=>?_)
  simp (disch:=intros;contradiction) only [zS,hai,hcn,simprocAttr]
  refine ⟨⟨by omega,by omega⟩,hQ (RG.nil ?_)⟩
  simp only [zX]
  refine aT ?_
  refine aR 448 ?_
  refine aR 512 ?_
  refine aR 560 ?_
  refine aw_cond _ rfl trivial (fun ht=>?_) (fun hf=>?_)
  ·skip
   try simp at ht
   have hce : c = 116:=by omega
   rw [hce] at hsucc
   refine aR 624 ?_
   refine ⟨⟨(i + 1,⟨k,g,f,o,m.term,x,lt,c',ok,es,bi,bt,bc,bd,d,v,ch,mk,fl⟩),by simp only;omega,hsucc.symm⟩,?_,by first | omega | (simp only;omega)⟩
   refine Le.lit [] [] _ _ ?_ ?_ ?_ ?_
   ·simp only [zL,simprocAttr]
   ·simp only [zL,simprocAttr]
   ·simp [rlook]
   ·(simp;done)
  try simp at hf
  simp only [zX]
  refine aR 720 ?_
  refine aw_cond _ rfl trivial (fun ht=>?_) (fun hf=>?_)
  ·skip
   try simp at ht
   have hce : c = 105:=by omega
   rw [hce] at hsucc
   refine aD 784 ?_
   refine ⟨⟨(i + 1,⟨k,g,f,o,t,m.idx,m.lterm,c',ok,es,bi,bt,bc,bd,d,v,ch,mk,fl⟩),by simp only;omega,hsucc.symm⟩,?_,by first | omega | (simp only;omega)⟩
   refine Le.lit [] [] _ _ ?_ ?_ ?_ ?_
   ·simp only [zL,simprocAttr]
   ·simp only [zL,simprocAttr]
   ·simp [rlook]
   ·(simp;done)
  try simp at hf
  simp only [zX]
  refine aR 944 ?_
  refine aw_cond _ rfl trivial (fun ht=>?_) (fun hf=>?_)
  ·skip
   try simp at ht
   have hce : c = 120:=by omega
   rw [hce] at hsucc
   refine aR 1008 ?_
   refine ⟨⟨(i + 1,⟨k,g,f,o,t,m.idx,lt,c',ok,es,bi,bt,bc,bd,d,v,ch,mk,fl⟩),by simp only;omega,hsucc.symm⟩,?_,by first | omega | (simp only;omega)⟩
   refine Le.lit [] [] _ _ ?_ ?_ ?_ ?_
   ·simp only [zL,simprocAttr]
   ·simp only [zL,simprocAttr]
   ·simp [rlook]
   ·(simp;done)
  try simp at hf
  simp only [zX]
  refine aR 1104 ?_
  refine aw_cond _ rfl trivial (fun ht=>?_) (fun hf=>?_)
  ·skip
   try simp at ht
   have hce : c = 99:=by omega
   rw [hce] at hsucc
   refine aR 1168 ?_
   refine ⟨⟨(i + 1,⟨k,g,f,o,t,x,lt,m.com,ok,es,bi,bt,bc,bd,d,v,ch,mk,fl⟩),by simp only;omega,hsucc.symm⟩,?_,by first | omega | (simp only;omega)⟩
   refine Le.lit [] [] _ _ ?_ ?_ ?_ ?_
   ·simp only [zL,simprocAttr]
   ·simp only [zL,simprocAttr]
   ·simp [rlook]
   ·(simp;done)
  try simp at hf
  simp only [zX]
  refine aR 1264 ?_
  refine aw_cond _ rfl trivial (fun ht=>?_) (fun hf=>?_)
  ·skip
   try simp at ht
   have hce : c = 111:=by omega
   rw [hce] at hsucc
   refine aR 1328 ?_
   refine ⟨⟨(i + 1,⟨k,g,f,o,t,x,lt,c',m.ok,es,bi,bt,bc,bd,d,v,ch,mk,fl⟩),by simp only;omega,hsucc.symm⟩,?_,by first | omega | (simp only;omega)⟩
   refine Le.lit [] [] _ _ ?_ ?_ ?_ ?_
   ·simp only [zL,simprocAttr]
   ·simp only [zL,simprocAttr]
   ·simp [rlook]
   ·(simp;done)
  try simp at hf
  simp only [zX]
  refine aR 1424 ?_
  refine aw_cond _ rfl trivial (fun ht=>?_) (fun hf=>?_)
  ·skip
   try simp at ht
   have hce : c = 101:=by omega
   rw [hce] at hsucc
   refine aR 1488 ?_
   refine ⟨⟨(i + 1,⟨k,g,f,o,t,x,lt,c',ok,m.es,bi,bt,bc,bd,d,v,ch,mk,fl⟩),by simp only;omega,hsucc.symm⟩,?_,by first | omega | (simp only;omega)⟩
   refine Le.lit [] [] _ _ ?_ ?_ ?_ ?_
   ·simp only [zL,simprocAttr]
   ·simp only [zL,simprocAttr]
   ·simp [rlook]
   ·(simp;done)
  try simp at hf
  simp only [zX]
  refine aR 1584 ?_
  refine aw_cond _ rfl trivial (fun ht=>?_) (fun hf=>?_)
  ·skip
   try simp at ht
   have hce : c = 98:=by omega
   rw [hce] at hsucc
   refine aR 1648 ?_
   refine ⟨⟨(i + 1,⟨k,g,f,o,t,x,lt,c',ok,es,m.bi,m.bt,m.bc,m.bd,d,v,ch,mk,fl⟩),by simp only;omega,hsucc.symm⟩,?_,by first | omega | (simp only;omega)⟩
   refine Le.lit [] [] _ _ ?_ ?_ ?_ ?_
   ·simp only [zL,simprocAttr]
   ·simp only [zL,simprocAttr]
   ·simp [rlook]
   ·(simp;done)
  try simp at hf
  simp only [zX]
  refine aR 1744 ?_
  refine aw_cond _ rfl trivial (fun ht=>?_) (fun hf=>?_)
  ·skip
   try simp at ht
   have hce : c = 100:=by omega
   rw [hce] at hsucc
   refine aR 1808 ?_
   refine ⟨⟨(i + 1,⟨k,g,f,o,t,x,lt,c',ok,es,bi,bt,bc,bd,m.d,v,ch,mk,fl⟩),by simp only;omega,hsucc.symm⟩,?_,by first | omega | (simp only;omega)⟩
   refine Le.lit [] [] _ _ ?_ ?_ ?_ ?_
   ·simp only [zL,simprocAttr]
   ·simp only [zL,simprocAttr]
   ·simp [rlook]
   ·(simp;done)
  try simp at hf
  have hce : c = 109:=by omega
  rw [hce] at hsucc
  refine aD 1904 ?_
  refine ⟨⟨(i + 1,⟨k,g,f,o,t,x,lt,c',ok,es,bi,bt,bc,bd,d,m.vol,m.chk,m.mark,m.floor⟩),by simp only;omega,hsucc.symm⟩,?_,by first | omega | (simp only;omega)⟩
  refine Le.lit [] [] _ _ ?_ ?_ ?_ ?_
  ·simp only [zL,simprocAttr]
  ·simp only [zL,simprocAttr]
  ·simp [rlook]
  ·(simp;done)
 have hno : (hasL m.kind)[i]? = none:=List.getElem?_eq_none (by omega)
 rw [hno] at hai
 simp only [Option.map_none] at hai
 refine aS 2192 (fun Q hQ=>by simp (disch:=intros;contradiction) only [zS,hai,simprocAttr];exact hQ) ?_
 refine aw_cond _ rfl trivial (fun ht=>by cases ht) (fun hf=>?_)
 simp only [zX,↓reduceIte]
 have ho : onlyM m = q:=by
  rw [hq];unfold partM;rw [List.take_of_length_le (by omega)];rfl
 rw [ho]
 refine aR 2256 ?_
 refine Fin.data [] (.inr rfl) rfl (by (exact ⟨trivial,trivial⟩)) ?_
 simp only [zL]
 all_goals ((repeat' (first | exact trivial | rfl | refine ⟨?_,?_⟩)))

end Go.Abs

namespace Go.Abs
open Go Go.Proofs
set_option maxRecDepth 100000
set_option linter.unusedSimpArgs false
set_option maxHeartbeats 8000000

theorem onlyM_ok {m : MG} (h : Mok m) : Mok (onlyM m):=by
 obtain ⟨h1,h2,h3,h4,h5,h6,h7⟩:=h
 unfold onlyM hasL
 repeat' split
 all_goals
  constructor
  all_goals
   simp only [List.foldl_cons,List.foldl_nil,setF,baseM,byM]
   simp
   try assumption
 all_goals (try exact ⟨h5,by simp,by simp⟩)
theorem msgC_pure (m : MG) : (SV.agg (msgC m)).pureD:=by
 intro c hc
 simp only [msgC,List.mem_cons,List.not_mem_nil,or_false] at hc
 rcases hc with rfl | rfl | rfl | rfl | rfl | rfl | rfl | rfl | rfl | rfl | rfl | rfl | rfl | rfl | rfl | rfl | rfl | rfl | rfl <;> rfl
theorem not_right {m : MG} (h : MFacts m→False) : rightM m = false:=by
 cases hr : rightM m
 ·rfl
 ·exact (h (rightM_facts hr)).elim
theorem msg_Right_con (m : MG) (hm : Mok m) : Con Tryz.prog 12 [.agg (msgC m)] [] (B (rightM m)) []:=by
 have cO:=msg_only_con m
 have cS:=msg_Same_con m (onlyM m) hm (onlyM_ok hm)
 refine C_msg_Right nl nl ?_
 simp only [cz,A_msg_Right,argL,objL,List.length_nil,zX]
 refine aS 16 (fun Q hQ=>by simp (disch:=intros;contradiction) only [zS,msgC,simprocAttr];exact hQ) ?_
 by_cases hk : m.kind < 1
 ·skip
  have hd : decide (m.kind < 1) = true:=decide_eq_true hk
  rw [not_right (m:=m) (fun F=>by have:=F.k1;omega)]
  refine aBDs 80 (fun Q hQ=>by simp (disch:=intros;contradiction) only [zS,hd,simprocAttr];exact hQ) ?_
  refine RG.callg (res:=(.agg (msgC m))) _ _ [] rfl (fun hg=>by simp at hg) ?_
  refine aMs (fun Q hQ=>by simp (disch:=intros;contradiction) only [zS,msgC,simprocAttr];exact hQ) ?_
  refine RG.callg (res:=B true) _ _ [] rfl (fun hg=>by simp at hg) ?_
  refine aED ?_
  refine aT ?_
  refine aR 368 ?_
  exact Fin.scalar (.inr rfl) rfl trivial rfl trivial
 have hd : decide (m.kind < 1) = false:=decide_eq_false hk
 by_cases hk9 : 9 < m.kind
 ·skip
  have hd9 : decide (m.kind > 9) = true:=decide_eq_true hk9
  rw [not_right (m:=m) (fun F=>by have:=F.k9;omega)]
  refine aBDs 416 (fun Q hQ=>by simp (disch:=intros;contradiction) only [zS,hd,hd9,simprocAttr];exact hQ) ?_
  refine RG.callg (res:=(.agg (msgC m))) _ _ [] rfl (fun hg=>by simp at hg) ?_
  refine aMs (fun Q hQ=>by simp (disch:=intros;contradiction) only [zS,msgC,simprocAttr];exact hQ) ?_
  refine RG.callg (res:=B true) _ _ [] rfl (fun hg=>by simp at hg) ?_
  refine aED ?_
  refine aT ?_
  refine aR 704 ?_
  exact Fin.scalar (.inr rfl) rfl trivial rfl trivial
 have hd9 : decide (m.kind > 9) = false:=decide_eq_false hk9
 refine aw_draw 752 ?_
 refine RG.cutGo 9 fun Q hQ=>?_
 simp only [List.take_succ_cons,List.take_zero]
 simp (disch:=intros;contradiction) only [zS,hd,hd9,simprocAttr]
 refine hQ ?_
 simp only [List.nil_append,List.drop_succ_cons,List.drop_zero]
 refine RG.unSome (gs:=12) (want:=false) (g:=true) (t:=false) rfl rfl (by simp (disch:=first | (intros;contradiction) | omega) only [lk_cons,gval,simprocAttr]) ?_
 simp only [List.map_cons,List.map_nil,ug,and_self,↓reduceIte]
 refine aM ?_
 refine rC [] (cO) ?_ (hs:=(by exact .inr ⟨msgC_pure _,trivial⟩))
 refine aMs (fun Q hQ=>by simp (disch:=intros;contradiction) only [zS,msgC,simprocAttr];exact hQ) ?_
 refine rC [] (cS) ?_
 refine aED ?_
 refine aw_cond _ rfl trivial (fun ht=>?_) (fun hf=>?_)
 ·skip
  try simp at ht
  simp only [zX]
  rw [not_right (m:=m) (fun F=>ht F.only)]
  refine aR 1040 ?_
  exact Fin.scalar (.inr rfl) rfl trivial rfl trivial
 try simp at hf
 simp only [zX]
 have hon:=hf
 have cG:=msg_within_con 7 [m.grp] (by simp)
 have cF:=msg_within_con 6 [m.frm,m.to] (by simp)
 have cT:=msg_within_con 1099511627776 [m.term,m.idx,m.lterm,m.com,m.mark,m.floor] (by simp)
 simp only [List.map_cons,List.map_nil,nrow] at cG cF cT
 cases hg : ([m.grp].all fun n=>decide (0≤n) && decide (n≤7))
 ·skip
  rw [hg] at cG
  rw [not_right (m:=m) (fun F=>by simp [F.g0,F.g7] at hg)]
  refine aB 1088 ?_
  refine rO [] [1120] (cG) ?_
  refine aM ?_
  refine RG.callg (res:=B true) _ _ [] rfl (fun hg=>by simp at hg) ?_
  refine aM ?_
  refine RG.callg (res:=B true) _ _ [] rfl (fun hg=>by simp at hg) ?_
  refine aE ?_
  refine aT ?_
  refine aR 1632 ?_
  exact Fin.scalar (.inr rfl) rfl trivial rfl trivial
 rw [hg] at cG
 simp at hg
 cases hft : ([m.frm,m.to].all fun n=>decide (0≤n) && decide (n≤6))
 ·skip
  rw [hft] at cF
  rw [not_right (m:=m) (fun F=>by simp [F.f0,F.f6,F.t0,F.t6] at hft)]
  refine aw_reg 1680 ?_
  refine aM ?_
  refine rO [] [1712] (cG) ?_
  refine RG.cutGo 2 fun Q hQ=>?_
  simp only [List.take_succ_cons,List.take_zero]
  simp (disch:=intros;contradiction) only [zS,simprocAttr]
  refine hQ ?_
  simp only [List.nil_append,List.drop_succ_cons,List.drop_zero]
  refine RG.unSome (gs:=25) (want:=false) (g:=true) (t:=false) rfl rfl (by simp (disch:=first | (intros;contradiction) | omega) only [lk_cons,gval,simprocAttr]) ?_
  simp only [List.map_cons,List.map_nil,ug,and_self,and_true,simprocAttr]
  refine aM ?_
  refine rO [] [1840] (cF) ?_
  refine aM ?_
  refine RG.callg (res:=B true) _ _ [] rfl (fun hg=>by simp at hg) ?_
  refine aE ?_
  refine aT ?_
  refine aR 2224 ?_
  exact Fin.scalar (.inr rfl) rfl trivial rfl trivial
 rw [hft] at cF
 simp at hft
 cases hti : ([m.term,m.idx,m.lterm,m.com,m.mark,m.floor].all fun n=>decide (0≤n) && decide (n≤1099511627776))
 ·skip
  rw [hti] at cT
  rw [not_right (m:=m) (fun F=>by simp [F.term,F.idx,F.lterm,F.com,F.mark,F.floor] at hti)]
  refine aw_reg 2272 ?_
  refine aM ?_
  refine rO [] [2304] (cG) ?_
  refine RG.cutGo 2 fun Q hQ=>?_
  simp only [List.take_succ_cons,List.take_zero]
  simp (disch:=intros;contradiction) only [zS,simprocAttr]
  refine hQ ?_
  simp only [List.nil_append,List.drop_succ_cons,List.drop_zero]
  refine RG.unSome (gs:=25) (want:=false) (g:=true) (t:=false) rfl rfl (by simp (disch:=first | (intros;contradiction) | omega) only [lk_cons,gval,simprocAttr]) ?_
  simp only [List.map_cons,List.map_nil,ug,and_self,and_true,simprocAttr]
  refine aM ?_
  refine rO [] [2432] (cF) ?_
  refine RG.cutGo 3 fun Q hQ=>?_
  simp only [List.take_succ_cons,List.take_zero]
  simp (disch:=intros;contradiction) only [zS,simprocAttr]
  refine hQ ?_
  simp only [List.nil_append,List.drop_succ_cons,List.drop_zero]
  refine RG.unSome (gs:=34) (want:=false) (g:=true) (t:=false) rfl rfl (by simp (disch:=first | (intros;contradiction) | omega) only [lk_cons,gval,simprocAttr]) ?_
  simp only [List.map_cons,List.map_nil,ug,and_self,↓reduceIte]
  refine aM ?_
  refine rO [] [2704] (cT) ?_
  refine aE ?_
  refine aT ?_
  refine aR 2816 ?_
  exact Fin.scalar (.inr rfl) rfl trivial rfl trivial
 rw [hti] at cT
 simp at hti
 refine aw_reg 2864 ?_
 refine aM ?_
 refine rO [] [2896] (cG) ?_
 refine RG.cutGo 2 fun Q hQ=>?_
 simp only [List.take_succ_cons,List.take_zero]
 simp (disch:=intros;contradiction) only [zS,simprocAttr]
 refine hQ ?_
 simp only [List.nil_append,List.drop_succ_cons,List.drop_zero]
 refine RG.unSome (gs:=25) (want:=false) (g:=true) (t:=false) rfl rfl (by simp (disch:=first | (intros;contradiction) | omega) only [lk_cons,gval,simprocAttr]) ?_
 simp only [List.map_cons,List.map_nil,ug,and_self,and_true,simprocAttr]
 refine aM ?_
 refine rO [] [3024] (cF) ?_
 refine RG.cutGo 3 fun Q hQ=>?_
 simp only [List.take_succ_cons,List.take_zero]
 simp (disch:=intros;contradiction) only [zS,simprocAttr]
 refine hQ ?_
 simp only [List.nil_append,List.drop_succ_cons,List.drop_zero]
 refine RG.unSome (gs:=34) (want:=false) (g:=true) (t:=false) rfl rfl (by simp (disch:=first | (intros;contradiction) | omega) only [lk_cons,gval,simprocAttr]) ?_
 simp only [List.map_cons,List.map_nil,ug,and_self,↓reduceIte]
 refine aM ?_
 refine rO [] [3296] (cT) ?_
 refine aE ?_
 refine aF ?_
 have cN:=msg_entries_con m.es hm.es
 have cB:=entry_BaseRight_con m.bi m.bt m.bc m.bd hm.bc
 cases he : (entsR m.es && decide (m.es.length≤4))
 ·skip
  rw [he] at cN
  rw [not_right (m:=m) (fun F=>by simp [F.es,F.es4] at he)]
  refine aB 3408 ?_
  refine rC [] (cN) ?_
  refine aM ?_
  refine RG.callg (res:=B true) _ _ [] rfl (fun hg=>by simp at hg) ?_
  refine aEs (fun Q hQ=>by simp (disch:=intros;contradiction) only [zS,zW,simprocAttr];exact hQ) ?_
  refine aT ?_
  refine aR 3792 ?_
  exact Fin.scalar (.inr rfl) rfl trivial rfl trivial
 rw [he] at cN
 simp at he
 have hw1 : ((m.kind≠7∨baseRight m.bi m.bt m.bc m.bd = true)∧m.d.length≤65535→False)→MFacts m→False:=fun h F=>h ⟨F.base,F.d⟩
 refine aB 3840 ?_
 refine rC [] (cN) ?_
 refine aM ?_
 refine rG _ _ (cB) ?_
 refine RG.go fun Q hQ=>?_
 simp (disch:=intros;contradiction) only [zS,zW,simprocAttr]
 refine ⟨fun h=>by rw [h];rfl,hQ (RG.nil ?_)⟩
 simp only [zX]
 refine aw_cond _ rfl trivial (fun ht=>?_) (fun hf=>?_)
 ·skip
  try simp at ht
  simp only [zX]
  rw [not_right (m:=m) (hw1 fun h=>by
   rcases ht with ⟨h1,h2⟩ | h1
   ·rcases h.1 with h3 | h3
    ·exact h3 h1
    ·rw [h2] at h3;cases h3
   ·have:=h.2;omega)]
  refine aR 4224 ?_
  exact Fin.scalar (.inr rfl) rfl trivial rfl trivial
 try simp at hf
 simp only [zX]
 have hbd : (m.kind≠7∨baseRight m.bi m.bt m.bc m.bd = true)∧m.d.length≤65535:=by
  refine ⟨?_,by have:=hf.2;omega⟩
  rcases Decidable.em (m.kind = 7) with h | h
  ·exact .inr (hf.1 h)
  ·exact .inl h
 have cV:=msg_within_con 7 [m.vol] (by simp)
 have cC:=msg_within_con 255 [m.chk] (by simp)
 simp only [List.map_cons,List.map_nil,nrow] at cV cC
 cases hv : ([m.vol].all fun n=>decide (0≤n) && decide (n≤7))
 ·skip
  rw [hv] at cV
  rw [not_right (m:=m) (fun F=>by simp [F.v0,F.v7] at hv)]
  refine aB 4272 ?_
  refine rO [] [4304] (cV) ?_
  refine aM ?_
  refine RG.callg (res:=B true) _ _ [] rfl (fun hg=>by simp at hg) ?_
  refine aE ?_
  exact Fin.scalar (.inr rfl) rfl trivial rfl trivial
 rw [hv] at cV
 simp at hv
 refine aw_reg 4480 ?_
 refine aM ?_
 refine rO [] [4512] (cV) ?_
 refine RG.cutGo 1 fun Q hQ=>?_
 simp only [List.take_succ_cons,List.take_zero]
 simp (disch:=intros;contradiction) only [zS,simprocAttr]
 refine hQ ?_
 simp only [List.nil_append,List.drop_succ_cons,List.drop_zero]
 refine RG.unSome (gs:=77) (want:=true) (g:=true) (t:=true) rfl rfl (by simp (disch:=first | (intros;contradiction) | omega) only [lk_cons,gval,simprocAttr]) ?_
 simp only [List.map_cons,List.map_nil,ug,and_self,↓reduceIte]
 refine aM ?_
 refine rO [] [4592] (cC) ?_
 refine aE ?_
 refine Fin.b (.inr rfl) rfl trivial ?_
 rw [Bool.eq_iff_iff]
 constructor
 ·intro h
  simp at h
  simp at hd hd9
  exact (rightM_of ⟨by omega,by omega,hon,by omega,by omega,by omega,by omega,by omega,by omega,by omega,by omega,by omega,by omega,by omega,by omega,he.1,he.2,hbd.1,hbd.2,by omega,by omega,by omega,by omega⟩)
 ·intro h
  have F:=rightM_facts h
  simp [F.c0,F.c255]

end Go.Abs

namespace Go.Abs
open Go Go.Proofs
set_option maxRecDepth 100000
set_option linter.unusedSimpArgs false
set_option maxHeartbeats 8000000

theorem awp_pre {P : Program} {n : Nat} {ops : List AO} {d : Bool} {Q : Exit→St→Prop} {l : SL} {es : EL} (l' : SL) (es' : EL) (h : Le n (mkSt l es) (mkSt l' es')) (h2 : awp P n (.region ops d) Q (mkSt l' es')) : awp P n (.region ops d) Q (mkSt l es):=by
 obtain ⟨s0,h3,h4⟩:=h2
 exact ⟨s0,h.trans h3,h4⟩

theorem msg_flag_con (b : Bool) : Con Tryz.prog 24 [B b] [] (.c (.v (.int .u64 ((if b then 1 else 0 : Nat) : Int)))) []:=by
 refine C_msg_flag nl nl ?_
 simp only [cz,A_msg_flag,argL,objL,List.length_nil,zX]
 refine aR 16 ?_
 refine aR 64 ?_
 refine aw_cond _ rfl trivial (fun ht=>?_) (fun hf=>?_)
 ·skip
  try simp at ht
  simp only [zX]
  rw [ht]
  refine aw_reg 112 (RG.go fun Q hQ=>?_)
  simp (disch:=intros;contradiction) only [zS,simprocAttr]
  refine hQ (RG.nil ?_)
  simp only [zX,↓reduceIte]
  exact Fin.scalar (.inr rfl) rfl trivial rfl trivial
 try simp at hf
 simp only [zX]
 rw [hf]
 refine aw_reg 160 (RG.go fun Q hQ=>?_)
 simp (disch:=intros;contradiction) only [zS,simprocAttr]
 refine hQ (RG.nil ?_)
 simp only [zX,simprocAttr]
 exact Fin.scalar (.inr rfl) rfl trivial rfl trivial

theorem msg_Put_1_con (n : Int) (h0 : 0≤n) (h1 : n≤1099511627776) : Con Tryz.prog 22 [I n] [] (.c (.v (.int .u64 n))) []:=by
 have hw : IntKind.u64.wrap n = n:=by rw [w_u64];omega
 refine C_msg_Put_1 nl nl ?_
 simp only [cz,A_msg_Put_1,argL,objL,List.length_nil,zX]
 refine aR 16 ?_
 refine aS 64 (fun Q hQ=>by simp (disch:=intros;contradiction) only [zS,hw,simprocAttr];exact hQ) ?_
 exact Fin.scalar (.inr rfl) rfl trivial rfl trivial

theorem headM_len {m : MG} (F : MFacts m) : (headM m).length≤100:=by
 unfold headM
 have:=putS_len [m.kind.toNat,m.grp.toNat,m.frm.toNat,m.to.toNat,m.term.toNat,m.idx.toNat,m.lterm.toNat,m.com.toNat,(if m.ok then 1 else 0),m.es.length] (by
  have k9:=F.k9;have g7:=F.g7;have f6:=F.f6;have t6:=F.t6;have te:=F.term;have ix:=F.idx;have lt:=F.lterm;have co:=F.com;have e4:=F.es4
  intro n hn
  simp only [List.mem_cons,List.not_mem_nil,or_false] at hn
  have hok : (if m.ok then 1 else 0 : Nat)≤1:=by split <;> omega
  omega)
 simpa using this
theorem tailM_len {m : MG} (F : MFacts m) : (tailM m).length≤40:=by
 unfold tailM
 have:=putS_len [m.vol.toNat,m.chk.toNat,m.mark.toNat,m.floor.toNat] (by
  have v7:=F.v7;have c5:=F.c255;have ma:=F.mark;have fl:=F.floor
  intro n hn
  simp only [List.mem_cons,List.not_mem_nil,or_false] at hn
  omega)
 simpa using this
theorem esB_len (l : List EN) : (esB l).length≤l.length * 40000:=by
 induction l with
 | nil=>simp [esB]
 | cons e l ih =>
  have h1 : esB (e :: l) = eB e ++ esB l:=by simp [esB]
  have h2 : (eB e).length≤40000:=putE_len
  rw [h1,List.length_append,List.length_cons];omega
theorem midM_len (m : MG) : (midM m).length≤40001:=by
 unfold midM
 have:=putB_len (i:=m.bi) (t:=m.bt) (c:=m.bc) (d:=m.bd)
 split
 ·simp;omega
 ·simp
theorem headM_by (m : MG) : ∀ c ∈ headM m,c < 256:=putS_mem _
theorem tailM_by (m : MG) : ∀ c ∈ tailM m,c < 256:=putS_mem _
theorem esB_by {l : List EN} (h : ∀ e ∈ l,∀ c ∈ e.d,c < 256) : ∀ c ∈ esB l,c < 256:=by
 intro c hc
 obtain ⟨e,he,hc⟩:=List.mem_flatMap.1 hc
 exact putE_mem (h e he) c hc
theorem midM_by {m : MG} (h : byM m) : ∀ c ∈ midM m,c < 256:=by
 intro c hc
 unfold midM at hc
 split at hc
 ·rcases List.mem_cons.1 hc with rfl | hc
  ·decide
  ·exact putB_mem h.2.1 c hc
 ·simp at hc;omega
theorem bodyM_by {m : MG} (h : byM m) : ∀ c ∈ bodyM m,c < 256:=by
 intro c hc
 unfold bodyM at hc
 simp only [List.mem_append] at hc
 rcases hc with hc | hc | hc | (hc | hc) | hc
 ·exact headM_by m c hc
 ·exact esB_by h.1 c hc
 ·exact midM_by h c hc
 ·exact num7_mem _ c hc
 ·exact h.2.2 c hc
 ·exact tailM_by m c hc
theorem bodyM_len {m : MG} (F : MFacts m) : (bodyM m).length≤1000000:=by
 have h1:=headM_len F
 have h2:=tailM_len F
 have h3:=esB_len m.es
 have h4:=midM_len m
 have h5:=F.es4
 have h6:=F.d
 have h7:=num7_len m.d.length (by omega)
 unfold bodyM
 simp only [List.length_append];omega

theorem Con.rowsT {P : Program} {f : FuncId} {args : List SV} {E : TypeId} {s : Nat} {rows : List (List C)} {fz : Bool} {x : Value} (h : Con P f args [] (.tup [.c (.osl 0),.c (.v x)]) [.arr E s rows fz]) (hd : isDRows rows) : Con P f args [] (.tup [.c (.sl rows),.c (.v x)]) []:=by
 refine h.le (Nat.le_refl _) ?_
 have e1 : (fun i=>([.arr E s rows fz] : List Ent)[i]?) = lkE [(0,.arr E s rows fz)]:=by
  funext i;cases i <;> simp [lkE]
 rw [e1]
 refine (Le.frzEs [0] _).trans (Le.weaken (fun k=>k) (fun t=>?_) (fun k e hk=>by simp at hk) (fun k _ _ _ hk=>by simp at hk) fun k hk=>absurd hk (Nat.not_lt_zero k))
 show WkSV _ _ _ (upd (fun _=>.dead) 0 _ t) (upd (fun _=>.dead) 0 _ t)
 rw [upd_apply,upd_apply]
 split
 ·exact ⟨⟨⟨E,s,rfl⟩,hd⟩,rfl,trivial⟩
 ·trivial

theorem msg_Put_own_con (m : MG) (hm : Mok m) (hpr : rightM m = true) : Con Tryz.prog 10 [.agg (msgC m)] [] (.tup [.c (.osl 0),I 0]) [.arr 5 1 ((sealB (bodyM m)).map brow) false]:=by
 have cR:=msg_Right_con m hm
 rw [hpr] at cR
 refine C_msg_Put nl nl ?_
 simp only [cz,A_msg_Put,argL,objL,List.length_nil,zX]
 refine aS 16 (fun Q hQ=>by simp (disch:=intros;contradiction) only [zS,msgC,simprocAttr];exact hQ) ?_
 refine aB 96 ?_
 refine rC [] (cR) ?_
 refine aE ?_
 refine aF ?_
 have F:=rightM_facts hpr
 have k1:=F.k1;have k9:=F.k9;have g0:=F.g0;have g7:=F.g7;have f0:=F.f0;have f6:=F.f6;have t0:=F.t0;have t6:=F.t6
 have te:=F.term;have ix:=F.idx;have lt:=F.lterm;have co:=F.com;have ma:=F.mark;have fl:=F.floor;have e4:=F.es4;have dl:=F.d
 have v0:=F.v0;have v7:=F.v7;have c0:=F.c0;have c255:=F.c255
 have hH:=headM_len F
 have hok : (if m.ok then 1 else 0 : Nat)≤1:=by split <;> omega
 have cP:=pack_Put_con [m.kind.toNat,m.grp.toNat,m.frm.toNat,m.to.toNat,m.term.toNat,m.idx.toNat,m.lterm.toNat,m.com.toNat,(if m.ok then 1 else 0),m.es.length] (by simp) (by
  intro n hn
  simp only [List.mem_cons,List.not_mem_nil,or_false] at hn
  omega)
 rw [show putS [m.kind.toNat,m.grp.toNat,m.frm.toNat,m.to.toNat,m.term.toNat,m.idx.toNat,m.lterm.toNat,m.com.toNat,(if m.ok then 1 else 0),m.es.length] = headM m from rfl] at cP
 simp only [List.map_cons,List.map_nil,urow,Int.toNat_of_nonneg (show 0≤m.kind by omega),Int.toNat_of_nonneg g0,Int.toNat_of_nonneg f0,Int.toNat_of_nonneg t0,Int.toNat_of_nonneg te.1,Int.toNat_of_nonneg ix.1,Int.toNat_of_nonneg lt.1,Int.toNat_of_nonneg co.1] at cP
 refine aR 176 ?_
 refine aBD 224 ?_
 refine RG.callv [] rfl trivial (msg_Put_1_con m.kind (by omega) (by omega)) (by (repeat' (first | exact tr_nil | refine tr_cons ?_ ?_ | exact tr_v))) trivial (by (exact .inl trivial)) ?_
 refine aM ?_
 refine RG.callv [] rfl trivial (msg_Put_1_con m.grp (by omega) (by omega)) (by (repeat' (first | exact tr_nil | refine tr_cons ?_ ?_ | exact tr_v))) trivial (by (exact .inl trivial)) ?_
 refine aM ?_
 refine RG.callv [] rfl trivial (msg_Put_1_con m.frm (by omega) (by omega)) (by (repeat' (first | exact tr_nil | refine tr_cons ?_ ?_ | exact tr_v))) trivial (by (exact .inl trivial)) ?_
 refine aM ?_
 refine RG.callv [] rfl trivial (msg_Put_1_con m.to (by omega) (by omega)) (by (repeat' (first | exact tr_nil | refine tr_cons ?_ ?_ | exact tr_v))) trivial (by (exact .inl trivial)) ?_
 refine aM ?_
 refine RG.callv [] rfl trivial (msg_Put_1_con m.term (by omega) (by omega)) (by (repeat' (first | exact tr_nil | refine tr_cons ?_ ?_ | exact tr_v))) trivial (by (exact .inl trivial)) ?_
 refine aM ?_
 refine RG.callv [] rfl trivial (msg_Put_1_con m.idx (by omega) (by omega)) (by (repeat' (first | exact tr_nil | refine tr_cons ?_ ?_ | exact tr_v))) trivial (by (exact .inl trivial)) ?_
 refine aM ?_
 refine RG.callv [] rfl trivial (msg_Put_1_con m.lterm (by omega) (by omega)) (by (repeat' (first | exact tr_nil | refine tr_cons ?_ ?_ | exact tr_v))) trivial (by (exact .inl trivial)) ?_
 refine aM ?_
 refine RG.callv [] rfl trivial (msg_Put_1_con m.com (by omega) (by omega)) (by (repeat' (first | exact tr_nil | refine tr_cons ?_ ?_ | exact tr_v))) trivial (by (exact .inl trivial)) ?_
 refine aM ?_
 refine rC [] (msg_flag_con m.ok) ?_
 refine aMs (fun Q hQ=>by simp (disch:=intros;contradiction) only [zS,zW,simprocAttr];exact hQ) ?_
 refine RG.callv [] rfl trivial (msg_Put_1_con m.es.length (by omega) (by omega)) (by (repeat' (first | exact tr_nil | refine tr_cons ?_ ?_ | exact tr_v))) trivial (by (exact .inl trivial)) ?_
 refine aM ?_
 refine rO [] [864] (cP) ?_
 refine aED ?_
 refine aS 944 (fun Q hQ=>by simp (disch:=intros;contradiction) only [zS,zW,simprocAttr];exact hQ) ?_
 refine aw_loopK (X:={ i : Nat // i≤m.es.length }) [1,4,54,55] (fun i=>[(5,.c (.osl 5000)),(56,I i.1)]) [16] (fun i=>[(5000,.arr 5 1 ((headM m ++ esB (m.es.take i.1)).map brow) false)]) (fun i=>m.es.length - i.1) (⟨0,by omega⟩) ?_ ?_
 ·skip
  simp only [keepS,keepE,Option.getD_some,lk_cons,lkE_cons,List.cons_append,List.nil_append,simprocAttr]
  refine Le.lit [] [(5000,880)] _ _ ?_ ?_ ?_ ?_
  ·simp only [zL,simprocAttr]
  ·simp only [zL,simprocAttr]
   all_goals (simp [esB];(repeat' (((simp [brow,C.isD];done)))))
  ·simp [rlook]
  ·(simp;done)
 rintro ⟨i,hi⟩
 simp only [keepS,keepE,Option.getD_some,lk_cons,lkE_cons,List.cons_append,List.nil_append,simprocAttr]
 simp only [zX]
 refine aR 1040 ?_
 refine aw_cond _ rfl trivial (fun ht=>?_) (fun hf=>?_)
 ·skip
  try simp at ht
  simp only [zX]
  have hi' : i < m.es.length:=by omega
  obtain ⟨w,hw⟩ : ∃ w,m.es[i] = w:=⟨_,rfl⟩
  have cW:=entry_Put_con w.i w.t w.k w.d
  have hsucc:=esB_succ m.es i hi'
  rw [hw] at hsucc
  have e1:=esB_len (m.es.take i)
  simp only [List.length_take] at e1
  have e2 : (headM m ++ esB (m.es.take i)).map brow ++ (putE w.i w.t w.k w.d).map brow = (headM m ++ esB (m.es.take (i + 1))).map brow:=by rw [← List.map_append,hsucc,List.append_assoc];rfl
  have e3:=putE_len (i:=w.i) (t:=w.t) (k:=w.k) (d:=w.d)
  refine aS 1088 (fun Q hQ=>by simp (disch:=first | (intros;contradiction) | omega | (simp only [zN];omega)) only [zS,zW,erow,hw,simprocAttr];repeat refine ⟨by (omega),?_⟩;exact hQ) ?_
  refine aB 1184 ?_
  refine rC [] (cW) ?_ (hs:=(by exact .inr ⟨rfl,trivial⟩))
  refine RG.go fun Q hQ=>?_
  simp (disch:=intros;contradiction) only [zS,zW,e2,simprocAttr]
  refine ⟨⟨brow_len _,by omega⟩,hQ (RG.nil ?_)⟩
  simp only [zX]
  refine aS 1296 (fun Q hQ=>by simp (disch:=first | (intros;contradiction) | omega | (simp only [zN];omega)) only [zS,zW,simprocAttr];exact hQ) ?_
  refine ⟨⟨i + 1,hi'⟩,?_,by first | omega | (simp only;omega)⟩
  refine Le.lit [] [(5000,1232)] _ _ ?_ ?_ ?_ ?_
  ·simp only [zL,simprocAttr]
   all_goals (try ((repeat' (rfl))))
  ·simp only [zL,simprocAttr]
   all_goals (try ((repeat' ((exact drows_brow _)))))
  ·simp [rlook]
  ·(simp;done)
 try simp at hf
 simp only [zX,↓reduceIte]
 obtain rfl : i = m.es.length:=by omega
 rw [List.take_length]
 have e1:=esB_len m.es
 have hmi:=midM_len m
 obtain ⟨A,hA⟩ : ∃ A,A = headM m ++ esB m.es ++ midM m:=⟨_,rfl⟩
 have hAl : A.length≤1000000:=by rw [hA];simp only [List.length_append];omega
 have cT:=pack_Put_con [m.vol.toNat,m.chk.toNat,m.mark.toNat,m.floor.toNat] (by simp) (by
  intro n hn
  simp only [List.mem_cons,List.not_mem_nil,or_false] at hn
  omega)
 rw [show putS [m.vol.toNat,m.chk.toNat,m.mark.toNat,m.floor.toNat] = tailM m from rfl] at cT
 simp only [List.map_cons,List.map_nil,urow,Int.toNat_of_nonneg v0,Int.toNat_of_nonneg c0,Int.toNat_of_nonneg ma.1,Int.toNat_of_nonneg fl.1] at cT
 have hwm : IntKind.u64.wrap m.mark = m.mark:=by rw [w_u64];omega
 have hwf : IntKind.u64.wrap m.floor = m.floor:=by rw [w_u64];omega
 have htl:=tailM_len F
 have hd7:=num7_len m.d.length (by omega)
 have hbA : bodyM m = [A,num7 m.d.length ++ m.d,tailM m].flatten:=by rw [hA];unfold bodyM;simp
 have cJ:=pack_Join_con [A,num7 m.d.length ++ m.d,tailM m] (by simp;omega) (by simp)
 rw [← hbA] at cJ
 simp only [List.map_cons,List.map_nil,prow] at cJ
 by_cases hk : m.kind = 7
 ·skip
  have hbk : (m.kind == 7) = true:=by rw [hk];rfl
  have cO:=pack_Put_con [1] (by simp) (by simp)
  simp only [List.map_cons,List.map_nil,urow] at cO
  have h1 : putS [1] = [1]:=by unfold putS;simp;rw [num7,if_pos (by decide)]
  have hm1 : midM m = [1] ++ putB m.bi m.bt m.bc m.bd:=by unfold midM;rw [if_pos hk];rfl
  rw [h1] at cO
  have cF:=msg_flag_con true
  have cB:=entry_PutBase_con m.bi m.bt m.bc m.bd hm.bc
  have hq1 : (headM m ++ esB m.es).map brow ++ [brow 1] = (headM m ++ esB m.es ++ [1]).map brow:=by simp
  have hpb:=putB_len (i:=m.bi) (t:=m.bt) (c:=m.bc) (d:=m.bd)
  have hq2 : (headM m ++ esB m.es ++ [1]).map brow ++ (putB m.bi m.bt m.bc m.bd).map brow = A.map brow:=by rw [← List.map_append,hA,hm1];simp
  refine aBs 1360 (fun Q hQ=>by simp (disch:=intros;contradiction) only [zS,hbk,simprocAttr];exact hQ) ?_
  refine rC [] (cF) ?_
  refine aM ?_
  refine rO [] [1440] (cO) ?_
  refine RG.go fun Q hQ=>?_
  simp (disch:=intros;contradiction) only [zS,zW,hq1,simprocAttr]
  refine ⟨⟨by simp [brow],by simp;omega⟩,hQ (RG.nil ?_)⟩
  simp only [zX]
  refine aS 1536 (fun Q hQ=>by simp (disch:=intros;contradiction) only [zS,hbk,simprocAttr];exact hQ) ?_
  refine aw_cond _ rfl trivial (fun ht=>?_) (fun hf=>by cases hf)
  refine aB 1616 ?_
  refine rC [] (cB) ?_ (hs:=(by exact .inr ⟨rfl,trivial⟩))
  refine RG.go fun Q hQ=>?_
  simp (disch:=intros;contradiction) only [zS,zW,hq2,simprocAttr]
  refine ⟨⟨brow_len _,by omega⟩,hQ (RG.nil ?_)⟩
  simp only [zX]
  refine awp_pre [(1,.c (.bp 16 0)),(4,.c (.fn 22 [])),(5,.c (.sl (A.map brow)))] [(16,.box [.v (.int .i64 m.kind),.v (.int .i64 m.grp),.v (.int .i64 m.frm),.v (.int .i64 m.to),.v (.int .i64 m.term),.v (.int .i64 m.idx),.v (.int .i64 m.lterm),.v (.int .i64 m.com),.v (.bool m.ok),.sl (m.es.map erow),.v (.int .i64 m.bi),.v (.int .i64 m.bt),.sl (m.bc.map nrow),.sl (m.bd.map brow),.sl (m.d.map brow),.v (.int .i64 m.vol),.v (.int .i64 m.chk),.v (.int .i64 m.mark),.v (.int .i64 m.floor)])] ?_ ?_
  ·skip
   refine Le.lit [1680] [] _ _ ?_ ?_ ?_ ?_
   ·simp only [zL,simprocAttr]
    all_goals (exact ⟨⟨_,_,rfl⟩,drows_brow _⟩;skip)
   ·simp only [zL,simprocAttr]
   ·simp [rlook]
   ·(simp;done)
  refine aBD 1744 ?_
  refine rO [] [] ((pack_Lump_con m.d (by omega)).rows (drows_brow _)) ?_
  refine aM ?_
  refine RG.callv [] rfl trivial (msg_Put_1_con m.vol (by omega) (by omega)) (by (repeat' (first | exact tr_nil | refine tr_cons ?_ ?_ | exact tr_v))) trivial (by (exact .inl trivial)) ?_
  refine aM ?_
  refine RG.callv [] rfl trivial (msg_Put_1_con m.chk (by omega) (by omega)) (by (repeat' (first | exact tr_nil | refine tr_cons ?_ ?_ | exact tr_v))) trivial (by (exact .inl trivial)) ?_
  refine aMs (fun Q hQ=>by simp (disch:=intros;contradiction) only [zS,hwm,hwf,simprocAttr];exact hQ) ?_
  refine rO [] [2032] (cT.rows (drows_brow _)) ?_
  refine aM ?_
  refine rO [] [2064] (cJ) ?_
  refine aM ?_
  refine rO [] [2080] (crc_Seal_con (bodyM m) (bodyM_by hm.by') (by have:=bodyM_len F;omega)) ?_
  refine aED ?_
  refine Fin.objs [] [(0,2096)] (.inr rfl) rfl (by exact trivial) ?_ ?_ (by simp [objL,rlook]) (by (simp [objL,rlook];done))
  ·simp only [zL,simprocAttr]
  ·simp only [zL,simprocAttr]
   all_goals (try ((repeat' ((exact drows_brow _)))))
 have hbk : (m.kind == 7) = false:=by simpa using hk
 have cO:=pack_Put_con [0] (by simp) (by simp)
 simp only [List.map_cons,List.map_nil,urow] at cO
 have h1 : putS [0] = [0]:=by unfold putS;simp;rw [num7,if_pos (by decide)]
 have hm1 : midM m = [0]:=by unfold midM;rw [if_neg hk]
 rw [h1] at cO
 have cF:=msg_flag_con false
 have hq1 : (headM m ++ esB m.es).map brow ++ [brow 0] = A.map brow:=by rw [hA,hm1];simp
 refine aBs 2176 (fun Q hQ=>by simp (disch:=intros;contradiction) only [zS,hbk,simprocAttr];exact hQ) ?_
 refine rC [] (cF) ?_
 refine aM ?_
 refine rO [] [2256] (cO) ?_
 refine RG.go fun Q hQ=>?_
 simp (disch:=intros;contradiction) only [zS,zW,hq1,simprocAttr]
 refine ⟨⟨by simp [brow],by simp;omega⟩,hQ (RG.nil ?_)⟩
 simp only [zX]
 refine aS 2352 (fun Q hQ=>by simp (disch:=intros;contradiction) only [zS,hbk,simprocAttr];exact hQ) ?_
 refine aF ?_
 refine awp_pre [(1,.c (.bp 16 0)),(4,.c (.fn 22 [])),(5,.c (.sl (A.map brow)))] [(16,.box [.v (.int .i64 m.kind),.v (.int .i64 m.grp),.v (.int .i64 m.frm),.v (.int .i64 m.to),.v (.int .i64 m.term),.v (.int .i64 m.idx),.v (.int .i64 m.lterm),.v (.int .i64 m.com),.v (.bool m.ok),.sl (m.es.map erow),.v (.int .i64 m.bi),.v (.int .i64 m.bt),.sl (m.bc.map nrow),.sl (m.bd.map brow),.sl (m.d.map brow),.v (.int .i64 m.vol),.v (.int .i64 m.chk),.v (.int .i64 m.mark),.v (.int .i64 m.floor)])] ?_ ?_
 ·skip
  refine Le.lit [2288] [] _ _ ?_ ?_ ?_ ?_
  ·simp only [zL,simprocAttr]
   all_goals (exact ⟨⟨_,_,rfl⟩,drows_brow _⟩;skip)
  ·simp only [zL,simprocAttr]
  ·simp [rlook]
  ·(simp;done)
 refine aBD 2432 ?_
 refine rO [] [] ((pack_Lump_con m.d (by omega)).rows (drows_brow _)) ?_
 refine aM ?_
 refine RG.callv [] rfl trivial (msg_Put_1_con m.vol (by omega) (by omega)) (by (repeat' (first | exact tr_nil | refine tr_cons ?_ ?_ | exact tr_v))) trivial (by (exact .inl trivial)) ?_
 refine aM ?_
 refine RG.callv [] rfl trivial (msg_Put_1_con m.chk (by omega) (by omega)) (by (repeat' (first | exact tr_nil | refine tr_cons ?_ ?_ | exact tr_v))) trivial (by (exact .inl trivial)) ?_
 refine aMs (fun Q hQ=>by simp (disch:=intros;contradiction) only [zS,hwm,hwf,simprocAttr];exact hQ) ?_
 refine rO [] [2720] (cT.rows (drows_brow _)) ?_
 refine aM ?_
 refine rO [] [2752] (cJ) ?_
 refine aM ?_
 refine rO [] [2768] (crc_Seal_con (bodyM m) (bodyM_by hm.by') (by have:=bodyM_len F;omega)) ?_
 refine aED ?_
 refine Fin.objs [] [(0,2784)] (.inr rfl) rfl (by exact trivial) ?_ ?_ (by simp [objL,rlook]) (by (simp [objL,rlook];done))
 ·simp only [zL,simprocAttr]
 ·simp only [zL,simprocAttr]
  all_goals (try ((repeat' ((exact drows_brow _)))))

theorem msg_Put_con (m : MG) (hm : Mok m) : Con Tryz.prog 10 [.agg (msgC m)] [] (.tup [.c (.sl ((putM m).1.map brow)),I (putM m).2]) []:=by
 have cR:=msg_Right_con m hm
 by_cases hpr : rightM m = true
 ·rw [show putM m = (sealB (bodyM m),0) by unfold putM;rw [if_pos hpr]]
  exact (msg_Put_own_con m hm hpr).rowsT (drows_brow _)
 ·rw [show putM m = ([],23) by unfold putM;rw [if_neg hpr]]
  have hpf : rightM m = false:=by simpa using hpr
  rw [hpf] at cR
  refine C_msg_Put nl nl ?_
  simp only [cz,A_msg_Put,argL,objL,List.length_nil,zX]
  refine aS 16 (fun Q hQ=>by simp (disch:=intros;contradiction) only [zS,msgC,simprocAttr];exact hQ) ?_
  refine aB 96 ?_
  refine rC [] (cR) ?_
  refine aE ?_
  refine aT ?_
  refine aR 176 ?_
  refine Fin.data [] (.inr rfl) rfl (by (exact trivial)) ?_
  simp only [zL,simprocAttr]
  all_goals (simp)

end Go.Abs

namespace Go.Abs
open Go Go.Proofs
set_option maxRecDepth 100000
set_option linter.unusedSimpArgs false
set_option maxHeartbeats 8000000

structure RestOk (n : Nat) (l : List Nat) : Prop where
 b8 : ∀ c ∈ l,c < 256
 len : l.length≤n
theorem RestOk.num {n : Nat} {l : List Nat} (h : RestOk n l) (most e : Nat) : RestOk n (numR most l e).2.1 :=
 ⟨numR_mem h.b8,by have:=numR_len (most:=most) (l:=l) (e:=e);have:=h.len;omega⟩
theorem RestOk.lump {n : Nat} {l : List Nat} (h : RestOk n l) (most e : Nat) : RestOk n (lumpR most l e).2.1 :=
 ⟨(lumpR_mem h.b8).2,by have:=(lumpR_len (most:=most) (l:=l) (e:=e)).2;have:=h.len;omega⟩
theorem RestOk.ent {n : Nat} {l : List Nat} (h : RestOk n l) (e : Nat) : RestOk n (readE l e).l∧(∀ c ∈ (readE l e).d,c < 256)∧(readE l e).i≤1099511627776∧(readE l e).t≤1099511627776∧(readE l e).k≤2:=by
 have g1:=h.num 1099511627776 e
 have k1:=numR_le (most:=1099511627776) (l:=l) (e:=e)
 unfold readE
 generalize numR 1099511627776 l e = q at g1 k1
 obtain ⟨a1,l1,e1⟩:=q
 simp only at g1 k1 ⊢
 have g2:=g1.num 1099511627776 e1
 have k2:=numR_le (most:=1099511627776) (l:=l1) (e:=e1)
 generalize numR 1099511627776 l1 e1 = q at g2 k2
 obtain ⟨a2,l2,e2⟩:=q
 simp only at g2 k2 ⊢
 have g3:=g2.num 2 e2
 have k3:=numR_le (most:=2) (l:=l2) (e:=e2)
 generalize numR 2 l2 e2 = q at g3 k3
 obtain ⟨a3,l3,e3⟩:=q
 simp only at g3 k3 ⊢
 have g4:=g3.lump 32767 e3
 have k4:=(lumpR_mem (most:=32767) (e:=e3) g3.b8).1
 generalize lumpR 32767 l3 e3 = q at g4 k4
 obtain ⟨d,l4,e4⟩:=q
 simp only at g4 k4 ⊢
 split
 ·exact ⟨g4,k4,k1,k2,k3⟩
 ·exact ⟨g4,by simp,by simp,by simp,by simp⟩
theorem msg_parsed_1_con (l : List Nat) (e : Nat) (hl : ∀ c ∈ l,c < 256) (hb : l.length≤140737488355328) :
  Con Tryz.prog 76 [.c (.bp 0 0)] [.box [.bp 1 0],Rd l e] (I (numR 9223372036854775807 l e).1) [.box [.bp 1 0],Rd (numR 9223372036854775807 l e).2.1 (numR 9223372036854775807 l e).2.2]:=by
 have hm : (numR 9223372036854775807 l e).1≤9223372036854775807:=numR_le
 have cN:=pack_Reader_Num_con l e 9223372036854775807 hl hb
 generalize numR 9223372036854775807 l e = q at hm cN
 obtain ⟨v,l1,e1⟩:=q
 simp only at hm cN
 have hw:=w_nat hm
 refine C_msg_parsed_1 nl nl ?_
 simp only [cz,A_msg_parsed_1,argL,objL,List.length_nil,List.length_cons,Nat.zero_add,zX,simprocAttr]
 refine aR 16 ?_
 refine aB 64 ?_
 refine rO [1] [] (cN) ?_
 refine aEs (fun Q hQ=>by simp (disch:=intros;contradiction) only [zS,hw,simprocAttr];exact hQ) ?_
 refine Fin.objs [] [] (.inr rfl) rfl (by exact trivial) ?_ ?_ (by simp [objL,rlook]) (by (intro k hk;simp [objL,rlook];omega))
 ·simp only [zL,simprocAttr]
 ·simp only [zL,simprocAttr]

def bP (i : Nat) : Nat:=if i = 9 then 4 else 9223372036854775807
theorem bP_wide : wideB bP:=by unfold wideB bP;simp
theorem bP_at {i : Nat} (h : i≠9) : bP i = 9223372036854775807:=by unfold bP;rw [if_neg h]
def GE (k : Nat) (l : List EN) : Prop:=l.length≤k∧∀ e ∈ l,∀ c ∈ e.d,c < 256
theorem GE.snoc {k : Nat} {l : List EN} {x : EN} (h : GE k l) (h1 : ∀ c ∈ x.d,c < 256) : GE (k + 1) (l ++ [x]) :=
 ⟨by simp;exact h.1,fun y hy=>by rcases List.mem_append.1 hy with hy | hy;exact h.2 y hy;simp only [List.mem_singleton] at hy;subst hy;exact h1⟩
theorem msg_parsed_con (l : List Nat) (h8 : ∀ c ∈ l,c < 256) (hn : l.length≤1000000) :
  Con Tryz.prog 49 [.c (.sl (l.map brow))] [] (.agg (msgC (jM bP l).1)) []:=by
 have hr : RestOk 1000000 l:=⟨h8,hn⟩
 obtain ⟨R,hR⟩ : ∃ R,R = jM bP l:=⟨_,rfl⟩
 rw [← hR]
 unfold jM at hR
 rw [bP_at (by decide)] at hR
 have c1:=msg_parsed_1_con l 0 hr.b8 (by have:=hr.len;omega)
 have g1:=hr.num 9223372036854775807 0
 have k1 : (numR 9223372036854775807 l 0).1≤9223372036854775807:=numR_le
 generalize numR 9223372036854775807 l 0 = q at hR c1 g1 k1
 obtain ⟨a1,l1,e1⟩:=q
 simp only at c1 g1 k1
 unfold jm1 at hR
 simp only at hR
 rw [bP_at (by decide)] at hR
 have c2:=msg_parsed_1_con l1 e1 g1.b8 (by have:=g1.len;omega)
 have g2:=g1.num 9223372036854775807 e1
 have k2 : (numR 9223372036854775807 l1 e1).1≤9223372036854775807:=numR_le
 generalize numR 9223372036854775807 l1 e1 = q at hR c2 g2 k2
 obtain ⟨a2,l2,e2⟩:=q
 simp only at c2 g2 k2
 unfold jm2 at hR
 simp only at hR
 rw [bP_at (by decide)] at hR
 have c3:=msg_parsed_1_con l2 e2 g2.b8 (by have:=g2.len;omega)
 have g3:=g2.num 9223372036854775807 e2
 have k3 : (numR 9223372036854775807 l2 e2).1≤9223372036854775807:=numR_le
 generalize numR 9223372036854775807 l2 e2 = q at hR c3 g3 k3
 obtain ⟨a3,l3,e3⟩:=q
 simp only at c3 g3 k3
 unfold jm3 at hR
 simp only at hR
 rw [bP_at (by decide)] at hR
 have c4:=msg_parsed_1_con l3 e3 g3.b8 (by have:=g3.len;omega)
 have g4:=g3.num 9223372036854775807 e3
 have k4 : (numR 9223372036854775807 l3 e3).1≤9223372036854775807:=numR_le
 generalize numR 9223372036854775807 l3 e3 = q at hR c4 g4 k4
 obtain ⟨a4,l4,e4⟩:=q
 simp only at c4 g4 k4
 unfold jm4 at hR
 simp only at hR
 rw [bP_at (by decide)] at hR
 have c5:=msg_parsed_1_con l4 e4 g4.b8 (by have:=g4.len;omega)
 have g5:=g4.num 9223372036854775807 e4
 have k5 : (numR 9223372036854775807 l4 e4).1≤9223372036854775807:=numR_le
 generalize numR 9223372036854775807 l4 e4 = q at hR c5 g5 k5
 obtain ⟨a5,l5,e5⟩:=q
 simp only at c5 g5 k5
 unfold jm5 at hR
 simp only at hR
 rw [bP_at (by decide)] at hR
 have c6:=msg_parsed_1_con l5 e5 g5.b8 (by have:=g5.len;omega)
 have g6:=g5.num 9223372036854775807 e5
 have k6 : (numR 9223372036854775807 l5 e5).1≤9223372036854775807:=numR_le
 generalize numR 9223372036854775807 l5 e5 = q at hR c6 g6 k6
 obtain ⟨a6,l6,e6⟩:=q
 simp only at c6 g6 k6
 unfold jm6 at hR
 simp only at hR
 rw [bP_at (by decide)] at hR
 have c7:=msg_parsed_1_con l6 e6 g6.b8 (by have:=g6.len;omega)
 have g7:=g6.num 9223372036854775807 e6
 have k7 : (numR 9223372036854775807 l6 e6).1≤9223372036854775807:=numR_le
 generalize numR 9223372036854775807 l6 e6 = q at hR c7 g7 k7
 obtain ⟨a7,l7,e7⟩:=q
 simp only at c7 g7 k7
 unfold jm7 at hR
 simp only at hR
 rw [bP_at (by decide)] at hR
 have c8:=msg_parsed_1_con l7 e7 g7.b8 (by have:=g7.len;omega)
 have g8:=g7.num 9223372036854775807 e7
 have k8 : (numR 9223372036854775807 l7 e7).1≤9223372036854775807:=numR_le
 generalize numR 9223372036854775807 l7 e7 = q at hR c8 g8 k8
 obtain ⟨a8,l8,e8⟩:=q
 simp only at c8 g8 k8
 unfold jm8 at hR
 simp only at hR
 rw [bP_at (by decide)] at hR
 have c9:=msg_parsed_1_con l8 e8 g8.b8 (by have:=g8.len;omega)
 have g9:=g8.num 9223372036854775807 e8
 have k9 : (numR 9223372036854775807 l8 e8).1≤9223372036854775807:=numR_le
 generalize numR 9223372036854775807 l8 e8 = q at hR c9 g9 k9
 obtain ⟨a9,l9,e9⟩:=q
 simp only at c9 g9 k9
 unfold jm9 at hR
 simp only at hR
 have hb9 : bP 9 = 4:=rfl
 rw [hb9] at hR
 have c10:=pack_Reader_Num_con l9 e9 4 g9.b8 (by have:=g9.len;omega)
 have g10:=g9.num 4 e9
 have k10 : (numR 4 l9 e9).1≤4:=numR_le
 generalize numR 4 l9 e9 = q at hR c10 g10 k10
 obtain ⟨m,l10,e10⟩:=q
 simp only at c10 g10 k10
 unfold jm10 at hR
 simp only at hR
 obtain ⟨RE,hRE⟩ : ∃ x,x = jE m [] l10 e10:=⟨_,rfl⟩
 rw [← hRE] at hR
 have hok : ((a9 : Int) == 1) = decide (a9 = 1):=by rw [Bool.eq_iff_iff];simp;omega
 refine C_msg_parsed nl nl ?_
 simp only [cz,A_msg_parsed,argL,objL,List.length_nil,zX]
 refine aR 16 ?_
 refine aB 64 ?_
 refine rO [] [] (pack_New_con (l.map brow) (drows_brow l) (brow_len l) (by simp;omega)) ?_
 refine aE ?_
 refine aS 160 (fun Q hQ=>by simp (disch:=intros;contradiction) only [zS,simprocAttr];repeat refine ⟨by ((simp;done)),?_⟩;exact hQ) ?_
 refine aB 224 ?_
 refine RG.callvo [96,80] [] rfl trivial (c1) (.mk (by (repeat' (first | exact tr_nil | refine tr_cons ?_ ?_ | exact tr_bp rfl))) (by (simp only [zT,simprocAttr];done)) (by simp) (by simp) (trivial) (by (simp [lkE_cons,lkE_nil];done)) (by (simp [Ent.pure];done)) (by simp) (by simp)) ?_
 refine aM ?_
 refine RG.callvo [96,80] [] rfl trivial (c2) (.mk (by (repeat' (first | exact tr_nil | refine tr_cons ?_ ?_ | exact tr_bp rfl))) (by (simp only [zT,simprocAttr];done)) (by simp) (by simp) (trivial) (by (simp [lkE_cons,lkE_nil];done)) (by (simp [Ent.pure];done)) (by simp) (by simp)) ?_
 refine aM ?_
 refine RG.callvo [96,80] [] rfl trivial (c3) (.mk (by (repeat' (first | exact tr_nil | refine tr_cons ?_ ?_ | exact tr_bp rfl))) (by (simp only [zT,simprocAttr];done)) (by simp) (by simp) (trivial) (by (simp [lkE_cons,lkE_nil];done)) (by (simp [Ent.pure];done)) (by simp) (by simp)) ?_
 refine aM ?_
 refine RG.callvo [96,80] [] rfl trivial (c4) (.mk (by (repeat' (first | exact tr_nil | refine tr_cons ?_ ?_ | exact tr_bp rfl))) (by (simp only [zT,simprocAttr];done)) (by simp) (by simp) (trivial) (by (simp [lkE_cons,lkE_nil];done)) (by (simp [Ent.pure];done)) (by simp) (by simp)) ?_
 refine aM ?_
 refine RG.callvo [96,80] [] rfl trivial (c5) (.mk (by (repeat' (first | exact tr_nil | refine tr_cons ?_ ?_ | exact tr_bp rfl))) (by (simp only [zT,simprocAttr];done)) (by simp) (by simp) (trivial) (by (simp [lkE_cons,lkE_nil];done)) (by (simp [Ent.pure];done)) (by simp) (by simp)) ?_
 refine aM ?_
 refine RG.callvo [96,80] [] rfl trivial (c6) (.mk (by (repeat' (first | exact tr_nil | refine tr_cons ?_ ?_ | exact tr_bp rfl))) (by (simp only [zT,simprocAttr];done)) (by simp) (by simp) (trivial) (by (simp [lkE_cons,lkE_nil];done)) (by (simp [Ent.pure];done)) (by simp) (by simp)) ?_
 refine aM ?_
 refine RG.callvo [96,80] [] rfl trivial (c7) (.mk (by (repeat' (first | exact tr_nil | refine tr_cons ?_ ?_ | exact tr_bp rfl))) (by (simp only [zT,simprocAttr];done)) (by simp) (by simp) (trivial) (by (simp [lkE_cons,lkE_nil];done)) (by (simp [Ent.pure];done)) (by simp) (by simp)) ?_
 refine aM ?_
 refine RG.callvo [96,80] [] rfl trivial (c8) (.mk (by (repeat' (first | exact tr_nil | refine tr_cons ?_ ?_ | exact tr_bp rfl))) (by (simp only [zT,simprocAttr];done)) (by simp) (by simp) (trivial) (by (simp [lkE_cons,lkE_nil];done)) (by (simp [Ent.pure];done)) (by simp) (by simp)) ?_
 refine aM ?_
 refine RG.callvo [96,80] [] rfl trivial (c9) (.mk (by (repeat' (first | exact tr_nil | refine tr_cons ?_ ?_ | exact tr_bp rfl))) (by (simp only [zT,simprocAttr];done)) (by simp) (by simp) (trivial) (by (simp [lkE_cons,lkE_nil];done)) (by (simp [Ent.pure];done)) (by simp) (by simp)) ?_
 refine aEs (fun Q hQ=>by simp (disch:=intros;contradiction) only [zS,hok,simprocAttr];exact hQ) ?_
 refine aB 608 ?_
 refine rO [80] [] (c10) ?_
 refine aE ?_
 refine aw_loopK (X:={ x : Nat × List EN × List Nat × Nat // x.1≤m∧GE x.1 x.2.1∧RestOk 1000000 x.2.2.1∧jE (m - x.1) x.2.1 x.2.2.1 x.2.2.2 = RE }) [2,3,4,5,32] (fun x=>[(33,.c (.v (.int .u64 x.1.1)))]) [16,96] (fun x=>[(80,Rd x.1.2.2.1 x.1.2.2.2),(544,.box [.v (.int .i64 a1),.v (.int .i64 a2),.v (.int .i64 a3),.v (.int .i64 a4),.v (.int .i64 a5),.v (.int .i64 a6),.v (.int .i64 a7),.v (.int .i64 a8),.v (.bool (decide (a9 = 1))),.osl 5000,.v (.int .i64 0),.v (.int .i64 0),.v (.slice none 0 0),.v (.slice none 0 0),.v (.slice none 0 0),.v (.int .i64 0),.v (.int .i64 0),.v (.int .i64 0),.v (.int .i64 0)]),(5000,.arr 58 4 (x.1.2.1.map erow) false)]) (fun x=>m - x.1.1) (⟨(0,[],l10,e10),by simp only;omega,⟨Nat.le_refl _,fun w hw=>by cases hw⟩,g10,hRE.symm⟩) ?_ ?_
 ·skip
  simp only [keepS,keepE,Option.getD_some,lk_cons,lkE_cons,List.cons_append,List.nil_append,simprocAttr]
  refine (Le.ownB 544 9 5000 _ 58 4 rfl rfl rfl (by decide)).trans ?_
  simp only [List.set_cons_succ,List.set_cons_zero,setE_cons,setE_nil,simprocAttr]
  refine Le.lit [] [] _ _ ?_ ?_ ?_ ?_
  ·simp only [zL,simprocAttr]
  ·simp only [zL,simprocAttr]
   all_goals (try ((repeat' (((simp [C.isD];done))))))
  ·simp [rlook]
  ·(simp;done)
 rintro ⟨⟨i,acc,la,ea⟩,u1,u2,u3,u4⟩
 simp only [keepS,keepE,Option.getD_some,lk_cons,lkE_cons,List.cons_append,List.nil_append,simprocAttr]
 simp only [zX]
 simp only at u1 u2 u3 u4
 refine aR 688 ?_
 refine aw_cond _ rfl trivial (fun ht=>?_) (fun hf=>?_)
 ·skip
  try simp at ht
  simp only [zX]
  obtain ⟨d,hd⟩ : ∃ d,m - i = d + 1:=⟨m - i - 1,by omega⟩
  rw [hd] at u4
  unfold jE at u4
  have v0:=u3.len
  have cE:=entry_Read_con la ea u3.b8 (by omega)
  have v1:=u3.ent ea
  generalize readE la ea = r at u4 cE v1
  obtain ⟨ri,rt,rk,rd,rok,rl,re⟩:=r
  obtain ⟨v2,v3,v4,v5,v6⟩:=v1
  simp only [enOf] at u4 cE v2 v3 v4 v5 v6
  have u2l:=u2.1
  have e2 : acc.map erow ++ [[.v (.int .i64 ri),.v (.int .i64 rt),.v (.int .i64 rk),.sl (rd.map brow)]] = (acc ++ [(⟨(ri : Int),(rt : Int),(rk : Int),rd⟩ : EN)]).map erow:=by rw [List.map_append];rfl
  refine aB 736 ?_
  refine rO [80] [] (cE) ?_
  refine aE ?_
  refine aS 896 (fun Q hQ=>by simp (disch:=intros;contradiction) only [zS,zW,e2,simprocAttr];repeat refine ⟨by ((simp;omega)),?_⟩;exact hQ) ?_
  refine aS 1040 (fun Q hQ=>by simp (disch:=first | (intros;contradiction) | omega | (simp only [zN];omega)) only [zS,zW,simprocAttr];exact hQ) ?_
  refine ⟨⟨(i + 1,acc ++ [(⟨(ri : Int),(rt : Int),(rk : Int),rd⟩ : EN)],rl,re),by simp only;omega,u2.snoc v3,v2,by simp only;rw [show m - (i + 1) = d by omega];exact u4⟩,?_,by first | omega | (simp only;omega)⟩
  refine Le.lit [] [(5000,960)] _ _ ?_ ?_ ?_ ?_
  ·simp only [zL,simprocAttr]
   all_goals (try ((repeat' (rfl))))
  ·simp only [zL,simprocAttr]
   all_goals (try ((repeat' ((exact erow_data _)))))
  ·simp [rlook]
  ·(simp;done)
 try simp at hf
 simp only [zX,↓reduceIte]
 have hi : i = m:=by omega
 subst hi
 rw [Nat.sub_self] at u4
 have u4 : (acc,la,ea) = RE:=u4
 subst u4
 unfold jm11 at hR
 simp only at hR
 rw [bP_at (by decide)] at hR
 have c11:=msg_parsed_1_con la ea u3.b8 (by have:=u3.len;omega)
 have g11:=u3.num 9223372036854775807 ea
 generalize numR 9223372036854775807 la ea = q at hR c11 g11
 obtain ⟨a10,l11,e11⟩:=q
 simp only at c11 g11
 unfold jm12 at hR
 simp only at hR
 rw [bP_at (by decide)] at hR
 by_cases h10 : a10 = 1
 ·skip
  have hd10 : ((a10 : Int) == 1) = true:=by rw [h10];rfl
  rw [if_pos h10] at hR
  have cB:=entry_ReadBase_con l11 e11 g11.b8 (by have:=g11.len;omega)
  have gB:=readB_mem (most:=9223372036854775807) (e:=e11) g11.b8
  generalize readB 9223372036854775807 l11 e11 = r at hR cB gB
  obtain ⟨bi,bt,bc,bd,bok,l12,e12⟩:=r
  simp only at cB gB
  have g12 : RestOk 1000000 l12:=⟨gB.2.1,by have:=gB.2.2.1;have:=g11.len;omega⟩
  unfold jm13 at hR
  simp only at hR
  have cL:=pack_Reader_Lump_con l12 e12 65535 g12.b8 (by have:=g12.len;omega) (by omega)
  have gL:=g12.lump 65535 e12
  have yL:=(lumpR_mem (most:=65535) (e:=e12) g12.b8).1
  have zL':=(lumpR_len (most:=65535) (l:=l12) (e:=e12)).1
  generalize lumpR 65535 l12 e12 = q at hR cL gL yL zL'
  obtain ⟨dd,l14,e14⟩:=q
  simp only at cL gL yL zL'
  unfold jm14 at hR
  simp only at hR
  rw [bP_at (by decide)] at hR
  have cv0:=msg_parsed_1_con l14 e14 gL.b8 (by have:=gL.len;omega)
  have gv0:=gL.num 9223372036854775807 e14
  generalize numR 9223372036854775807 l14 e14 = q at hR cv0 gv0
  obtain ⟨b0,m0,f0⟩:=q
  simp only at cv0 gv0
  unfold jm15 at hR
  simp only at hR
  rw [bP_at (by decide)] at hR
  have cv1:=msg_parsed_1_con m0 f0 gv0.b8 (by have:=gv0.len;omega)
  have gv1:=gv0.num 9223372036854775807 f0
  generalize numR 9223372036854775807 m0 f0 = q at hR cv1 gv1
  obtain ⟨b1,m1,f1⟩:=q
  simp only at cv1 gv1
  unfold jm16 at hR
  simp only at hR
  rw [bP_at (by decide)] at hR
  have cv2:=msg_parsed_1_con m1 f1 gv1.b8 (by have:=gv1.len;omega)
  have gv2:=gv1.num 9223372036854775807 f1
  generalize numR 9223372036854775807 m1 f1 = q at hR cv2 gv2
  obtain ⟨b2,m2,f2⟩:=q
  simp only at cv2 gv2
  unfold jm17 at hR
  simp only at hR
  rw [bP_at (by decide)] at hR
  have cv3:=msg_parsed_1_con m2 f2 gv2.b8 (by have:=gv2.len;omega)
  have gv3:=gv2.num 9223372036854775807 f2
  generalize numR 9223372036854775807 m2 f2 = q at hR cv3 gv3
  obtain ⟨b3,m3,f3⟩:=q
  simp only at cv3 gv3
  unfold jFin at hR
  simp only at hR
  rw [hR]
  refine aB 1104 ?_
  refine RG.callvo [96,80] [] rfl trivial (c11) (.mk (by (repeat' (first | exact tr_nil | refine tr_cons ?_ ?_ | exact tr_bp rfl))) (by (simp only [zT,simprocAttr];done)) (by simp) (by simp) (trivial) (by (simp [lkE_cons,lkE_nil];done)) (by (simp [Ent.pure];done)) (by simp) (by simp)) ?_
  refine aEs (fun Q hQ=>by simp (disch:=intros;contradiction) only [zS,hd10,simprocAttr];exact hQ) ?_
  refine aw_cond _ rfl trivial (fun ht=>?_) (fun hf=>by cases hf)
  refine aB 1184 ?_
  refine rO [80] [] (cB) ?_
  refine aE ?_
  refine aB 1328 ?_
  refine rO [80] [] (cL) ?_
  refine aE ?_
  refine aB 1424 ?_
  refine RG.callvo [96,80] [] rfl trivial (cv0) (.mk (by (repeat' (first | exact tr_nil | refine tr_cons ?_ ?_ | exact tr_bp rfl))) (by (simp only [zT,simprocAttr];done)) (by simp) (by simp) (trivial) (by (simp [lkE_cons,lkE_nil];done)) (by (simp [Ent.pure];done)) (by simp) (by simp)) ?_
  refine aM ?_
  refine RG.callvo [96,80] [] rfl trivial (cv1) (.mk (by (repeat' (first | exact tr_nil | refine tr_cons ?_ ?_ | exact tr_bp rfl))) (by (simp only [zT,simprocAttr];done)) (by simp) (by simp) (trivial) (by (simp [lkE_cons,lkE_nil];done)) (by (simp [Ent.pure];done)) (by simp) (by simp)) ?_
  refine aM ?_
  refine RG.callvo [96,80] [] rfl trivial (cv2) (.mk (by (repeat' (first | exact tr_nil | refine tr_cons ?_ ?_ | exact tr_bp rfl))) (by (simp only [zT,simprocAttr];done)) (by simp) (by simp) (trivial) (by (simp [lkE_cons,lkE_nil];done)) (by (simp [Ent.pure];done)) (by simp) (by simp)) ?_
  refine aM ?_
  refine RG.callvo [96,80] [] rfl trivial (cv3) (.mk (by (repeat' (first | exact tr_nil | refine tr_cons ?_ ?_ | exact tr_bp rfl))) (by (simp only [zT,simprocAttr];done)) (by simp) (by simp) (trivial) (by (simp [lkE_cons,lkE_nil];done)) (by (simp [Ent.pure];done)) (by simp) (by simp)) ?_
  refine aE ?_
  refine aR 1712 ?_
  refine Fin.data [5000] (.inr rfl) rfl (by (exact ⟨trivial,trivial⟩)) ?_
  simp only [zL,simprocAttr]
  all_goals ((repeat' (first | exact trivial | rfl | (refine ⟨⟨_,_,rfl⟩,?_⟩;(exact erow_data _)) | refine ⟨?_,?_⟩)))
 have hd10 : ((a10 : Int) == 1) = false:=by rw [Bool.eq_false_iff];simp;omega
 rw [if_neg h10] at hR
 unfold jm13 at hR
 simp only at hR
 have cL:=pack_Reader_Lump_con l11 e11 65535 g11.b8 (by have:=g11.len;omega) (by omega)
 have gL:=g11.lump 65535 e11
 have yL:=(lumpR_mem (most:=65535) (e:=e11) g11.b8).1
 have zL':=(lumpR_len (most:=65535) (l:=l11) (e:=e11)).1
 generalize lumpR 65535 l11 e11 = q at hR cL gL yL zL'
 obtain ⟨dd,l14,e14⟩:=q
 simp only at cL gL yL zL'
 unfold jm14 at hR
 simp only at hR
 rw [bP_at (by decide)] at hR
 have cv0:=msg_parsed_1_con l14 e14 gL.b8 (by have:=gL.len;omega)
 have gv0:=gL.num 9223372036854775807 e14
 generalize numR 9223372036854775807 l14 e14 = q at hR cv0 gv0
 obtain ⟨b0,m0,f0⟩:=q
 simp only at cv0 gv0
 unfold jm15 at hR
 simp only at hR
 rw [bP_at (by decide)] at hR
 have cv1:=msg_parsed_1_con m0 f0 gv0.b8 (by have:=gv0.len;omega)
 have gv1:=gv0.num 9223372036854775807 f0
 generalize numR 9223372036854775807 m0 f0 = q at hR cv1 gv1
 obtain ⟨b1,m1,f1⟩:=q
 simp only at cv1 gv1
 unfold jm16 at hR
 simp only at hR
 rw [bP_at (by decide)] at hR
 have cv2:=msg_parsed_1_con m1 f1 gv1.b8 (by have:=gv1.len;omega)
 have gv2:=gv1.num 9223372036854775807 f1
 generalize numR 9223372036854775807 m1 f1 = q at hR cv2 gv2
 obtain ⟨b2,m2,f2⟩:=q
 simp only at cv2 gv2
 unfold jm17 at hR
 simp only at hR
 rw [bP_at (by decide)] at hR
 have cv3:=msg_parsed_1_con m2 f2 gv2.b8 (by have:=gv2.len;omega)
 have gv3:=gv2.num 9223372036854775807 f2
 generalize numR 9223372036854775807 m2 f2 = q at hR cv3 gv3
 obtain ⟨b3,m3,f3⟩:=q
 simp only at cv3 gv3
 unfold jFin at hR
 simp only at hR
 rw [hR]
 refine aB 1776 ?_
 refine RG.callvo [96,80] [] rfl trivial (c11) (.mk (by (repeat' (first | exact tr_nil | refine tr_cons ?_ ?_ | exact tr_bp rfl))) (by (simp only [zT,simprocAttr];done)) (by simp) (by simp) (trivial) (by (simp [lkE_cons,lkE_nil];done)) (by (simp [Ent.pure];done)) (by simp) (by simp)) ?_
 refine aEs (fun Q hQ=>by simp (disch:=intros;contradiction) only [zS,hd10,simprocAttr];exact hQ) ?_
 refine aF ?_
 refine aB 1856 ?_
 refine rO [80] [] (cL) ?_
 refine aE ?_
 refine aB 1952 ?_
 refine RG.callvo [96,80] [] rfl trivial (cv0) (.mk (by (repeat' (first | exact tr_nil | refine tr_cons ?_ ?_ | exact tr_bp rfl))) (by (simp only [zT,simprocAttr];done)) (by simp) (by simp) (trivial) (by (simp [lkE_cons,lkE_nil];done)) (by (simp [Ent.pure];done)) (by simp) (by simp)) ?_
 refine aM ?_
 refine RG.callvo [96,80] [] rfl trivial (cv1) (.mk (by (repeat' (first | exact tr_nil | refine tr_cons ?_ ?_ | exact tr_bp rfl))) (by (simp only [zT,simprocAttr];done)) (by simp) (by simp) (trivial) (by (simp [lkE_cons,lkE_nil];done)) (by (simp [Ent.pure];done)) (by simp) (by simp)) ?_
 refine aM ?_
 refine RG.callvo [96,80] [] rfl trivial (cv2) (.mk (by (repeat' (first | exact tr_nil | refine tr_cons ?_ ?_ | exact tr_bp rfl))) (by (simp only [zT,simprocAttr];done)) (by simp) (by simp) (trivial) (by (simp [lkE_cons,lkE_nil];done)) (by (simp [Ent.pure];done)) (by simp) (by simp)) ?_
 refine aM ?_
 refine RG.callvo [96,80] [] rfl trivial (cv3) (.mk (by (repeat' (first | exact tr_nil | refine tr_cons ?_ ?_ | exact tr_bp rfl))) (by (simp only [zT,simprocAttr];done)) (by simp) (by simp) (trivial) (by (simp [lkE_cons,lkE_nil];done)) (by (simp [Ent.pure];done)) (by simp) (by simp)) ?_
 refine aE ?_
 refine aR 2240 ?_
 refine Fin.data [5000] (.inr rfl) rfl (by (exact ⟨trivial,trivial⟩)) ?_
 simp only [zL,simprocAttr]
 all_goals ((repeat' (first | exact trivial | rfl | (refine ⟨⟨_,_,rfl⟩,?_⟩;(exact erow_data _)) | refine ⟨?_,?_⟩)))

end Go.Abs

namespace Go.Abs
open Go Go.Proofs
set_option maxRecDepth 100000
set_option linter.unusedSimpArgs false
set_option maxHeartbeats 8000000

theorem pureTB {r : List (List C)} {b : Bool} : (SV.tup [.c (.sl r),B b]).pureD:=by
 intro s hs
 simp only [List.mem_cons,List.not_mem_nil,or_false] at hs
 rcases hs with rfl | rfl <;> rfl

theorem pureTA {cs : List C} {x : Value} (h : ∀ c ∈ cs,c.isD = true) : (SV.tup [.agg cs,.c (.v x)]).pureD:=by
 intro s hs
 simp only [List.mem_cons,List.not_mem_nil,or_false] at hs
 rcases hs with rfl | rfl
 ·exact h
 ·rfl
theorem pureTC {r : List (List C)} {x : Value} : (SV.tup [.c (.sl r),.c (.v x)]).pureD:=by
 intro s hs
 simp only [List.mem_cons,List.not_mem_nil,or_false] at hs
 rcases hs with rfl | rfl <;> rfl

theorem jE_ok {n : Nat} : ∀ (k j : Nat) (acc : List EN) (l : List Nat) (e : Nat),GE j acc→RestOk n l→GE (j + k) (jE k acc l e).1∧RestOk n (jE k acc l e).2.1
 | 0,j,acc,l,e,h1,h2=>⟨h1,h2⟩
 | k + 1,j,acc,l,e,h1,h2=>by
  have h3:=h2.ent e
  have:=jE_ok k (j + 1) (acc ++ [enOf (readE l e)]) (readE l e).l (readE l e).e (h1.snoc h3.2.1) h3.1
  rw [show j + (k + 1) = j + 1 + k by omega]
  exact this
theorem jM_ok {B : Nat→Nat} (hB : B 9≤1000000) {l : List Nat} (h : RestOk 1000000 l) : Mok (jM B l).1:=by
 have g0:=h.num (B 0) 0
 unfold jM jm1
 have g1:=g0.num (B 1) (numR (B 0) l 0).2.2
 unfold jm2
 have g2:=g1.num (B 2) (numR (B 1) (numR (B 0) l 0).2.1 (numR (B 0) l 0).2.2).2.2
 generalize numR (B 1) (numR (B 0) l 0).2.1 (numR (B 0) l 0).2.2 = q1 at g1 g2 ⊢
 generalize numR (B 0) l 0 = q0 at g0 ⊢
 unfold jm3
 have g3:=g2.num (B 3) (numR (B 2) q1.2.1 q1.2.2).2.2
 generalize numR (B 2) q1.2.1 q1.2.2 = q2 at g2 g3 ⊢
 unfold jm4
 have g4:=g3.num (B 4) (numR (B 3) q2.2.1 q2.2.2).2.2
 generalize numR (B 3) q2.2.1 q2.2.2 = q3 at g3 g4 ⊢
 unfold jm5
 have g5:=g4.num (B 5) (numR (B 4) q3.2.1 q3.2.2).2.2
 generalize numR (B 4) q3.2.1 q3.2.2 = q4 at g4 g5 ⊢
 unfold jm6
 have g6:=g5.num (B 6) (numR (B 5) q4.2.1 q4.2.2).2.2
 generalize numR (B 5) q4.2.1 q4.2.2 = q5 at g5 g6 ⊢
 unfold jm7
 have g7:=g6.num (B 7) (numR (B 6) q5.2.1 q5.2.2).2.2
 generalize numR (B 6) q5.2.1 q5.2.2 = q6 at g6 g7 ⊢
 unfold jm8
 have g8:=g7.num (B 8) (numR (B 7) q6.2.1 q6.2.2).2.2
 generalize numR (B 7) q6.2.1 q6.2.2 = q7 at g7 g8 ⊢
 unfold jm9
 have g9:=g8.num (B 9) (numR (B 8) q7.2.1 q7.2.2).2.2
 generalize numR (B 8) q7.2.1 q7.2.2 = q8 at g8 g9 ⊢
 unfold jm10
 have k9 : (numR (B 9) q8.2.1 q8.2.2).1≤B 9:=numR_le
 generalize numR (B 9) q8.2.1 q8.2.2 = q9 at g9 k9 ⊢
 unfold jm11
 have gE:=jE_ok q9.1 0 [] q9.2.1 q9.2.2 ⟨Nat.le_refl _,fun e he=>by cases he⟩ g9
 generalize jE q9.1 [] q9.2.1 q9.2.2 = r at gE ⊢
 unfold jm12
 have g10:=gE.2.num (B 10) r.2.2
 generalize numR (B 10) r.2.1 r.2.2 = q10 at g10 ⊢
 have gb : (∀ c ∈ (if q10.1 = 1 then readB (B 15) q10.2.1 q10.2.2 else ⟨0,0,[],[],false,q10.2.1,q10.2.2⟩ : ReadB).d,c < 256)∧RestOk 1000000 (if q10.1 = 1 then readB (B 15) q10.2.1 q10.2.2 else ⟨0,0,[],[],false,q10.2.1,q10.2.2⟩ : ReadB).l∧(if q10.1 = 1 then readB (B 15) q10.2.1 q10.2.2 else ⟨0,0,[],[],false,q10.2.1,q10.2.2⟩ : ReadB).c.length≤7∧(if q10.1 = 1 then readB (B 15) q10.2.1 q10.2.2 else ⟨0,0,[],[],false,q10.2.1,q10.2.2⟩ : ReadB).d.length≤1000000:=by
  split
  ·have h1:=readB_mem (most:=B 15) (e:=q10.2.2) g10.b8
   refine ⟨h1.1,⟨h1.2.1,by have:=h1.2.2.1;have:=g10.len;omega⟩,h1.2.2.2,?_⟩
   unfold readB
   simp only
   split
   ·rename_i hd
    obtain ⟨_,_,_,_,_,h6⟩:=baseRight_facts hd.2
    simp only;omega
   ·simp
  ·exact ⟨by simp,g10,by simp,by simp⟩
 generalize (if q10.1 = 1 then readB (B 15) q10.2.1 q10.2.2 else ⟨0,0,[],[],false,q10.2.1,q10.2.2⟩ : ReadB) = b at gb ⊢
 unfold jm13 jm14
 have yL:=(lumpR_mem (most:=65535) (e:=b.e) gb.2.1.b8).1
 have zL:=(lumpR_len (most:=65535) (l:=b.l) (e:=b.e)).1
 have zl:=gb.2.1.len
 generalize lumpR 65535 b.l b.e = d at yL zL ⊢
 unfold jm15 jm16 jm17 jFin
 exact ⟨by simp only;have:=gE.1.1;omega,by simp only;omega,gb.2.2.2,by simp only;omega,gE.1.2,gb.1,yL⟩

theorem putM_by {m : MG} (h : byM m) : ∀ c ∈ (putM m).1,c < 256:=by
 unfold putM
 split
 ·exact seal_by (bodyM_by h)
 ·intro c hc;cases hc
theorem open_rest {l : List Nat} {n : Nat} (h : RestOk n l) : RestOk n (openB l).1:=by
 unfold openB
 split
 ·exact ⟨fun c hc=>h.b8 c (List.mem_of_mem_take hc),by have:=h.len;simp;omega⟩
 ·exact ⟨by simp,by simp⟩
theorem msg_Read_con (l : List Nat) (hl : RestOk 1000000 l) : Con Tryz.prog 16 [.c (.sl (l.map brow))] [] (.tup [.agg (msgC (readM bP l).1),I (readM bP l).2]) []:=by
 have cO:=crc_Open_con l hl.b8 (by have:=hl.len;omega)
 have go:=open_rest hl
 have cP:=msg_parsed_con (openB l).1 go.b8 go.len
 have hok:=jM_ok (B:=bP) (by decide) go
 have cW:=msg_Put_con _ hok
 have hby:=putM_by hok.by'
 have cE:=bytes_Equal_con (putM (jM bP (openB l).1).1).1 l hby hl.b8
 have hrd : readM bP l = if (openB l).2 = false then (zeroM,24) else if rightM (jM bP (openB l).1).1 = true∧sealB (bodyM (jM bP (openB l).1).1) = l then ((jM bP (openB l).1).1,0) else (zeroM,20):=rfl
 generalize openB l = ob at cO cP cW cE hrd
 obtain ⟨x,is⟩:=ob
 simp only at cO cP cW cE hrd
 generalize (jM bP x).1 = m at cP cW cE hrd
 have hput : (rightM m = true∧sealB (bodyM m) = l) ↔ ((putM m).2 = 0∧(putM m).1 = l):=by
  unfold putM
  split
  ·rename_i h;simp [h]
  ·rename_i h;simp [h]
 generalize putM m = pm at cW cE hput
 obtain ⟨pb,pe⟩:=pm
 simp only at cW cE hput
 refine C_msg_Read nl nl ?_
 simp only [cz,A_msg_Read,argL,objL,List.length_nil,zX]
 refine aR 16 ?_
 refine aB 80 ?_
 refine rC [] (cO) ?_ (hs:=(by exact .inr ⟨pureTB,trivial⟩))
 refine aE ?_
 refine aR 224 ?_
 refine aw_cond _ rfl trivial (fun ht=>?_) (fun hf=>?_)
 ·skip
  try simp at ht
  simp only [zX]
  rw [hrd,if_pos ht]
  refine aR 288 ?_
  refine Fin.data [] (.inr rfl) rfl (by (exact ⟨trivial,trivial⟩)) ?_
  simp only [zL,simprocAttr]
  all_goals ((repeat' (first | exact trivial | rfl | refine ⟨?_,?_⟩)))
 try simp at hf
 simp only [zX]
 have his : is = true:=by simpa using hf
 rw [hrd,if_neg (by simp [his])]
 refine aB 368 ?_
 refine rC [] (cP) ?_ (hs:=(by exact .inr ⟨msgC_pure _,trivial⟩))
 refine aEs (fun Q hQ=>by simp (disch:=intros;contradiction) only [zS,msgC,simprocAttr];exact hQ) ?_
 refine aB 464 ?_
 refine rC [] (cW) ?_ (hs:=(by exact .inr ⟨pureTC,trivial⟩))
 refine aE ?_
 by_cases h0 : pe = 0
 ·skip
  have hb0 : (pe != 0) = false:=by rw [h0];rfl
  refine aBs 608 (fun Q hQ=>by simp (disch:=intros;contradiction) only [zS,hb0,simprocAttr];exact hQ) ?_
  refine rG _ _ (cE) ?_
  refine aE ?_
  refine aw_cond _ rfl trivial (fun ht=>?_) (fun hf=>?_)
  ·skip
   try simp at ht
   simp only [zX]
   have hno : ¬ (rightM m = true∧sealB (bodyM m) = l):=fun h=>ht (hput.1 h).2
   rw [if_neg hno]
   refine aR 768 ?_
   refine Fin.data [] (.inr rfl) rfl (by (exact ⟨trivial,trivial⟩)) ?_
   simp only [zL,simprocAttr]
   all_goals ((repeat' (first | exact trivial | rfl | refine ⟨?_,?_⟩)))
  try simp at hf
  simp only [zX]
  rw [if_pos (hput.2 ⟨h0,hf⟩)]
  refine aR 848 ?_
  refine Fin.data [] (.inr rfl) rfl (by (exact ⟨trivial,trivial⟩)) ?_
  simp only [zL,simprocAttr]
  all_goals ((repeat' (first | exact trivial | rfl | refine ⟨?_,?_⟩)))
 have hb0 : (pe != 0) = true:=by simpa using h0
 have hno : ¬ (rightM m = true∧sealB (bodyM m) = l):=fun h=>h0 (hput.1 h).1
 rw [if_neg hno]
 refine aBs 928 (fun Q hQ=>by simp (disch:=intros;contradiction) only [zS,hb0,simprocAttr];exact hQ) ?_
 refine RG.callg (res:=B true) _ _ [] rfl (fun hg=>by simp at hg) ?_
 refine aE ?_
 refine aT ?_
 refine aR 1088 ?_
 refine Fin.data [] (.inr rfl) rfl (by (exact ⟨trivial,trivial⟩)) ?_
 simp only [zL,simprocAttr]
 all_goals ((repeat' (first | exact trivial | rfl | refine ⟨?_,?_⟩)))

theorem msgT_pure (m : MG) (x : Value) : (SV.tup [.agg (msgC m),.c (.v x)]).pureD:=pureTA (msgC_pure m)

end Go.Abs

namespace Go.Abs
open Go Go.Proofs
set_option maxRecDepth 100000
set_option linter.unusedSimpArgs false
set_option maxHeartbeats 8000000

theorem w32_xor (a b : BitVec 32) : bitsI .xor .u32 (w32 a) (w32 b) = w32 (a ^^^ b):=bits_xor a b
theorem w32_and1 (c : BitVec 32) : bitsI .and .u32 (w32 c) 1 = if c.getLsbD 0 then 1 else 0:=bits_one c
theorem w32_and255 (c : BitVec 32) : bitsI .and .u32 (w32 c) 255 = w32 (c &&& 255#32):=by
 show IntKind.u32.wrap ((BitVec.ofInt 32 (c.toNat : Int) &&& BitVec.ofInt 32 255).toNat) = _
 rw [ofInt_nat,u32_wrap]
 rfl
theorem w32_shr1 (c : BitVec 32) : (w32 c).fdiv (2 ^ min 1 IntKind.u32.bits) = w32 (c >>> 1):=by
 rw [(w32_shr c).1];unfold w32;rw [BitVec.toNat_ushiftRight,Nat.shiftRight_eq_div_pow];omega
theorem w32_shr8 (c : BitVec 32) : (w32 c).fdiv (2 ^ min 8 IntKind.u32.bits) = w32 (c >>> 8):=by
 rw [(w32_shr c).2.1];unfold w32;rw [BitVec.toNat_ushiftRight,Nat.shiftRight_eq_div_pow];omega
theorem w32_odd {c : BitVec 32} (h : c.getLsbD 0 = true) : bitsI .xor .u32 (w32 (c >>> 1)) 2197175160 = w32 (crcS c):=by
 rw [show (2197175160 : Int) = w32 crcP from rfl,w32_xor]
 unfold crcS;rw [h,if_pos rfl]
theorem w32_even {c : BitVec 32} (h : c.getLsbD 0 = false) : w32 (c >>> 1) = w32 (crcS c):=by
 unfold crcS;rw [h];simp
theorem mementoref1_row_con (c : BitVec 32) : Con Tryz.prog 97 [.c (.v (.int .u32 (w32 c)))] [] (.c (.v (.int .u32 (w32 (crcN 8 c))))) []:=by
 refine C_mementoref1_row nl nl ?_
 simp only [cz,A_mementoref1_row,argL,objL,List.length_nil,zX]
 refine aR 16 ?_
 refine aR 64 ?_
 refine aw_loopK (X:={ k : Nat // k≤8 }) [] (fun k=>[(0,.c (.v (.int .u32 (w32 (crcN k.1 c))))),(3,I k.1)]) [] (fun k=>[]) (fun k=>8 - k.1) (⟨0,by omega⟩) ?_ ?_
 ·skip
  simp only [keepS,keepE,List.cons_append,List.nil_append]
  refine Le.lit [] [] _ _ ?_ ?_ ?_ ?_
  ·simp only [zL,simprocAttr]
   all_goals (try ((repeat' (rfl))))
  ·simp only [zL,simprocAttr]
  ·simp [rlook]
  ·(simp;done)
 rintro ⟨k,hk⟩
 simp only [keepS,keepE,List.cons_append,List.nil_append]
 simp only [zX]
 refine aR 112 ?_
 refine aw_cond _ rfl trivial (fun ht=>?_) (fun hf=>?_)
 ·skip
  try simp at ht
  simp only [zX]
  have hk' : k + 1≤8:=by omega
  have hs:=crcN_snoc k c
  generalize hcn : crcN k c = cn at hs
  have ha:=w32_and1 cn
  have hr:=w32_shr1 cn
  cases hb : cn.getLsbD 0
  ·skip
   have hb1 : cn.getLsbD 0 = false:=hb
   have he:=w32_even hb1
   rw [hb1] at ha
   simp only [Bool.false_eq_true,if_false] at ha
   refine aS 176 (fun Q hQ=>by simp (disch:=intros;contradiction) only [zS,ha,simprocAttr];exact hQ) ?_
   refine aw_cond _ rfl trivial (fun ht=>by cases ht) (fun hf=>?_)
   refine aS 256 (fun Q hQ=>by simp (disch:=intros;contradiction) only [zS,hr,simprocAttr];exact hQ) ?_
   refine aS 336 (fun Q hQ=>by simp (disch:=first | (intros;contradiction) | omega | (simp only [zN];omega)) only [zS,zW,simprocAttr];exact hQ) ?_
   refine ⟨⟨k + 1,hk'⟩,?_,by first | omega | (simp only;omega)⟩
   refine Le.lit [] [] _ _ ?_ ?_ ?_ ?_
   ·simp only [zL,simprocAttr]
    all_goals (rw [hs,← he];(repeat' ((simp;done))))
   ·simp only [zL,simprocAttr]
   ·simp [rlook]
   ·(simp;done)
  have hb1 : cn.getLsbD 0 = true:=hb
  have he:=w32_odd hb1
  rw [hb1] at ha
  simp only [if_true] at ha
  refine aS 416 (fun Q hQ=>by simp (disch:=intros;contradiction) only [zS,ha,simprocAttr];exact hQ) ?_
  refine aw_cond _ rfl trivial (fun ht=>?_) (fun hf=>by cases hf)
  refine aS 496 (fun Q hQ=>by simp (disch:=intros;contradiction) only [zS,hr,he,simprocAttr];exact hQ) ?_
  refine aS 592 (fun Q hQ=>by simp (disch:=first | (intros;contradiction) | omega | (simp only [zN];omega)) only [zS,zW,simprocAttr];exact hQ) ?_
  refine ⟨⟨k + 1,hk'⟩,?_,by first | omega | (simp only;omega)⟩
  refine Le.lit [] [] _ _ ?_ ?_ ?_ ?_
  ·simp only [zL,simprocAttr]
   all_goals (rw [hs];(repeat' ((simp;done))))
  ·simp only [zL,simprocAttr]
  ·simp [rlook]
  ·(simp;done)
 try simp at hf
 simp only [zX,↓reduceIte]
 obtain rfl : k = 8:=by omega
 refine aR 672 ?_
 exact Fin.scalar (.inr rfl) rfl trivial rfl trivial

theorem mementoref1_More_con (c : BitVec 32) (l : List Nat) (h8 : ∀ x ∈ l,x < 256) (hl : l.length≤140737488355328) :
  Con Tryz.prog 81 [.c (.v (.int .u32 (w32 c))),.c (.sl (l.map brow))] [] (.c (.v (.int .u32 (w32 (crcM c l))))) []:=by
 refine C_mementoref1_More nl nl ?_
 simp only [cz,A_mementoref1_More,argL,objL,List.length_nil,Nat.zero_add,zX]
 refine aR 16 ?_
 refine aS 64 (fun Q hQ=>by simp (disch:=intros;contradiction) only [zS,w32_not,simprocAttr];exact hQ) ?_
 refine aR 144 ?_
 refine aw_loopK (X:={ i : Nat // i≤l.length }) [1] (fun i=>[(0,.c (.v (.int .u32 (w32 (crcB (~~~c) (l.take i.1)))))),(5,I i.1)]) [] (fun i=>[]) (fun i=>l.length - i.1) (⟨0,by omega⟩) ?_ ?_
 ·skip
  simp only [keepS,keepE,lk_cons,List.cons_append,List.nil_append,simprocAttr]
  refine Le.lit [] [] _ _ ?_ ?_ ?_ ?_
  ·simp only [zL,simprocAttr]
   all_goals (try ((repeat' (rfl))))
  ·simp only [zL,simprocAttr]
  ·simp [rlook]
  ·(simp;done)
 rintro ⟨i,hi⟩
 simp only [keepS,keepE,lk_cons,List.cons_append,List.nil_append,simprocAttr]
 simp only [zX]
 refine aS 192 (fun Q hQ=>by simp (disch:=intros;contradiction) only [zS,zW,simprocAttr];exact hQ) ?_
 refine aw_cond _ rfl trivial (fun ht=>?_) (fun hf=>?_)
 ·skip
  try simp at ht
  simp only [zX]
  have hi' : i < l.length:=by omega
  obtain ⟨x,hx⟩ : ∃ x,l[i] = x:=⟨_,rfl⟩
  have hx8:=h8 x (by rw [← hx];exact List.getElem_mem hi')
  have hnx : crcB (~~~c) (l.take (i + 1)) = crcN 8 (crcB (~~~c) (l.take i) ^^^ BitVec.ofNat 32 x):=by rw [take_one _ _ hi',crcB_snoc,hx]
  generalize hcb : crcB (~~~c) (l.take i) = cb at hnx
  have ha:=w32_and255 cb
  have hb1:=w32_byte (cb &&& 255#32) hx8
  have hb2 : IntKind.u32.wrap (x : Int) = x:=by rw [wrap_u32'];omega
  have hr:=w32_shr8 cb
  have hx2:=w32_xor (crcN 8 ((cb &&& 255#32) ^^^ BitVec.ofNat 32 x)) (cb >>> 8)
  rw [← crc_row] at hx2
  refine aBs 288 (fun Q hQ=>by simp (disch:=first | (intros;contradiction) | omega | (simp only [zN];omega)) only [zS,zW,hx,ha,hb1,hb2,brow,simprocAttr];repeat refine ⟨by (omega),?_⟩;exact hQ) ?_
  refine rC [] (mementoref1_row_con _) ?_
  refine aEs (fun Q hQ=>by simp (disch:=intros;contradiction) only [zS,hr,hx2,simprocAttr];exact hQ) ?_
  refine aS 528 (fun Q hQ=>by simp (disch:=first | (intros;contradiction) | omega | (simp only [zN];omega)) only [zS,zW,simprocAttr];exact hQ) ?_
  refine ⟨⟨i + 1,hi'⟩,?_,by first | omega | (simp only;omega)⟩
  refine Le.lit [] [] _ _ ?_ ?_ ?_ ?_
  ·simp only [zL,simprocAttr]
   all_goals (rw [hnx];(repeat' ((simp;done))))
  ·simp only [zL,simprocAttr]
  ·simp [rlook]
  ·(simp;done)
 try simp at hf
 simp only [zX,↓reduceIte]
 obtain rfl : i = l.length:=by omega
 refine aS 608 (fun Q hQ=>by simp (disch:=intros;contradiction) only [zS,zW,w32_not,w32_not,simprocAttr];exact hQ) ?_
 exact Fin.scalar (.inr rfl) rfl trivial rfl trivial

theorem mementoref1_Sum_con (l : List Nat) (h8 : ∀ x ∈ l,x < 256) (hl : l.length≤140737488355328) :
  Con Tryz.prog 51 [.c (.sl (l.map brow))] [] (.c (.v (.int .u32 (w32 (crcM 0#32 l))))) []:=by
 have cM:=mementoref1_More_con 0#32 l h8 hl
 rw [← w32_zero] at cM
 refine C_mementoref1_Sum nl nl ?_
 simp only [cz,A_mementoref1_Sum,argL,objL,List.length_nil,zX]
 refine aR 16 ?_
 refine aB 64 ?_
 refine rC [] (cM) ?_
 refine aE ?_
 exact Fin.scalar (.inr rfl) rfl trivial rfl trivial

theorem mementoref1_Four_con (c : BitVec 32) : Con Tryz.prog 50 [.c (.v (.int .u32 (w32 c)))] [] (.c (.osl 0)) [.arr 5 1 ((fourB c).map brow) false]:=by
 have hs:=w32_shr c
 have h0:=(w32_four c).1
 have h1:=(w32_four c).2.1
 have h2:=(w32_four c).2.2.1
 have h3:=(w32_four c).2.2.2
 have g1:=hs.2.1
 have g2:=hs.2.2.1
 have g3:=hs.2.2.2
 have hf : (fourB c).map brow = [[.v (.int .u8 ((c.toNat % 256 : Nat) : Int))],[.v (.int .u8 ((c.toNat / 256 % 256 : Nat) : Int))],[.v (.int .u8 ((c.toNat / 65536 % 256 : Nat) : Int))],[.v (.int .u8 ((c.toNat / 16777216 % 256 : Nat) : Int))]]:=rfl
 rw [hf]
 refine C_mementoref1_Four nl nl ?_
 simp only [cz,A_mementoref1_Four,argL,objL,List.length_nil,zX]
 refine aR 16 ?_
 refine aS 64 (fun Q hQ=>by simp (disch:=intros;contradiction) only [zS,g1,g2,g3,h0,h1,h2,h3,simprocAttr];exact hQ) ?_
 refine Fin.objs [] [(0,240)] (.inr rfl) rfl (by exact trivial) ?_ ?_ (by simp [objL,rlook]) (by (simp [objL,rlook];done))
 ·simp only [zL,simprocAttr]
 ·simp only [zL,simprocAttr]
  all_goals (try ((repeat' (((simp [C.isD];done))))))

theorem mementoref1_Seal_con (l : List Nat) (h8 : ∀ x ∈ l,x < 256) (hl : l.length≤1000000000000) :
  Con Tryz.prog 17 [.c (.sl (l.map brow))] [] (.c (.osl 0)) [.arr 5 1 ((sealB l).map brow) false]:=by
 have cS:=mementoref1_Sum_con l h8 (by omega)
 have cF:=mementoref1_Four_con (crcM 0#32 l)
 refine C_mementoref1_Seal nl nl ?_
 simp only [cz,A_mementoref1_Seal,argL,objL,List.length_nil,zX]
 refine aR 16 ?_
 refine aBs 64 (fun Q hQ=>by simp (disch:=intros;contradiction) only [zS,zW,simprocAttr];repeat refine ⟨by (exact ⟨by (intro q hq;obtain ⟨_,_,rfl⟩:=List.mem_map.1 hq;rfl),by omega⟩),?_⟩;exact hQ) ?_
 refine rC [] (cS) ?_
 refine aM ?_
 refine rO [] [] (cF) ?_
 refine RG.go fun Q hQ=>?_
 simp (disch:=intros;contradiction) only [zS,zW,simprocAttr]
 refine ⟨⟨brow_len _,by rw [fourB_len];omega⟩,hQ (RG.nil ?_)⟩
 simp only [zX]
 refine Fin.objs [] [(0,144)] (.inr rfl) rfl (by exact trivial) ?_ ?_ (by simp [objL,rlook]) (by (simp [objL,rlook];done))
 ·simp only [zL,simprocAttr]
 ·simp only [zL,simprocAttr]
  all_goals (simp only [sealB,List.map_append];(repeat' (first | (first | (simp [brow,C.isD];done) | (rw [← List.map_append];first | exact drows_brow _ | exact drows_nrow _ | exact drows_irow _ | exact drows_wrow _)) | refine ⟨?_,?_⟩)))

theorem mementoref1_Open_con (l : List Nat) (h8 : ∀ x ∈ l,x < 256) (hl : l.length≤1000000000000) :
  Con Tryz.prog 52 [.c (.sl (l.map brow))] [] (.tup [.c (.sl ((openB l).1.map brow)),B (openB l).2]) []:=by
 by_cases h : l.length < 4
 ·have hd : decide ((l.length : Int) - 4 < 0) = true:=by simp;omega
  have ho : openB l = ([],false):=by unfold openB;rw [if_neg (by omega)]
  rw [ho]
  refine C_mementoref1_Open nl nl ?_
  simp only [cz,A_mementoref1_Open,argL,objL,List.length_nil,zX]
  refine aR 16 ?_
  refine aS 80 (fun Q hQ=>by simp (disch:=first | (intros;contradiction) | omega | (simp only [zN];omega)) only [zS,zW,simprocAttr];exact hQ) ?_
  refine aBDs 176 (fun Q hQ=>by simp (disch:=intros;contradiction) only [zS,zW,hd,simprocAttr];exact hQ) ?_
  refine RG.callg (res:=B true) _ _ [] rfl (fun hg=>by simp at hg) ?_
  refine aM ?_
  refine RG.callg (res:=.c (.sl [])) _ _ [] rfl (fun hg=>by simp at hg) ?_
  refine aEDs (fun Q hQ=>by simp (disch:=intros;contradiction) only [zS,zW,simprocAttr];exact hQ) ?_
  refine aT ?_
  refine aR 448 ?_
  refine Fin.data [] (.inr rfl) rfl (by (exact trivial)) ?_
  simp only [zL,simprocAttr]
  all_goals (simp)

 ·have hd : decide ((l.length : Int) - 4 < 0) = false:=by simp;omega
  have hn : ((l.length : Int) - 4).toNat = l.length - 4:=by omega
  have h8a : ∀ x ∈ l.take (l.length - 4),x < 256:=fun x hx=>h8 x (List.mem_of_mem_take hx)
  have h8b : ∀ x ∈ l.drop (l.length - 4),x < 256:=fun x hx=>h8 x (List.mem_of_mem_drop hx)
  have cS:=mementoref1_Sum_con (l.take (l.length - 4)) h8a (by simp;omega)
  have cF:=mementoref1_Four_con (crcM 0#32 (l.take (l.length - 4)))
  refine C_mementoref1_Open nl nl ?_
  simp only [cz,A_mementoref1_Open,argL,objL,List.length_nil,zX]
  refine aR 16 ?_
  refine aS 80 (fun Q hQ=>by simp (disch:=first | (intros;contradiction) | omega | (simp only [zN];omega)) only [zS,zW,simprocAttr];exact hQ) ?_
  have hs:=str_eq (fourB (crcM 0#32 (l.take (l.length - 4)))) (l.drop (l.length - 4)) (fourB_by _) h8b
  refine aw_draw 176 ?_
  refine RG.cutGo 3 fun Q hQ=>?_
  simp only [List.take_succ_cons,List.take_zero]
  simp (disch:=intros;contradiction) only [zS,hd,simprocAttr]
  refine hQ ?_
  simp only [List.nil_append,List.drop_succ_cons,List.drop_zero]
  refine RG.unSome (gs:=10) (want:=false) (g:=true) (t:=false) rfl rfl (by simp (disch:=first | (intros;contradiction) | omega) only [lk_cons,gval,simprocAttr]) ?_
  simp only [List.map_cons,List.map_nil,ug,and_self,↓reduceIte]
  refine aMs (fun Q hQ=>by simp (disch:=intros;contradiction) only [zS,zW,hn,simprocAttr];repeat refine ⟨by ((refine ⟨?_,?_⟩ <;> (repeat' (first | omega | (intro q hq;obtain ⟨_,_,rfl⟩:=List.mem_map.1 hq;rfl) | refine ⟨?_,?_⟩)))),?_⟩;exact hQ) ?_
  refine rC [] (cS) ?_
  refine aM ?_
  refine rO [] [] (cF) ?_
  refine RG.go fun Q hQ=>?_
  simp (disch:=intros;contradiction) only [zS,zW,hn,hs,simprocAttr]
  repeat refine ⟨by (first | exact isByteRow_brow _ | (refine ⟨?_,?_⟩ <;> (repeat' (first | omega | (intro q hq;obtain ⟨_,_,rfl⟩:=List.mem_map.1 hq;rfl) | refine ⟨?_,?_⟩)))),?_⟩
  refine hQ (RG.nil ⟨by decide +kernel,?_⟩)
  simp only [zX]
  refine aw_cond _ rfl trivial (fun ht=>?_) (fun hf=>?_)
  ·skip
   try simp at ht
   simp only [zX]
   have ho : openB l = ([],false):=by unfold openB;rw [if_neg (by intro h2;exact ht h2.2.symm)]
   rw [ho]
   refine aR 448 ?_
   refine Fin.data [] (.inr rfl) rfl (by (exact trivial)) ?_
   simp only [zL,simprocAttr]
   all_goals (simp)
  try simp at hf
  simp only [zX]
  have ho : openB l = (l.take (l.length - 4),true):=by unfold openB;rw [if_pos ⟨by omega,hf.symm⟩]
  rw [ho]
  refine aS 512 (fun Q hQ=>by simp (disch:=intros;contradiction) only [zS,zW,hn,simprocAttr];repeat refine ⟨by ((refine ⟨?_,?_⟩ <;> (repeat' (first | omega | (intro q hq;obtain ⟨_,_,rfl⟩:=List.mem_map.1 hq;rfl) | refine ⟨?_,?_⟩)))),?_⟩;exact hQ) ?_
  refine Fin.data [] (.inr rfl) rfl (by (exact trivial)) ?_
  simp only [zL,simprocAttr]
  all_goals (skip)

end Go.Abs

namespace Go.Abs
open Go Go.Proofs
set_option maxRecDepth 100000
set_option linter.unusedSimpArgs false
set_option maxHeartbeats 8000000

theorem boolInt_con (b : Bool) : Con Tryz.prog 67 [B b] [] (I ((if b then 1 else 0 : Nat) : Int)) []:=by
 refine C_mementoref6_boolInt nl nl ?_
 simp only [cz,A_mementoref6_boolInt,argL,objL,List.length_nil,zX]
 refine aR 16 ?_
 refine aR 64 ?_
 refine aw_cond _ rfl trivial (fun ht=>?_) (fun hf=>?_)
 ·skip
  try simp at ht
  simp only [zX]
  rw [ht]
  refine aw_reg 112 (RG.go fun Q hQ=>?_)
  simp (disch:=intros;contradiction) only [zS,simprocAttr]
  refine hQ (RG.nil ?_)
  simp only [zX,↓reduceIte]
  exact Fin.scalar (.inr rfl) rfl trivial rfl trivial
 try simp at hf
 simp only [zX]
 rw [hf]
 refine aw_reg 160 (RG.go fun Q hQ=>?_)
 simp (disch:=intros;contradiction) only [zS,simprocAttr]
 refine hQ (RG.nil ?_)
 simp only [zX,simprocAttr]
 exact Fin.scalar (.inr rfl) rfl trivial rfl trivial

theorem bit_con (b : Bool) : Con Tryz.prog 31 [B b] [] (.c (.v (.int .u64 ((if b then 1 else 0 : Nat) : Int)))) []:=by
 have hw : IntKind.u64.wrap ((if b then 1 else 0 : Nat) : Int) = ((if b then 1 else 0 : Nat) : Int):=by cases b <;> decide
 have cB:=boolInt_con b
 generalize ((if b then 1 else 0 : Nat) : Int) = v at cB hw
 refine C_mementoref6_bit nl nl ?_
 simp only [cz,A_mementoref6_bit,argL,objL,List.length_nil,zX]
 refine aR 16 ?_
 refine aB 64 ?_
 refine rC [] (cB) ?_
 refine aEs (fun Q hQ=>by simp (disch:=intros;contradiction) only [zS,hw,simprocAttr];exact hQ) ?_
 exact Fin.scalar (.inr rfl) rfl trivial rfl trivial

theorem node_con (n : Int) : Con Tryz.prog 39 [I n] [] (B (decide (0≤n) && decide (n≤6))) []:=by
 refine C_mementoref6_node nl nl ?_
 simp only [cz,A_mementoref6_node,argL,objL,List.length_nil,zX]
 refine aR 16 ?_
 refine aR 64 ?_
 refine Fin.b (.inr rfl) rfl trivial ?_
 rw [Bool.eq_iff_iff];simp;omega

theorem SameEntries_con (a b : List EN) (hl : a.length≤1000000) (ha : ∀ e ∈ a,∀ c ∈ e.d,c < 256) (hb : ∀ e ∈ b,∀ c ∈ e.d,c < 256) : Con Tryz.prog 46 [.c (.sl (a.map erow)),.c (.sl (b.map erow))] [] (B (decide (a = b))) []:=by
 refine C_mementoref6_SameEntries nl nl ?_
 simp only [cz,A_mementoref6_SameEntries,argL,objL,List.length_nil,Nat.zero_add,zX]
 refine aR 16 ?_
 refine aS 64 (fun Q hQ=>by simp (disch:=intros;contradiction) only [zS,zW,simprocAttr];exact hQ) ?_
 refine aw_cond _ rfl trivial (fun ht=>?_) (fun hf=>?_)
 ·skip
  try simp at ht
  simp only [zX]
  refine aR 176 ?_
  refine Fin.b (.inr rfl) rfl trivial ?_
  symm;apply decide_eq_false;intro h;subst h;simp at ht
 try simp at hf
 simp only [zX]
 have hlen : a.length = b.length:=by omega
 refine aR 224 ?_
 refine aw_loopK (X:={ i : Nat // i≤a.length∧a.take i = b.take i }) [0,1] (fun i=>[(5,I i.1)]) [] (fun i=>[]) (fun i=>a.length - i.1) (⟨0,by omega,by simp⟩) ?_ ?_
 ·skip
  simp only [keepS,keepE,lk_cons,List.cons_append,List.nil_append,simprocAttr]
  refine Le.lit [] [] _ _ ?_ ?_ ?_ ?_
  ·simp only [zL,simprocAttr]
  ·simp only [zL,simprocAttr]
  ·simp [rlook]
  ·(simp;done)
 rintro ⟨i,hi,hs⟩
 simp only [keepS,keepE,lk_cons,List.cons_append,List.nil_append,simprocAttr]
 simp only [zX]
 refine aS 272 (fun Q hQ=>by simp (disch:=intros;contradiction) only [zS,zW,simprocAttr];exact hQ) ?_
 refine aw_cond _ rfl trivial (fun ht=>?_) (fun hf=>?_)
 ·skip
  try simp at ht
  simp only [zX]
  have hi' : i < a.length:=by omega
  have hi2 : i < b.length:=by omega
  obtain ⟨w,hw⟩ : ∃ w,a[i] = w:=⟨_,rfl⟩
  obtain ⟨u,hu⟩ : ∃ u,b[i] = u:=⟨_,rfl⟩
  have cS:=mementoref6_SameEntry_con w.i w.t w.k w.d u.i u.t u.k u.d (by rw [← hw];exact ha _ (List.getElem_mem hi')) (by rw [← hu];exact hb _ (List.getElem_mem hi2))
  refine aw_draw 368 (RG.go fun Q hQ=>?_)
  simp (disch:=first | (intros;contradiction) | omega | (simp only [zN];omega)) only [zS,zW,erow,hw,hu,simprocAttr]
  repeat refine ⟨by (omega),?_⟩
  refine hQ ?_
  refine rC [] (cS) ?_
  refine aED ?_
  refine aw_cond _ rfl trivial (fun ht=>?_) (fun hf=>?_)
  ·skip
   try simp at ht
   simp only [zX]
   have hne : a≠b:=fun h=>by
    subst h
    have hwu : w = u:=hw.symm.trans hu
    subst hwu
    simp [sameE] at ht
   refine aR 560 ?_
   refine Fin.b (.inr rfl) rfl trivial ?_
   symm;exact decide_eq_false hne
  try simp at hf
  simp only [zX]
  have hwu : w = u:=by
   rw [en_eq]
   unfold sameE at hf
   simp at hf
   exact ⟨hf.1.1.1,hf.1.1.2,hf.1.2,hf.2⟩
  have hs' : a.take (i + 1) = b.take (i + 1):=by rw [take_one _ _ hi',take_one _ _ hi2,hs,hw,hu,hwu]
  refine aS 608 (fun Q hQ=>by simp (disch:=first | (intros;contradiction) | omega | (simp only [zN];omega)) only [zS,zW,simprocAttr];exact hQ) ?_
  refine ⟨⟨i + 1,by omega,hs'⟩,?_,by first | omega | (simp only;omega)⟩
  refine Le.lit [] [] _ _ ?_ ?_ ?_ ?_
  ·simp only [zL,simprocAttr]
   all_goals (try ((repeat' (rfl))))
  ·simp only [zL,simprocAttr]
  ·simp [rlook]
  ·(simp;done)
 try simp at hf
 simp only [zX,↓reduceIte]
 obtain rfl : i = a.length:=by omega
 rw [List.take_length,hlen,List.take_length] at hs
 rw [decide_eq_true hs]
 refine aw_reg 688 (RG.go fun Q hQ=>?_)
 simp (disch:=intros;contradiction) only [zS,simprocAttr]
 refine hQ (RG.nil ?_)
 simp only [zX]
 exact Fin.scalar (.inr rfl) rfl trivial rfl trivial

theorem MsgSame_con (a b : MG) (ha : Mok a) (hb : Mok b) : Con Tryz.prog 15 [.agg (msgC a),.agg (msgC b)] [] (B (decide (a = b))) []:=by
 obtain ⟨k,g,f,o,t,x,lt,c,ok,es,bi,bt,bc,bd,d,v,ch,mk,fl⟩:=a
 obtain ⟨k',g',f',o',t',x',lt',c',ok',es',bi',bt',bc',bd',d',v',ch',mk',fl'⟩:=b
 obtain ⟨a1,a2,a3,a4,a5,a6,a7⟩:=ha
 obtain ⟨b1,b2,b3,b4,b5,b6,b7⟩:=hb
 simp only at a1 a2 a3 a4 a5 a6 a7 b1 b2 b3 b4 b5 b6 b7
 have cE:=SameEntries_con es es' a1 a5 b5
 have cB:=mementoref6_SameBase_con bi bt bc bd bi' bt' bc' bd' (by omega) a6 b6
 have hs:=str_eq d d' a7 b7
 refine C_mementoref6_MsgSame nl nl ?_
 simp only [cz,A_mementoref6_MsgSame,argL,objL,List.length_nil,Nat.zero_add,zX]
 refine aS 16 (fun Q hQ=>by simp (disch:=intros;contradiction) only [zS,msgC,simprocAttr];exact hQ) ?_
 refine aB 96 ?_
 refine rG _ _ (cE) ?_
 refine aM ?_
 refine rG _ _ (cB) ?_
 refine RG.go fun Q hQ=>?_
 simp (disch:=intros;contradiction) only [zS,hs,simprocAttr]
 repeat refine ⟨by (exact fun h=>⟨isByteRow_brow _,h⟩),?_⟩
 refine hQ (RG.nil ?_)
 simp only [zX]
 refine Fin.b (.inr rfl) rfl trivial ?_
 unfold sameB
 rw [Bool.eq_iff_iff]
 simp [and_assoc]

end Go.Abs

namespace Go.Abs
open Go Go.Proofs
set_option maxRecDepth 100000
set_option linter.unusedSimpArgs false
set_option maxHeartbeats 8000000

theorem MsgRight_con (m : MG) (hm : Mok m) : Con Tryz.prog 13 [.agg (msgC m)] [] (B (rightM m)) []:=by
 have cF:=node_con m.frm
 have cT:=node_con m.to
 have cB:=mementoref6_BaseRight_con m.bi m.bt m.bc m.bd (by have:=hm.bc;omega)
 refine C_mementoref6_MsgRight nl nl ?_
 simp only [cz,A_mementoref6_MsgRight,argL,objL,List.length_nil,zX]
 refine aS 16 (fun Q hQ=>by simp (disch:=intros;contradiction) only [zS,msgC,simprocAttr];exact hQ) ?_
 refine aBs 80 (fun Q hQ=>by simp (disch:=intros;contradiction) only [zS,simprocAttr];repeat refine ⟨by ((simp;done)),?_⟩;exact hQ) ?_
 refine rG _ _ (cF) ?_
 refine aMs (fun Q hQ=>by simp (disch:=intros;contradiction) only [zS,simprocAttr];repeat refine ⟨by ((simp;done)),?_⟩;exact hQ) ?_
 refine rG _ _ (cT) ?_
 refine aEs (fun Q hQ=>by simp (disch:=intros;contradiction) only [zS,simprocAttr];repeat refine ⟨by ((simp;done)),?_⟩;exact hQ) ?_
 refine aw_cond _ rfl trivial (fun ht=>?_) (fun hf=>?_)
 ·skip
  try simp at ht
  simp only [zX]
  rw [not_right (m:=m) (fun F=>by have:=F.g0;have:=F.g7;have:=F.f0;have:=F.f6;have:=F.t0;have:=F.t6;omega)]
  refine aR 432 ?_
  exact Fin.scalar (.inr rfl) rfl trivial rfl trivial
 try simp at hf
 simp only [zX]
 have hgf : 0≤m.grp∧m.grp≤7∧0≤m.frm∧m.frm≤6∧0≤m.to∧m.to≤6:=by omega
 refine aw_reg 480 (RG.go fun Q hQ=>?_)
 simp (disch:=intros;contradiction) only [zS,simprocAttr]
 refine hQ (RG.nil ?_)
 simp only [zY]
 refine aw_joinS (Y:={ q : MG // q = onlyM m∧1≤m.kind∧m.kind≤9∧(m.kind≠7∨baseRight m.bi m.bt m.bc m.bd = true) }) [1,3] (fun p=>[]) [16] (fun p=>[(624,.box [.v (.int .i64 p.1.kind),.v (.int .i64 p.1.grp),.v (.int .i64 p.1.frm),.v (.int .i64 p.1.to),.v (.int .i64 p.1.term),.v (.int .i64 p.1.idx),.v (.int .i64 p.1.lterm),.v (.int .i64 p.1.com),.v (.bool p.1.ok),.sl (p.1.es.map erow),.v (.int .i64 p.1.bi),.v (.int .i64 p.1.bt),.sl (p.1.bc.map nrow),.sl (p.1.bd.map brow),.sl (p.1.d.map brow),.v (.int .i64 p.1.vol),.v (.int .i64 p.1.chk),.v (.int .i64 p.1.mark),.v (.int .i64 p.1.floor)])]) (by (repeat' (exact cl_fin))) ?_ ?_
 ·skip
  simp only [zX]
  refine aR 688 ?_
  refine aR 752 ?_
  refine aw_cond _ rfl trivial (fun ht=>?_) (fun hf=>?_)
  ·skip
   try simp at ht
   simp only [zX]
   have hk0:=ht
   refine aw_cond _ rfl trivial (fun ht=>?_) (fun hf=>by simp [hk0] at hf)
   refine aD 816 ?_
   refine ⟨⟨⟨m.kind,m.grp,m.frm,m.to,m.term,m.idx,m.lterm,0,false,[],0,0,[],[],[],0,0,0,0⟩,by unfold onlyM hasL;simp [hk0,setF,baseM],by omega,by omega,.inl (by omega)⟩,?_⟩
   simp only [keepS,keepE,Option.getD_some,lk_cons,lkE_cons,List.cons_append,List.nil_append,simprocAttr]
   refine Le.lit [] [] _ _ ?_ ?_ ?_ ?_
   ·simp only [zL,simprocAttr]
   ·simp only [zL,simprocAttr]
   ·simp [rlook]
   ·(simp;done)
  try simp at hf
  refine aR 1040 ?_
  refine aw_cond _ rfl trivial (fun ht=>?_) (fun hf=>?_)
  ·skip
   try simp at ht
   have hk0:=ht
   refine aD 1104 ?_
   refine ⟨⟨⟨m.kind,m.grp,m.frm,m.to,m.term,m.idx,m.lterm,0,false,[],0,0,[],[],[],0,0,0,0⟩,by unfold onlyM hasL;simp [hk0,setF,baseM],by omega,by omega,.inl (by omega)⟩,?_⟩
   simp only [keepS,keepE,Option.getD_some,lk_cons,lkE_cons,List.cons_append,List.nil_append,simprocAttr]
   refine Le.lit [] [] _ _ ?_ ?_ ?_ ?_
   ·simp only [zL,simprocAttr]
   ·simp only [zL,simprocAttr]
   ·simp [rlook]
   ·(simp;done)
  try simp at hf
  simp only [zX]
  refine aR 1328 ?_
  refine aw_cond _ rfl trivial (fun ht=>?_) (fun hf=>?_)
  ·skip
   try simp at ht
   simp only [zX]
   have hk0:=ht
   refine aw_cond _ rfl trivial (fun ht=>?_) (fun hf=>by simp [hk0] at hf)
   refine aD 1392 ?_
   refine ⟨⟨⟨m.kind,m.grp,m.frm,m.to,m.term,0,0,0,m.ok,[],0,0,[],[],[],0,0,0,0⟩,by unfold onlyM hasL;simp [hk0,setF,baseM],by omega,by omega,.inl (by omega)⟩,?_⟩
   simp only [keepS,keepE,Option.getD_some,lk_cons,lkE_cons,List.cons_append,List.nil_append,simprocAttr]
   refine Le.lit [] [] _ _ ?_ ?_ ?_ ?_
   ·simp only [zL,simprocAttr]
   ·simp only [zL,simprocAttr]
   ·simp [rlook]
   ·(simp;done)
  try simp at hf
  refine aR 1552 ?_
  refine aw_cond _ rfl trivial (fun ht=>?_) (fun hf=>?_)
  ·skip
   try simp at ht
   have hk0:=ht
   refine aD 1616 ?_
   refine ⟨⟨⟨m.kind,m.grp,m.frm,m.to,m.term,0,0,0,m.ok,[],0,0,[],[],[],0,0,0,0⟩,by unfold onlyM hasL;simp [hk0,setF,baseM],by omega,by omega,.inl (by omega)⟩,?_⟩
   simp only [keepS,keepE,Option.getD_some,lk_cons,lkE_cons,List.cons_append,List.nil_append,simprocAttr]
   refine Le.lit [] [] _ _ ?_ ?_ ?_ ?_
   ·simp only [zL,simprocAttr]
   ·simp only [zL,simprocAttr]
   ·simp [rlook]
   ·(simp;done)
  try simp at hf
  simp only [zX]
  refine aR 1776 ?_
  refine aw_cond _ rfl trivial (fun ht=>?_) (fun hf=>?_)
  ·skip
   try simp at ht
   have hk0:=ht
   refine aD 1840 ?_
   refine ⟨⟨⟨m.kind,m.grp,m.frm,m.to,m.term,m.idx,m.lterm,m.com,false,m.es,0,0,[],[],[],0,0,0,0⟩,by unfold onlyM hasL;simp [hk0,setF,baseM],by omega,by omega,.inl (by omega)⟩,?_⟩
   simp only [keepS,keepE,Option.getD_some,lk_cons,lkE_cons,List.cons_append,List.nil_append,simprocAttr]
   refine Le.lit [] [] _ _ ?_ ?_ ?_ ?_
   ·simp only [zL,simprocAttr]
   ·simp only [zL,simprocAttr]
   ·simp [rlook]
   ·(simp;done)
  try simp at hf
  simp only [zX]
  refine aR 2192 ?_
  refine aw_cond _ rfl trivial (fun ht=>?_) (fun hf=>?_)
  ·skip
   try simp at ht
   have hk0:=ht
   refine aD 2256 ?_
   refine ⟨⟨⟨m.kind,m.grp,m.frm,m.to,m.term,m.idx,0,0,m.ok,[],0,0,[],[],[],0,0,0,0⟩,by unfold onlyM hasL;simp [hk0,setF,baseM],by omega,by omega,.inl (by omega)⟩,?_⟩
   simp only [keepS,keepE,Option.getD_some,lk_cons,lkE_cons,List.cons_append,List.nil_append,simprocAttr]
   refine Le.lit [] [] _ _ ?_ ?_ ?_ ?_
   ·simp only [zL,simprocAttr]
   ·simp only [zL,simprocAttr]
   ·simp [rlook]
   ·(simp;done)
  try simp at hf
  simp only [zX]
  refine aR 2480 ?_
  refine aw_cond _ rfl trivial (fun ht=>?_) (fun hf=>?_)
  ·skip
   try simp at ht
   simp only [zX]
   have ht7:=ht
   refine aD 2544 ?_
   refine aB 2704 ?_
   refine rC [] (cB) ?_
   refine aE ?_
   refine aw_cond _ rfl trivial (fun ht=>?_) (fun hf=>?_)
   ·skip
    try simp at ht
    simp only [zX]
    rw [not_right (m:=m) (fun F=>by
     rcases F.base with h1 | h1
     ·exact h1 ‹m.kind = 7›
     ·rw [ht] at h1;cases h1)]
    refine aR 2800 ?_
    exact Fin.scalar (.inr rfl) rfl trivial rfl trivial
   try simp at hf
   simp only [zX]
   refine ⟨⟨⟨m.kind,m.grp,m.frm,m.to,m.term,0,0,0,false,[],m.bi,m.bt,m.bc,m.bd,[],0,0,0,0⟩,by unfold onlyM hasL;simp [ht7,setF,baseM],by omega,by omega,.inr hf⟩,?_⟩
   simp only [keepS,keepE,Option.getD_some,lk_cons,lkE_cons,List.cons_append,List.nil_append,simprocAttr]
   refine Le.lit [] [] _ _ ?_ ?_ ?_ ?_
   ·simp only [zL,simprocAttr]
   ·simp only [zL,simprocAttr]
   ·simp [rlook]
   ·(simp;done)
  try simp at hf
  simp only [zX]
  refine aR 2848 ?_
  refine aw_cond _ rfl trivial (fun ht=>?_) (fun hf=>?_)
  ·skip
   try simp at ht
   have hk0:=ht
   refine aR 2912 ?_
   refine ⟨⟨⟨m.kind,m.grp,m.frm,m.to,0,0,0,0,false,[],0,0,[],[],m.d,0,0,0,0⟩,by unfold onlyM hasL;simp [hk0,setF,baseM],by omega,by omega,.inl (by omega)⟩,?_⟩
   simp only [keepS,keepE,Option.getD_some,lk_cons,lkE_cons,List.cons_append,List.nil_append,simprocAttr]
   refine Le.lit [] [] _ _ ?_ ?_ ?_ ?_
   ·simp only [zL,simprocAttr]
   ·simp only [zL,simprocAttr]
   ·simp [rlook]
   ·(simp;done)
  try simp at hf
  simp only [zX]
  refine aR 3008 ?_
  refine aw_cond _ rfl trivial (fun ht=>?_) (fun hf=>?_)
  ·skip
   try simp at ht
   have hk0:=ht
   refine aD 3072 ?_
   refine ⟨⟨⟨m.kind,m.grp,m.frm,m.to,0,0,0,0,false,[],0,0,[],[],[],m.vol,m.chk,m.mark,m.floor⟩,by unfold onlyM hasL;simp [hk0,setF,baseM],by omega,by omega,.inl (by omega)⟩,?_⟩
   simp only [keepS,keepE,Option.getD_some,lk_cons,lkE_cons,List.cons_append,List.nil_append,simprocAttr]
   refine Le.lit [] [] _ _ ?_ ?_ ?_ ?_
   ·simp only [zL,simprocAttr]
   ·simp only [zL,simprocAttr]
   ·simp [rlook]
   ·(simp;done)
  try simp at hf
  simp only [zX]
  rw [not_right (m:=m) (fun F=>by have:=F.k1;have:=F.k9;omega)]
  refine aR 3360 ?_
  exact Fin.scalar (.inr rfl) rfl trivial rfl trivial
 rintro ⟨q,hq,hk1,hk9,hkb⟩
 simp only [keepS,keepE,Option.getD_some,lk_cons,lkE_cons,List.cons_append,List.nil_append,simprocAttr]
 simp only [zX]
 have hqk : Mok q:=by rw [hq];exact onlyM_ok hm
 have cS:=MsgSame_con m q hm hqk
 have cT1:=mementoref6_time_con m.term
 have cT2:=mementoref6_time_con m.idx
 have cT3:=mementoref6_time_con m.lterm
 have cT4:=mementoref6_time_con m.com
 have cT5:=mementoref6_time_con m.mark
 have cT6:=mementoref6_time_con m.floor
 refine aB 3408 ?_
 refine rC [] (cS) ?_
 refine aM ?_
 refine rG _ _ (cT1) ?_
 refine aMs (fun Q hQ=>by simp (disch:=intros;contradiction) only [zS,simprocAttr];repeat refine ⟨by ((simp;done)),?_⟩;exact hQ) ?_
 refine rG _ _ (cT2) ?_
 refine aMs (fun Q hQ=>by simp (disch:=intros;contradiction) only [zS,simprocAttr];repeat refine ⟨by ((simp;done)),?_⟩;exact hQ) ?_
 refine rG _ _ (cT3) ?_
 refine aMs (fun Q hQ=>by simp (disch:=intros;contradiction) only [zS,simprocAttr];repeat refine ⟨by ((simp;done)),?_⟩;exact hQ) ?_
 refine rG _ _ (cT4) ?_
 refine aMs (fun Q hQ=>by simp (disch:=intros;contradiction) only [zS,simprocAttr];repeat refine ⟨by ((simp;done)),?_⟩;exact hQ) ?_
 refine rG _ _ (cT5) ?_
 refine aMs (fun Q hQ=>by simp (disch:=intros;contradiction) only [zS,simprocAttr];repeat refine ⟨by ((simp;done)),?_⟩;exact hQ) ?_
 refine rG _ _ (cT6) ?_
 refine RG.go fun Q hQ=>?_
 simp (disch:=intros;contradiction) only [zS,zW,simprocAttr]
 repeat refine ⟨by ((simp;done)),?_⟩
 refine hQ (RG.nil ?_)
 simp only [zX]
 refine aw_cond _ rfl trivial (fun ht=>?_) (fun hf=>?_)
 ·skip
  try simp at ht
  simp only [zX]
  rw [not_right (m:=m) (fun F=>by
   have h1:=F.only;have h2:=F.term;have h3:=F.idx;have h4:=F.lterm;have h5:=F.com;have h6:=F.mark;have h7:=F.floor;have h8:=F.es4;have h9:=F.d;have h10:=F.v0;have h11:=F.v7;have h12:=F.c0;have h13:=F.c255
   rw [hq,← h1] at ht
   simp [timeS] at ht
   omega)]
  refine aR 4592 ?_
  exact Fin.scalar (.inr rfl) rfl trivial rfl trivial
 try simp at hf
 simp only [zX]
 simp only [and_assoc] at hf
 obtain ⟨e1,e2,e3,e4,e5,e6,e7,e8,e9,e10,e11,e12,e13⟩:=hf
 have hts : ∀ {n : Int},timeS n = true→0≤n∧n≤1099511627776:=fun h=>by unfold timeS at h;simpa using h
 have hl5 : m.es.length≤4:=by omega
 have hR : (∀ j,j < m.es.length→entP m.es j)→rightM m = true:=fun h=>rightM_of ⟨hk1,hk9,e1.trans hq,hgf.1,hgf.2.1,hgf.2.2.1,hgf.2.2.2.1,hgf.2.2.2.2.1,hgf.2.2.2.2.2,hts e2,hts e3,hts e4,hts e5,hts e6,hts e7,(by unfold entsR;exact decide_eq_true h),hl5,hkb,by omega,e10,by omega,e12,by omega⟩
 refine aR 4640 ?_
 refine aw_loopK (X:={ i : Nat // i≤m.es.length∧∀ j,j < i→entP m.es j }) [1] (fun i=>[(4,I i.1)]) [16] (fun i=>[]) (fun i=>m.es.length - i.1) (⟨0,by omega,by omega⟩) ?_ ?_
 ·skip
  simp only [keepS,keepE,Option.getD_some,lk_cons,lkE_cons,List.cons_append,List.nil_append,simprocAttr]
  refine Le.lit [] [] _ _ ?_ ?_ ?_ ?_
  ·simp only [zL,simprocAttr]
  ·simp only [zL,simprocAttr]
  ·simp [rlook]
  ·(simp;done)
 rintro ⟨i,hi,ha⟩
 simp only [keepS,keepE,Option.getD_some,lk_cons,lkE_cons,List.cons_append,List.nil_append,simprocAttr]
 simp only [zX]
 refine aS 4688 (fun Q hQ=>by simp (disch:=intros;contradiction) only [zS,zW,simprocAttr];exact hQ) ?_
 refine aw_cond _ rfl trivial (fun ht=>?_) (fun hf=>?_)
 ·skip
  try simp at ht
  simp only [zX]
  have hi' : i < m.es.length:=by omega
  have hno : ¬ entP m.es i→rightM m = false:=by
   intro h
   refine not_right fun F=>?_
   have:=F.es
   unfold entsR at this
   exact h (of_decide_eq_true this i hi')
  obtain ⟨w,hw⟩ : ∃ w,m.es[i] = w:=⟨_,rfl⟩
  have cR:=mementoref6_EntryRight_con w.i w.t w.k w.d
  have hnext : entP m.es i→∀ j,j < i + 1→entP m.es j:=fun h j hj=>by
   rcases Nat.lt_succ_iff_lt_or_eq.1 hj with h1 | rfl
   ·exact ha j h1
   ·exact h
  by_cases h0 : i = 0
  ·skip
   subst h0
   refine aBDs 4800 (fun Q hQ=>by simp (disch:=first | (intros;contradiction) | omega | (simp only [zN];omega)) only [zS,zW,erow,hw,simprocAttr];repeat refine ⟨by (omega),?_⟩;exact hQ) ?_
   refine rC [] (cR) ?_
   refine RG.go fun Q hQ=>?_
   simp (disch:=first | (intros;contradiction) | omega | (simp only [zN];omega)) only [zS,zW,erow,hw,simprocAttr]
   repeat refine ⟨by ((simp;done)),?_⟩
   refine hQ (RG.nil ⟨by decide +kernel,?_⟩)
   simp only [zX]
   refine aw_cond _ rfl trivial (fun ht=>?_) (fun hf=>?_)
   ·skip
    try simp at ht
    simp only [zX]
    rw [hno (fun h=>by have:=(h hi').1;rw [hw] at this;simp [this] at ht)]
    refine aR 5280 ?_
    exact Fin.scalar (.inr rfl) rfl trivial rfl trivial
   try simp at hf
   simp only [zX]
   refine aS 5328 (fun Q hQ=>by simp (disch:=first | (intros;contradiction) | omega | (simp only [zN];omega)) only [zS,zW,simprocAttr];exact hQ) ?_
   refine ⟨⟨1,by omega,hnext fun _=>⟨by rw [hw];simpa using hf,by omega⟩⟩,?_,by first | omega | (simp only;omega)⟩
   refine Le.lit [] [] _ _ ?_ ?_ ?_ ?_
   ·simp only [zL,simprocAttr]
   ·simp only [zL,↓reduceIte]
   ·simp [rlook]
   ·(simp;done)
  have hd0 : decide ((i : Int) > 0) = true:=by simp;omega
  have hi1 : i - 1 < m.es.length:=by omega
  have hii : (i : Int) - 1 = ((i - 1 : Nat) : Int):=by omega
  have hP:=(ha (i - 1) (by omega) hi1).1
  obtain ⟨u,hu⟩ : ∃ u,m.es[i - 1] = u:=⟨_,rfl⟩
  rw [hu] at hP
  obtain ⟨p1,p2,p3,p4,p5,p6,p7⟩:=entryRight_facts hP
  have hwr : IntKind.i64.wrap (u.i + 1) = u.i + 1:=w64 _ (by omega) (by omega)
  cases hr : entryRight w.i w.t w.k w.d
  ·skip
   rw [hr] at cR
   refine aBDs 5408 (fun Q hQ=>by simp (disch:=first | (intros;contradiction) | omega | (simp only [zN];omega)) only [zS,zW,erow,hw,simprocAttr];repeat refine ⟨by (omega),?_⟩;exact hQ) ?_
   refine rC [] (cR) ?_
   refine aEDs (fun Q hQ=>by simp (disch:=first | (intros;contradiction) | omega | (simp only [zN];omega)) only [zS,zW,erow,hw,hd0,hii,hu,hwr,simprocAttr];exact hQ) ?_
   refine aT ?_
   rw [hno (fun h=>by have:=(h hi').1;rw [hw] at this;simp [this] at hr)]
   refine aR 5888 ?_
   exact Fin.scalar (.inr rfl) rfl trivial rfl trivial
  rw [hr] at cR
  refine aBDs 5936 (fun Q hQ=>by simp (disch:=first | (intros;contradiction) | omega | (simp only [zN];omega)) only [zS,zW,erow,hw,simprocAttr];repeat refine ⟨by (omega),?_⟩;exact hQ) ?_
  refine rC [] (cR) ?_
  refine RG.go fun Q hQ=>?_
  simp (disch:=first | (intros;contradiction) | omega | (simp only [zN];omega)) only [zS,zW,erow,hw,hd0,hii,hu,hwr,simprocAttr]
  repeat refine ⟨by (omega),?_⟩
  refine hQ (RG.nil ⟨by decide +kernel,?_⟩)
  simp only [zX]
  refine aw_cond _ rfl trivial (fun ht=>?_) (fun hf=>?_)
  ·skip
   try simp at ht
   simp only [zX]
   rw [hno (fun h=>by have:=(h hi').2 (by omega);rw [hw,hu] at this;exact absurd this (by simpa using ht))]
   refine aR 6416 ?_
   exact Fin.scalar (.inr rfl) rfl trivial rfl trivial
  try simp at hf
  simp only [zX]
  refine aS 6464 (fun Q hQ=>by simp (disch:=first | (intros;contradiction) | omega | (simp only [zN];omega)) only [zS,zW,simprocAttr];exact hQ) ?_
  refine ⟨⟨i + 1,by omega,hnext fun _=>⟨by rw [hw];exact hr,fun _=>by rw [hw,hu];simpa using hf⟩⟩,?_,by first | omega | (simp only;omega)⟩
  refine Le.lit [] [] _ _ ?_ ?_ ?_ ?_
  ·simp only [zL,simprocAttr]
   all_goals (try ((repeat' (rfl))))
  ·simp only [zL,↓reduceIte]
  ·simp [rlook]
  ·(simp;done)
 try simp at hf
 simp only [zX,↓reduceIte]
 obtain rfl : i = m.es.length:=by omega
 rw [hR ha]
 refine aR 6544 ?_
 exact Fin.scalar (.inr rfl) rfl trivial rfl trivial

end Go.Abs

namespace Go.Abs
open Go Go.Proofs
set_option maxRecDepth 100000
set_option linter.unusedSimpArgs false
set_option maxHeartbeats 8000000

theorem RG.callro {P : Program} {fr : Nat} {f : FuncId} {axs : List AX} {d : Option Nat} {af : List Nat} {ops : List AO} {l : SL} {es : EL} {ks : KL} {K : SL→EL→KL→Prop} {args : List SV} {objs : List Ent} {res : SV} {out : List Ent} (ids : List Nat) (hcon : Con P f args objs res out) (hc : CallO es fr (axs.map (ev (lk .dead l))) ids [] args objs res out)
  (hlen : out.length = ids.length) (hs : allL (fun p : Nat × Ent=>lkE es p.1 = some (renEnt ids fr p.2)) (ids.zip out))
  (h : RG P (fr + 16) ops (setD d (renSV ids fr res) l) es ((ids,[]) :: ks) K) : RG P fr (⟨.call f axs,d,none,af⟩ :: ops) l es ks K:=by
 have hall : ∀ (z : List (Nat × Ent)),allL (fun p : Nat × Ent=>lkE es p.1 = some (renEnt ids fr p.2)) z→∀ p ∈ z,lkE es p.1 = some (renEnt ids fr p.2):=by
  intro z
  induction z with
  | nil=>intro _ p hp;cases hp
  | cons a z ih =>
   intro hz p hp
   rcases List.mem_cons.1 hp with rfl | hp
   ·exact hz.1
   ·exact ih hz.2 p hp
 have hU : SubU (lkE es) [] (backUps (lkE es) ids [] fr out):=⟨fun p hp=>(by cases hp),fun p hp=>by
  refine .inr ?_
  unfold backUps at hp
  rw [List.drop_eq_nil_of_le (by omega)] at hp
  simp only [List.zipIdx_nil,List.map_nil,List.append_nil,List.filterMap_nil,List.mem_map] at hp
  obtain ⟨q,hq,rfl⟩:=hp
  exact hall _ hs q hq⟩
 have hr0 : ids ++ [] ++ (List.range (out.length - ids.length)).map (fr + ·) = ids:=by rw [hlen];simp
 have:=RG.step (P:=P) (K:=K) (fr:=fr) (o:=⟨.call f axs,d,none,af⟩) (ops:=ops) (l:=l) (es:=es) (ks:=ks) ⟨renSV ids fr res,[],ids ++ [] ++ (List.range (out.length - ids.length)).map (fr + ·)⟩
  (show CallOk P f _ _ _ _ from .inr ⟨args,objs,res,out,ids,[],_,hcon,hc.ht,fun k id hk=>by
   obtain ⟨e',h1,e,h2,h3⟩:=hc.hi.get k id hk
   exact ⟨e,e',h2,h1,h3⟩,hc.hi.len,hc.hnd,hc.hdis,hc.hv.all,hc.hf,hc.hp,hc.hr,hc.h16,hU,rfl⟩)
 rw [hr0] at this
 exact this h
theorem drows_msgC (l : List MG) : isDRows (l.map msgC):=by
 intro r hr c hc
 obtain ⟨m,_,rfl⟩:=List.mem_map.1 hr
 simp only [msgC,List.mem_cons,List.not_mem_nil,or_false] at hc
 rcases hc with rfl | rfl | rfl | rfl | rfl | rfl | rfl | rfl | rfl | rfl | rfl | rfl | rfl | rfl | rfl | rfl | rfl | rfl | rfl <;> rfl
theorem Log_Last_con (cs : List Int) : Con Tryz.prog 57 [.c (.bp 0 0)] [.box [.v (.int .i64 0),.v (.int .i64 0),.sl (cs.map nrow),.v (.slice none 0 0),.v (.slice none 0 0)]] (I 0) [.box [.v (.int .i64 0),.v (.int .i64 0),.sl (cs.map nrow),.v (.slice none 0 0),.v (.slice none 0 0)]]:=by
 refine C_mementoref6_Log_Last nl nl ?_
 simp only [cz,A_mementoref6_Log_Last,argL,objL,List.length_nil,List.length_cons,Nat.zero_add,zX]
 refine aR 16 ?_
 refine aSD 64 (fun Q hQ=>by simp (disch:=first | (intros;contradiction) | omega | (simp only [zN];omega)) only [zS,zW,simprocAttr];exact hQ) ?_
 refine Fin.objs [] [] (.inr rfl) rfl (by exact trivial) ?_ ?_ (by simp [objL,rlook]) (by (simp [objL,rlook];done))
 ·simp only [zL,simprocAttr]
 ·simp only [zL,↓reduceIte]

theorem Log_Term_con (cs : List Int) : Con Tryz.prog 58 [.c (.bp 0 0),I 0] [.box [.v (.int .i64 0),.v (.int .i64 0),.sl (cs.map nrow),.v (.slice none 0 0),.v (.slice none 0 0)]] (I 0) [.box [.v (.int .i64 0),.v (.int .i64 0),.sl (cs.map nrow),.v (.slice none 0 0),.v (.slice none 0 0)]]:=by
 refine C_mementoref6_Log_Term nl nl ?_
 simp only [cz,A_mementoref6_Log_Term,argL,objL,List.length_nil,List.length_cons,Nat.zero_add,zX]
 refine aR 16 ?_
 refine aR 64 ?_
 refine aT ?_
 refine aw_reg 208 (RG.go fun Q hQ=>?_)
 simp (disch:=intros;contradiction) only [zS,simprocAttr]
 refine hQ (RG.nil ?_)
 simp only [zX]
 refine Fin.objs [] [] (.inr rfl) rfl (by exact trivial) ?_ ?_ (by simp [objL,rlook]) (by (simp [objL,rlook];done))
 ·simp only [zL,simprocAttr]
 ·simp only [zL,↓reduceIte]

theorem Log_Conf_con (cs : List Int) (hb : cs.length≤12) : Con Tryz.prog 123 [.c (.bp 0 0),I 0] [.box [.v (.int .i64 0),.v (.int .i64 0),.sl (cs.map nrow),.v (.slice none 0 0),.v (.slice none 0 0)]] (.c (.sl (cs.map nrow))) [.box [.v (.int .i64 0),.v (.int .i64 0),.sl (cs.map nrow),.v (.slice none 0 0),.v (.slice none 0 0)]]:=by
 refine C_mementoref6_Log_Conf nl nl ?_
 simp only [cz,A_mementoref6_Log_Conf,argL,objL,List.length_nil,List.length_cons,Nat.zero_add,zX]
 refine aR 16 ?_
 refine aS 64 (fun Q hQ=>by simp (disch:=intros;contradiction) only [zS,zW,simprocAttr];repeat refine ⟨by (exact ⟨by (intro q hq;obtain ⟨_,_,rfl⟩:=List.mem_map.1 hq;rfl),by omega⟩),?_⟩;exact hQ) ?_
 refine aR 208 ?_
 refine aw_loopK (X:=Unit) [0,1] (fun i=>[(5,.c (.osl 5000)),(6,I 0)]) [0] (fun i=>[(5000,.arr 3 1 (cs.map nrow) false)]) (fun i=>0) (()) ?_ ?_
 ·skip
  simp only [keepS,keepE,Option.getD_some,lk_cons,lkE_cons,List.cons_append,List.nil_append,simprocAttr]
  refine Le.lit [] [(5000,144)] _ _ ?_ ?_ ?_ ?_
  ·simp only [zL,simprocAttr]
  ·simp only [zL,simprocAttr]
   all_goals (try (exact drows_nrow _))
  ·simp [rlook]
  ·(intro k hk;simp [rlook];omega)
 rintro ⟨⟩
 simp only [keepS,keepE,Option.getD_some,lk_cons,lkE_cons,List.cons_append,List.nil_append,simprocAttr]
 simp only [zX]
 refine aw_reg 256 (RG.go fun Q hQ=>?_)
 simp (disch:=intros;contradiction) only [zS,simprocAttr]
 repeat refine ⟨by ((simp;done)),?_⟩
 refine hQ (RG.nil ?_)
 simp only [zX]
 refine aw_cond _ rfl trivial (fun ht=>by cases ht) (fun hf=>?_)
 simp only [zX,↓reduceIte]
 refine aR 592 ?_
 refine Fin.objs [5000] [] (.inr rfl) rfl (by exact trivial) ?_ ?_ (by simp [objL,rlook]) (by (simp [objL,rlook];done))
 ·simp only [zL,simprocAttr]
  all_goals ((repeat' ((refine ⟨⟨_,_,rfl⟩,?_⟩;(exact drows_nrow _)))))
 ·simp only [zL,simprocAttr]

theorem Timeout_con (n : Int) (h : n = 0∨n = 1∨n = 2) : ∃ k,Con Tryz.prog 101 [I n,I 0] [] (I k) []:=by
 rcases h with rfl | rfl | rfl
 ·refine ⟨10,?_⟩
  refine C_mementoref6_Timeout nl nl ?_
  simp only [cz,A_mementoref6_Timeout,argL,objL,List.length_nil,Nat.zero_add,zX]
  refine aR 16 ?_
  refine aw_reg 64 (RG.go fun Q hQ=>?_)
  simp (disch:=first | (intros;contradiction) | omega | (simp only [zN];omega)) only [zS,zW,simprocAttr]
  repeat refine ⟨by (omega),?_⟩
  refine hQ (RG.nil ?_)
  simp only [zX]
  refine Fin.i (.inr rfl) rfl trivial ?_
  rfl

 ·refine ⟨17,?_⟩
  refine C_mementoref6_Timeout nl nl ?_
  simp only [cz,A_mementoref6_Timeout,argL,objL,List.length_nil,Nat.zero_add,zX]
  refine aR 16 ?_
  refine aw_reg 64 (RG.go fun Q hQ=>?_)
  simp (disch:=first | (intros;contradiction) | omega | (simp only [zN];omega)) only [zS,zW,simprocAttr]
  repeat refine ⟨by (omega),?_⟩
  refine hQ (RG.nil ?_)
  simp only [zX]
  refine Fin.i (.inr rfl) rfl trivial ?_
  rfl

 ·refine ⟨14,?_⟩
  refine C_mementoref6_Timeout nl nl ?_
  simp only [cz,A_mementoref6_Timeout,argL,objL,List.length_nil,Nat.zero_add,zX]
  refine aR 16 ?_
  refine aw_reg 64 (RG.go fun Q hQ=>?_)
  simp (disch:=first | (intros;contradiction) | omega | (simp only [zN];omega)) only [zS,zW,simprocAttr]
  repeat refine ⟨by (omega),?_⟩
  refine hQ (RG.nil ?_)
  simp only [zX]
  refine Fin.i (.inr rfl) rfl trivial ?_
  rfl

theorem Without_con (l : List Int) (n : Int) (hb : l.length≤12) : Con Tryz.prog 138 [.c (.sl (l.map nrow)),I n] [] (.c (.osl 0)) [.arr 3 1 ((ofS (l.filter (·≠n))).map nrow) false]:=by
 refine C_mementoref6_Without nl nl ?_
 simp only [cz,A_mementoref6_Without,argL,objL,List.length_nil,Nat.zero_add,zX]
 refine aR 16 ?_
 refine aR 64 ?_
 refine aR 112 ?_
 refine aw_loopK (X:={ i : Nat // i≤l.length }) [0,1] (fun i=>[(5,.c (.osl 5000)),(6,I i.1)]) [] (fun i=>[(5000,.arr 3 1 (((l.take i.1).filter (·≠n)).map nrow) false)]) (fun i=>l.length - i.1) (⟨0,by omega⟩) ?_ ?_
 ·skip
  simp only [keepS,keepE,lk_cons,List.cons_append,List.nil_append,simprocAttr]
  refine (Le.own 5 5000 3 1 rfl rfl (by decide)).trans ?_
  simp only [setS_cons,setE_nil,simprocAttr]
  refine Le.lit [] [] _ _ ?_ ?_ ?_ ?_
  ·simp only [zL,simprocAttr]
  ·simp only [zL,simprocAttr]
   all_goals (try ((repeat' (((simp [C.isD];done))))))
  ·simp [rlook]
  ·(simp;done)
 rintro ⟨i,hi⟩
 simp only [keepS,keepE,lk_cons,List.cons_append,List.nil_append,simprocAttr]
 simp only [zX]
 refine aS 160 (fun Q hQ=>by simp (disch:=intros;contradiction) only [zS,zW,simprocAttr];exact hQ) ?_
 refine aw_cond _ rfl trivial (fun ht=>?_) (fun hf=>?_)
 ·skip
  try simp at ht
  simp only [zX]
  have hi' : i < l.length:=by omega
  obtain ⟨x,hx⟩ : ∃ x,l[i] = x:=⟨_,rfl⟩
  have hfl : (l.take i).length≤12:=by simp;omega
  have hfl2:=List.length_filter_le (fun z=>decide (z≠n)) (l.take i)
  refine aS 256 (fun Q hQ=>by simp (disch:=first | (intros;contradiction) | omega | (simp only [zN];omega)) only [zS,zW,hx,nrow,simprocAttr];repeat refine ⟨by (omega),?_⟩;exact hQ) ?_
  refine aw_cond _ rfl trivial (fun ht=>?_) (fun hf=>?_)
  ·skip
   try simp at ht
   have hs : (l.take (i + 1)).filter (·≠n) = (l.take i).filter (·≠n) ++ [x]:=by
    rw [take_one _ _ hi',List.filter_append,hx];simp [ht]
   have hr : ((l.take i).filter (fun x=>decide (x≠n))).map nrow ++ [[.v (.int .i64 x)]] = ((l.take (i + 1)).filter (fun x=>decide (x≠n))).map nrow:=by rw [hs,List.map_append];rfl
   refine aw_reg 384 (RG.go fun Q hQ=>?_)
   simp (disch:=first | (intros;contradiction) | omega | (simp only [zN];omega)) only [zS,zW,hx,nrow,hr,simprocAttr]
   repeat refine ⟨by (first | omega | (refine ⟨?_,?_⟩ <;> (repeat' (first | omega | (simp;done))))),?_⟩
   refine hQ (RG.nil ?_)
   simp only [zX]
   refine aS 544 (fun Q hQ=>by simp (disch:=first | (intros;contradiction) | omega | (simp only [zN];omega)) only [zS,zW,simprocAttr];exact hQ) ?_
   refine ⟨⟨i + 1,hi'⟩,?_,by first | omega | (simp only;omega)⟩
   refine Le.lit [] [(5000,480)] _ _ ?_ ?_ ?_ ?_
   ·simp only [zL,simprocAttr]
    all_goals (try ((repeat' (rfl))))
   ·simp only [zL,simprocAttr]
    all_goals (try (exact drows_nrow _))
   ·simp [rlook]
   ·(simp;done)
  try simp at hf
  simp only [zX]
  have hs : (l.take (i + 1)).filter (·≠n) = (l.take i).filter (·≠n):=by
   rw [take_one _ _ hi',List.filter_append,hx];simp [hf]
  refine aS 624 (fun Q hQ=>by simp (disch:=first | (intros;contradiction) | omega | (simp only [zN];omega)) only [zS,zW,simprocAttr];exact hQ) ?_
  refine ⟨⟨i + 1,hi'⟩,?_,by first | omega | (simp only;omega)⟩
  refine Le.lit [] [] _ _ ?_ ?_ ?_ ?_
  ·simp only [zL,simprocAttr]
   all_goals (try ((repeat' (rfl))))
  ·simp only [zL,simprocAttr]
   all_goals ((try rw [hs]);(repeat' (first | (first | exact drows_nrow _ | (simp [C.isD];done)) | refine ⟨?_,?_⟩)))
  ·simp [rlook]
  ·(simp;done)
 try simp at hf
 simp only [zX,↓reduceIte]
 obtain rfl : i = l.length:=by omega
 rw [List.take_length]
 have hfl2:=List.length_filter_le (fun z=>decide (z≠n)) l
 refine aB 704 ?_
 refine rO [] [5000] (mementoref6_Of_con (l.filter (fun x=>decide (x≠n))) (by omega)) ?_
 refine aE ?_
 refine Fin.objs [] [(0,720)] (.inr rfl) rfl (by exact trivial) ?_ ?_ (by simp [objL,rlook]) (by (simp [objL,rlook];done))
 ·simp only [zL,simprocAttr]
 ·simp only [zL,simprocAttr]
  all_goals (try (exact drows_nrow _))

theorem Most_con (l yes : List Int) (hb : l.length≤12) (hy : yes.length≤12) : Con Tryz.prog 128 [.c (.sl (l.map nrow)),.c (.sl (yes.map nrow))] [] (B (decide (2 * ((ofS l).countP (· ∈ yes)) > (ofS l).length))) []:=by
 refine C_mementoref6_Most nl nl ?_
 simp only [cz,A_mementoref6_Most,argL,objL,List.length_nil,Nat.zero_add,zX]
 refine aR 16 ?_
 have hol:=ofS_len l
 refine aB 64 ?_
 refine rO [] [] ((mementoref6_Of_con l (by omega)).rows (drows_nrow _)) ?_
 refine aE ?_
 refine aR 144 ?_
 refine aR 192 ?_
 refine aw_loopK (X:={ i : Nat // i≤(ofS l).length }) [1,5] (fun i=>[(6,I (((ofS l).take i.1).countP (· ∈ yes))),(7,I i.1)]) [] (fun i=>[]) (fun i=>(ofS l).length - i.1) (⟨0,by omega⟩) ?_ ?_
 ·skip
  simp only [keepS,keepE,lk_cons,List.cons_append,List.nil_append,simprocAttr]
  refine Le.lit [] [] _ _ ?_ ?_ ?_ ?_
  ·simp only [zL,simprocAttr]
   all_goals (try ((repeat' (rfl))))
  ·simp only [zL,simprocAttr]
  ·simp [rlook]
  ·(simp;done)
 rintro ⟨i,hi⟩
 simp only [keepS,keepE,lk_cons,List.cons_append,List.nil_append,simprocAttr]
 simp only [zX]
 have hcl : ((ofS l).take i).countP (fun x=>decide (x ∈ yes))≤i:=by
  have:=List.countP_le_length (p:=fun x=>decide (x ∈ yes)) (l:=(ofS l).take i)
  simp only [List.length_take] at this
  omega
 refine aS 240 (fun Q hQ=>by simp (disch:=intros;contradiction) only [zS,zW,simprocAttr];exact hQ) ?_
 refine aw_cond _ rfl trivial (fun ht=>?_) (fun hf=>?_)
 ·skip
  try simp at ht
  simp only [zX]
  have hi' : i < (ofS l).length:=by omega
  obtain ⟨x,hx⟩ : ∃ x,(ofS l)[i] = x:=⟨_,rfl⟩
  have hs : ((ofS l).take (i + 1)).countP (fun x=>decide (x ∈ yes)) = ((ofS l).take i).countP (fun x=>decide (x ∈ yes)) + (if x ∈ yes then 1 else 0):=by
   rw [take_one _ _ hi',List.countP_append,hx]
   simp [List.countP_cons]
  have cH:=mementoref6_Has_con yes x (by omega)
  refine aBs 336 (fun Q hQ=>by simp (disch:=first | (intros;contradiction) | omega | (simp only [zN];omega)) only [zS,zW,hx,nrow,simprocAttr];repeat refine ⟨by (omega),?_⟩;exact hQ) ?_
  refine rC [] (cH) ?_
  refine aE ?_
  refine aw_cond _ rfl trivial (fun ht=>?_) (fun hf=>?_)
  ·skip
   try simp at ht
   rw [if_pos ht] at hs
   refine aS 464 (fun Q hQ=>by simp (disch:=first | (intros;contradiction) | omega | (simp only [zN];omega)) only [zS,zW,simprocAttr];exact hQ) ?_
   refine aS 544 (fun Q hQ=>by simp (disch:=first | (intros;contradiction) | omega | (simp only [zN];omega)) only [zS,zW,simprocAttr];exact hQ) ?_
   refine ⟨⟨i + 1,hi'⟩,?_,by first | omega | (simp only;omega)⟩
   refine Le.lit [] [] _ _ ?_ ?_ ?_ ?_
   ·simp only [zL,simprocAttr]
    all_goals ((rw [hs];simp;done);skip)
   ·simp only [zL,simprocAttr]
   ·simp [rlook]
   ·(simp;done)
  try simp at hf
  simp only [zX]
  rw [if_neg hf] at hs
  refine aS 624 (fun Q hQ=>by simp (disch:=first | (intros;contradiction) | omega | (simp only [zN];omega)) only [zS,zW,simprocAttr];exact hQ) ?_
  refine ⟨⟨i + 1,hi'⟩,?_,by first | omega | (simp only;omega)⟩
  refine Le.lit [] [] _ _ ?_ ?_ ?_ ?_
  ·simp only [zL,simprocAttr]
   all_goals ((rw [hs];simp;done);skip)
  ·simp only [zL,simprocAttr]
  ·simp [rlook]
  ·(simp;done)
 try simp at hf
 simp only [zX,↓reduceIte]
 obtain rfl : i = (ofS l).length:=by omega
 rw [List.take_length] at hcl ⊢
 have hw2 : IntKind.i64.wrap (2 * (((ofS l).countP (fun x=>decide (x ∈ yes)) : Nat) : Int)) = 2 * (((ofS l).countP (fun x=>decide (x ∈ yes)) : Nat) : Int):=w64 _ (by omega) (by omega)
 refine aS 704 (fun Q hQ=>by simp (disch:=intros;contradiction) only [zS,zW,hw2,simprocAttr];exact hQ) ?_
 refine Fin.b (.inr rfl) rfl trivial ?_
 rw [Bool.eq_iff_iff];simp;omega

theorem Raft_Conf_con (id role lead sil : Int) (ys cs : List Int) (hb : cs.length≤12) : Con Tryz.prog 100 [.c (.bp 0 0)] [.box [.v (.int .i64 id),.v (.int .i64 1),.v (.int .i64 0),.v (.int .i64 (-1)),.bp 1 0,.v (.int .i64 0),.v (.int .i64 0),.v (.int .i64 role),.v (.int .i64 lead),.sl (ys.map nrow),.v (.int .i64 0),.v (.int .i64 0),.v (.int .i64 0),.v (.int .i64 0),.v (.int .i64 0),.v (.int .i64 0),.v (.int .i64 0),.v (.int .i64 0),.v (.int .i64 0),.v (.int .i64 0),.v (.int .i64 0),.v (.int .i64 0),.v (.int .i64 0),.v (.int .i64 0),.v (.int .i64 sil),.v (.int .i64 0),.v (.slice none 0 0),.v (.slice none 0 0),.v (.bool false)],.box [.v (.int .i64 0),.v (.int .i64 0),.sl (cs.map nrow),.v (.slice none 0 0),.v (.slice none 0 0)]] (.c (.sl (cs.map nrow))) [.box [.v (.int .i64 id),.v (.int .i64 1),.v (.int .i64 0),.v (.int .i64 (-1)),.bp 1 0,.v (.int .i64 0),.v (.int .i64 0),.v (.int .i64 role),.v (.int .i64 lead),.sl (ys.map nrow),.v (.int .i64 0),.v (.int .i64 0),.v (.int .i64 0),.v (.int .i64 0),.v (.int .i64 0),.v (.int .i64 0),.v (.int .i64 0),.v (.int .i64 0),.v (.int .i64 0),.v (.int .i64 0),.v (.int .i64 0),.v (.int .i64 0),.v (.int .i64 0),.v (.int .i64 0),.v (.int .i64 sil),.v (.int .i64 0),.v (.slice none 0 0),.v (.slice none 0 0),.v (.bool false)],.box [.v (.int .i64 0),.v (.int .i64 0),.sl (cs.map nrow),.v (.slice none 0 0),.v (.slice none 0 0)]]:=by
 refine C_mementoref12_Raft_Conf nl nl ?_
 simp only [cz,A_mementoref12_Raft_Conf,argL,objL,List.length_nil,List.length_cons,Nat.zero_add,zX,simprocAttr]
 refine aR 16 ?_
 refine aBD 64 ?_
 refine rO [1] [] (Log_Last_con cs) ?_
 refine aM ?_
 refine rO [1] [] (Log_Conf_con cs hb) ?_
 refine aED ?_
 refine Fin.objs [] [] (.inr rfl) rfl (by exact trivial) ?_ ?_ (by simp [objL,rlook]) (by (intro k hk;simp [objL,rlook];omega))
 ·simp only [zL,simprocAttr]
 ·simp only [zL,simprocAttr]

theorem Raft_said_con (id role lead sil : Int) (ys cs : List Int) (ms : List MG) : Con Tryz.prog 99 [.c (.bp 0 0)] [.box [.v (.int .i64 id),.v (.int .i64 1),.v (.int .i64 0),.v (.int .i64 (-1)),.bp 1 0,.v (.int .i64 0),.v (.int .i64 0),.v (.int .i64 role),.v (.int .i64 lead),.sl (ys.map nrow),.v (.int .i64 0),.v (.int .i64 0),.v (.int .i64 0),.v (.int .i64 0),.v (.int .i64 0),.v (.int .i64 0),.v (.int .i64 0),.v (.int .i64 0),.v (.int .i64 0),.v (.int .i64 0),.v (.int .i64 0),.v (.int .i64 0),.v (.int .i64 0),.v (.int .i64 0),.v (.int .i64 sil),.v (.int .i64 0),.sl (ms.map msgC),.v (.slice none 0 0),.v (.bool false)],.box [.v (.int .i64 0),.v (.int .i64 0),.sl (cs.map nrow),.v (.slice none 0 0),.v (.slice none 0 0)]] (.agg [.sl (ms.map msgC),.v (.slice none 0 0),.v (.bool false)]) [.box [.v (.int .i64 id),.v (.int .i64 1),.v (.int .i64 0),.v (.int .i64 (-1)),.bp 1 0,.v (.int .i64 0),.v (.int .i64 0),.v (.int .i64 role),.v (.int .i64 lead),.sl (ys.map nrow),.v (.int .i64 0),.v (.int .i64 0),.v (.int .i64 0),.v (.int .i64 0),.v (.int .i64 0),.v (.int .i64 0),.v (.int .i64 0),.v (.int .i64 0),.v (.int .i64 0),.v (.int .i64 0),.v (.int .i64 0),.v (.int .i64 0),.v (.int .i64 0),.v (.int .i64 0),.v (.int .i64 sil),.v (.int .i64 0),.v (.slice none 0 0),.v (.slice none 0 0),.v (.bool false)],.box [.v (.int .i64 0),.v (.int .i64 0),.sl (cs.map nrow),.v (.slice none 0 0),.v (.slice none 0 0)]]:=by
 refine C_mementoref12_Raft_said nl nl ?_
 simp only [cz,A_mementoref12_Raft_said,argL,objL,List.length_nil,List.length_cons,Nat.zero_add,zX,simprocAttr]
 refine aR 16 ?_
 refine aR 64 ?_
 refine aR 192 ?_
 refine aR 304 ?_
 refine Fin.objs [] [] (.inr rfl) rfl (by exact ⟨trivial,trivial⟩) ?_ ?_ (by simp [objL,rlook]) (by (intro k hk;simp [objL,rlook];omega))
 ·simp only [zL,simprocAttr]
  all_goals ((repeat' (first | exact trivial | rfl | refine ⟨?_,?_⟩)))
 ·simp only [zL,simprocAttr]

theorem Raft_said0_con (id role lead sil : Int) (ys cs : List Int) : Con Tryz.prog 99 [.c (.bp 0 0)] [.box [.v (.int .i64 id),.v (.int .i64 1),.v (.int .i64 0),.v (.int .i64 (-1)),.bp 1 0,.v (.int .i64 0),.v (.int .i64 0),.v (.int .i64 role),.v (.int .i64 lead),.sl (ys.map nrow),.v (.int .i64 0),.v (.int .i64 0),.v (.int .i64 0),.v (.int .i64 0),.v (.int .i64 0),.v (.int .i64 0),.v (.int .i64 0),.v (.int .i64 0),.v (.int .i64 0),.v (.int .i64 0),.v (.int .i64 0),.v (.int .i64 0),.v (.int .i64 0),.v (.int .i64 0),.v (.int .i64 sil),.v (.int .i64 0),.v (.slice none 0 0),.v (.slice none 0 0),.v (.bool false)],.box [.v (.int .i64 0),.v (.int .i64 0),.sl (cs.map nrow),.v (.slice none 0 0),.v (.slice none 0 0)]] (.agg [.v (.slice none 0 0),.v (.slice none 0 0),.v (.bool false)]) [.box [.v (.int .i64 id),.v (.int .i64 1),.v (.int .i64 0),.v (.int .i64 (-1)),.bp 1 0,.v (.int .i64 0),.v (.int .i64 0),.v (.int .i64 role),.v (.int .i64 lead),.sl (ys.map nrow),.v (.int .i64 0),.v (.int .i64 0),.v (.int .i64 0),.v (.int .i64 0),.v (.int .i64 0),.v (.int .i64 0),.v (.int .i64 0),.v (.int .i64 0),.v (.int .i64 0),.v (.int .i64 0),.v (.int .i64 0),.v (.int .i64 0),.v (.int .i64 0),.v (.int .i64 0),.v (.int .i64 sil),.v (.int .i64 0),.v (.slice none 0 0),.v (.slice none 0 0),.v (.bool false)],.box [.v (.int .i64 0),.v (.int .i64 0),.sl (cs.map nrow),.v (.slice none 0 0),.v (.slice none 0 0)]]:=by
 refine C_mementoref12_Raft_said nl nl ?_
 simp only [cz,A_mementoref12_Raft_said,argL,objL,List.length_nil,List.length_cons,Nat.zero_add,zX,simprocAttr]
 refine aR 16 ?_
 refine aR 64 ?_
 refine aR 192 ?_
 refine aR 304 ?_
 refine Fin.objs [] [] (.inr rfl) rfl (by exact ⟨trivial,trivial⟩) ?_ ?_ (by simp [objL,rlook]) (by (intro k hk;simp [objL,rlook];omega))
 ·simp only [zL,simprocAttr]
  all_goals ((repeat' (first | exact trivial | rfl | refine ⟨?_,?_⟩)))
 ·simp only [zL,simprocAttr]

theorem Raft_others_con (id role lead sil : Int) (ys cs : List Int) (hb : cs.length≤12) : Con Tryz.prog 121 [.c (.bp 0 0)] [.box [.v (.int .i64 id),.v (.int .i64 1),.v (.int .i64 0),.v (.int .i64 (-1)),.bp 1 0,.v (.int .i64 0),.v (.int .i64 0),.v (.int .i64 role),.v (.int .i64 lead),.sl (ys.map nrow),.v (.int .i64 0),.v (.int .i64 0),.v (.int .i64 0),.v (.int .i64 0),.v (.int .i64 0),.v (.int .i64 0),.v (.int .i64 0),.v (.int .i64 0),.v (.int .i64 0),.v (.int .i64 0),.v (.int .i64 0),.v (.int .i64 0),.v (.int .i64 0),.v (.int .i64 0),.v (.int .i64 sil),.v (.int .i64 0),.v (.slice none 0 0),.v (.slice none 0 0),.v (.bool false)],.box [.v (.int .i64 0),.v (.int .i64 0),.sl (cs.map nrow),.v (.slice none 0 0),.v (.slice none 0 0)]] (.c (.sl ((ofS (cs.filter (·≠id))).map nrow))) [.box [.v (.int .i64 id),.v (.int .i64 1),.v (.int .i64 0),.v (.int .i64 (-1)),.bp 1 0,.v (.int .i64 0),.v (.int .i64 0),.v (.int .i64 role),.v (.int .i64 lead),.sl (ys.map nrow),.v (.int .i64 0),.v (.int .i64 0),.v (.int .i64 0),.v (.int .i64 0),.v (.int .i64 0),.v (.int .i64 0),.v (.int .i64 0),.v (.int .i64 0),.v (.int .i64 0),.v (.int .i64 0),.v (.int .i64 0),.v (.int .i64 0),.v (.int .i64 0),.v (.int .i64 0),.v (.int .i64 sil),.v (.int .i64 0),.v (.slice none 0 0),.v (.slice none 0 0),.v (.bool false)],.box [.v (.int .i64 0),.v (.int .i64 0),.sl (cs.map nrow),.v (.slice none 0 0),.v (.slice none 0 0)]]:=by
 refine C_mementoref12_Raft_others nl nl ?_
 simp only [cz,A_mementoref12_Raft_others,argL,objL,List.length_nil,List.length_cons,Nat.zero_add,zX,simprocAttr]
 refine aR 16 ?_
 refine aBD 64 ?_
 refine RG.callro [0,1] (Raft_Conf_con id role lead sil ys cs hb) (.mk (by (repeat' (first | exact tr_nil | refine tr_cons ?_ ?_ | exact tr_bp rfl))) (by (simp only [zT,simprocAttr];done)) (by simp) (by simp) (trivial) (by (simp [lkE_cons,lkE_nil];done)) (by (simp [Ent.pure];done)) (by simp) (by simp)) rfl (by repeat' (first | exact trivial | refine ⟨rfl,?_⟩)) ?_
 refine aM ?_
 refine rO [] [] ((Without_con cs id hb).rows (drows_nrow _)) ?_
 refine aED ?_
 refine Fin.objs [] [] (.inr rfl) rfl (by exact trivial) ?_ ?_ (by simp [objL,rlook]) (by (intro k hk;simp [objL,rlook];omega))
 ·simp only [zL,simprocAttr]
  all_goals (skip)
 ·simp only [zL,simprocAttr]

theorem Raft_most_con (id role lead sil : Int) (ys cs : List Int) (hb : cs.length≤12) (hy : ys.length≤12) : Con Tryz.prog 111 [.c (.bp 0 0)] [.box [.v (.int .i64 id),.v (.int .i64 1),.v (.int .i64 0),.v (.int .i64 (-1)),.bp 1 0,.v (.int .i64 0),.v (.int .i64 0),.v (.int .i64 role),.v (.int .i64 lead),.sl (ys.map nrow),.v (.int .i64 0),.v (.int .i64 0),.v (.int .i64 0),.v (.int .i64 0),.v (.int .i64 0),.v (.int .i64 0),.v (.int .i64 0),.v (.int .i64 0),.v (.int .i64 0),.v (.int .i64 0),.v (.int .i64 0),.v (.int .i64 0),.v (.int .i64 0),.v (.int .i64 0),.v (.int .i64 sil),.v (.int .i64 0),.v (.slice none 0 0),.v (.slice none 0 0),.v (.bool false)],.box [.v (.int .i64 0),.v (.int .i64 0),.sl (cs.map nrow),.v (.slice none 0 0),.v (.slice none 0 0)]] (B (decide (2 * ((ofS cs).countP (· ∈ ys)) > (ofS cs).length))) [.box [.v (.int .i64 id),.v (.int .i64 1),.v (.int .i64 0),.v (.int .i64 (-1)),.bp 1 0,.v (.int .i64 0),.v (.int .i64 0),.v (.int .i64 role),.v (.int .i64 lead),.sl (ys.map nrow),.v (.int .i64 0),.v (.int .i64 0),.v (.int .i64 0),.v (.int .i64 0),.v (.int .i64 0),.v (.int .i64 0),.v (.int .i64 0),.v (.int .i64 0),.v (.int .i64 0),.v (.int .i64 0),.v (.int .i64 0),.v (.int .i64 0),.v (.int .i64 0),.v (.int .i64 0),.v (.int .i64 sil),.v (.int .i64 0),.v (.slice none 0 0),.v (.slice none 0 0),.v (.bool false)],.box [.v (.int .i64 0),.v (.int .i64 0),.sl (cs.map nrow),.v (.slice none 0 0),.v (.slice none 0 0)]]:=by
 refine C_mementoref12_Raft_most nl nl ?_
 simp only [cz,A_mementoref12_Raft_most,argL,objL,List.length_nil,List.length_cons,Nat.zero_add,zX,simprocAttr]
 refine aR 16 ?_
 refine aBD 64 ?_
 refine RG.callro [0,1] (Raft_Conf_con id role lead sil ys cs hb) (.mk (by (repeat' (first | exact tr_nil | refine tr_cons ?_ ?_ | exact tr_bp rfl))) (by (simp only [zT,simprocAttr];done)) (by simp) (by simp) (trivial) (by (simp [lkE_cons,lkE_nil];done)) (by (simp [Ent.pure];done)) (by simp) (by simp)) rfl (by repeat' (first | exact trivial | refine ⟨rfl,?_⟩)) ?_
 refine aM ?_
 refine rC [] (Most_con cs ys hb hy) ?_
 refine aED ?_
 refine Fin.objs [] [] (.inr rfl) rfl (by exact trivial) ?_ ?_ (by simp [objL,rlook]) (by (intro k hk;simp [objL,rlook];omega))
 ·simp only [zL,simprocAttr]
 ·simp only [zL,simprocAttr]

theorem Raft_send_con (id role lead sil : Int) (ys cs : List Int) (ms : List MG) (m : MG) (to : Int) (hl : ms.length≤1000) : Con Tryz.prog 110 [.c (.bp 0 0),.agg (msgC m),I to] [.box [.v (.int .i64 id),.v (.int .i64 1),.v (.int .i64 0),.v (.int .i64 (-1)),.bp 1 0,.v (.int .i64 0),.v (.int .i64 0),.v (.int .i64 role),.v (.int .i64 lead),.sl (ys.map nrow),.v (.int .i64 0),.v (.int .i64 0),.v (.int .i64 0),.v (.int .i64 0),.v (.int .i64 0),.v (.int .i64 0),.v (.int .i64 0),.v (.int .i64 0),.v (.int .i64 0),.v (.int .i64 0),.v (.int .i64 0),.v (.int .i64 0),.v (.int .i64 0),.v (.int .i64 0),.v (.int .i64 sil),.v (.int .i64 0),.osl 2,.v (.slice none 0 0),.v (.bool false)],.box [.v (.int .i64 0),.v (.int .i64 0),.sl (cs.map nrow),.v (.slice none 0 0),.v (.slice none 0 0)],.arr 28 19 (ms.map msgC) false] (.tup []) [.box [.v (.int .i64 id),.v (.int .i64 1),.v (.int .i64 0),.v (.int .i64 (-1)),.bp 1 0,.v (.int .i64 0),.v (.int .i64 0),.v (.int .i64 role),.v (.int .i64 lead),.sl (ys.map nrow),.v (.int .i64 0),.v (.int .i64 0),.v (.int .i64 0),.v (.int .i64 0),.v (.int .i64 0),.v (.int .i64 0),.v (.int .i64 0),.v (.int .i64 0),.v (.int .i64 0),.v (.int .i64 0),.v (.int .i64 0),.v (.int .i64 0),.v (.int .i64 0),.v (.int .i64 0),.v (.int .i64 sil),.v (.int .i64 0),.osl 3,.v (.slice none 0 0),.v (.bool false)],.box [.v (.int .i64 0),.v (.int .i64 0),.sl (cs.map nrow),.v (.slice none 0 0),.v (.slice none 0 0)],.gone,.arr 28 19 ((ms ++ [{ m with grp:=1,frm:=id,to:=to }]).map msgC) false]:=by
 have hr : ms.map msgC ++ [msgC { m with grp:=1,frm:=id,to:=to }] = (ms ++ [{ m with grp:=1,frm:=id,to:=to }]).map msgC:=by rw [List.map_append];rfl
 simp only [msgC] at hr
 refine C_mementoref12_Raft_send nl nl ?_
 simp only [cz,A_mementoref12_Raft_send,argL,objL,List.length_nil,List.length_cons,Nat.zero_add,zX,simprocAttr]
 refine aS 16 (fun Q hQ=>by simp (disch:=intros;contradiction) only [zS,msgC,simprocAttr];exact hQ) ?_
 refine aD 64 ?_
 refine aw_draw 336 (RG.go fun Q hQ=>?_)
 simp (disch:=intros;contradiction) only [zS,zW,hr,simprocAttr]
 refine ⟨⟨by simp,by omega⟩,hQ (RG.nil ⟨by decide +kernel,?_⟩)⟩
 refine Fin.objs [] [(3,464)] (.inl rfl) rfl (by exact trivial) ?_ ?_ (by simp [objL,rlook]) (by (intro k hk;simp [objL,rlook];omega))
 ·simp only [zL,simprocAttr]
 ·simp only [zL,simprocAttr]
  all_goals (try ((repeat' ((exact drows_msgC _)))))

end Go.Abs

namespace Go.Abs
open Go Go.Proofs
set_option maxRecDepth 100000
set_option linter.unusedSimpArgs false
set_option maxHeartbeats 8000000

def toM (kind term id : Int) (to : Int) : MG:=⟨kind,1,id,to,term,0,0,0,false,[],0,0,[],[],[],0,0,0,0⟩
def msN (kind term id : Int) (os : List Int) (i : Nat) : List MG:=(os.take i).map (toM kind term id)
theorem msN_len (kind term id : Int) (os : List Int) (i : Nat) : (msN kind term id os i).length≤os.length:=by unfold msN;simp;omega
theorem Raft_call_con (id role lead sil kind term : Int) (ys cs : List Int) (hb : cs.length≤12) : Con Tryz.prog 124 [.c (.bp 0 0),I kind,I term] [.box [.v (.int .i64 id),.v (.int .i64 1),.v (.int .i64 0),.v (.int .i64 (-1)),.bp 1 0,.v (.int .i64 0),.v (.int .i64 0),.v (.int .i64 role),.v (.int .i64 lead),.sl (ys.map nrow),.v (.int .i64 0),.v (.int .i64 0),.v (.int .i64 0),.v (.int .i64 0),.v (.int .i64 0),.v (.int .i64 0),.v (.int .i64 0),.v (.int .i64 0),.v (.int .i64 0),.v (.int .i64 0),.v (.int .i64 0),.v (.int .i64 0),.v (.int .i64 0),.v (.int .i64 0),.v (.int .i64 sil),.v (.int .i64 0),.v (.slice none 0 0),.v (.slice none 0 0),.v (.bool false)],.box [.v (.int .i64 0),.v (.int .i64 0),.sl (cs.map nrow),.v (.slice none 0 0),.v (.slice none 0 0)]] (.tup []) [.box [.v (.int .i64 id),.v (.int .i64 1),.v (.int .i64 0),.v (.int .i64 (-1)),.bp 1 0,.v (.int .i64 0),.v (.int .i64 0),.v (.int .i64 role),.v (.int .i64 lead),.sl (ys.map nrow),.v (.int .i64 0),.v (.int .i64 0),.v (.int .i64 0),.v (.int .i64 0),.v (.int .i64 0),.v (.int .i64 0),.v (.int .i64 0),.v (.int .i64 0),.v (.int .i64 0),.v (.int .i64 0),.v (.int .i64 0),.v (.int .i64 0),.v (.int .i64 0),.v (.int .i64 0),.v (.int .i64 sil),.v (.int .i64 0),.sl (((ofS (cs.filter (·≠id))).map (toM kind term id)).map msgC),.v (.slice none 0 0),.v (.bool false)],.box [.v (.int .i64 0),.v (.int .i64 0),.sl (cs.map nrow),.v (.slice none 0 0),.v (.slice none 0 0)]]:=by
 obtain ⟨os,hos⟩ : ∃ os,os = ofS (cs.filter (·≠id)):=⟨_,rfl⟩
 have hol : os.length≤12:=by
  rw [hos]
  have h1:=ofS_len (cs.filter (·≠id))
  have h2:=List.length_filter_le (fun z=>decide (z≠id)) cs
  omega
 have cO:=Raft_others_con id role lead sil ys cs hb
 rw [← hos] at cO ⊢
 refine C_mementoref12_Raft_call nl nl ?_
 simp only [cz,A_mementoref12_Raft_call,argL,objL,List.length_nil,List.length_cons,Nat.zero_add,zX,simprocAttr]
 refine aB 16 ?_
 refine RG.callro [0,1] (cO) (.mk (by (repeat' (first | exact tr_nil | refine tr_cons ?_ ?_ | exact tr_bp rfl))) (by (simp only [zT,simprocAttr];done)) (by simp) (by simp) (trivial) (by (simp [lkE_cons,lkE_nil];done)) (by (simp [Ent.pure];done)) (by simp) (by simp)) rfl (by repeat' (first | exact trivial | refine ⟨rfl,?_⟩)) ?_
 refine aE ?_
 refine aR 96 ?_
 refine aw_loopK (X:={ i : Nat // i≤os.length }) [0,1,2,6] (fun i=>[(7,I i.1)]) [1] (fun i=>[(0,.box [.v (.int .i64 id),.v (.int .i64 1),.v (.int .i64 0),.v (.int .i64 (-1)),.bp 1 0,.v (.int .i64 0),.v (.int .i64 0),.v (.int .i64 role),.v (.int .i64 lead),.sl (ys.map nrow),.v (.int .i64 0),.v (.int .i64 0),.v (.int .i64 0),.v (.int .i64 0),.v (.int .i64 0),.v (.int .i64 0),.v (.int .i64 0),.v (.int .i64 0),.v (.int .i64 0),.v (.int .i64 0),.v (.int .i64 0),.v (.int .i64 0),.v (.int .i64 0),.v (.int .i64 0),.v (.int .i64 sil),.v (.int .i64 0),.osl 5000,.v (.slice none 0 0),.v (.bool false)]),(5000,.arr 28 19 ((msN kind term id os i.1).map msgC) false)]) (fun i=>os.length - i.1) (⟨0,by omega⟩) ?_ ?_
 ·skip
  simp only [keepS,keepE,Option.getD_some,lk_cons,lkE_cons,List.cons_append,List.nil_append,simprocAttr]
  refine (Le.ownB 0 26 5000 _ 28 19 rfl rfl rfl (by decide)).trans ?_
  simp only [List.set_cons_succ,List.set_cons_zero,setE_cons,setE_nil,simprocAttr]
  refine Le.lit [] [] _ _ ?_ ?_ ?_ ?_
  ·simp only [zL,simprocAttr]
  ·simp only [zL,simprocAttr]
   all_goals (try ((repeat' (first | (exact drows_msgC _) | rfl | refine ⟨?_,?_⟩))))
  ·simp [rlook]
  ·(intro k hk;simp [rlook];omega)
 rintro ⟨i,hi⟩
 simp only [keepS,keepE,Option.getD_some,lk_cons,lkE_cons,List.cons_append,List.nil_append,simprocAttr]
 simp only [zX]
 refine aS 144 (fun Q hQ=>by simp (disch:=intros;contradiction) only [zS,zW,simprocAttr];exact hQ) ?_
 refine aw_cond _ rfl trivial (fun ht=>?_) (fun hf=>?_)
 ·skip
  try simp at ht
  simp only [zX]
  have hi' : i < os.length:=by omega
  obtain ⟨x,hx⟩ : ∃ x,os[i] = x:=⟨_,rfl⟩
  have hs : msN kind term id os i ++ [⟨kind,1,id,x,term,0,0,0,false,[],0,0,[],[],[],0,0,0,0⟩] = msN kind term id os (i + 1):=by unfold msN;rw [take_one _ _ hi',hx,List.map_append];rfl
  have hml:=msN_len kind term id os i
  have cS:=Raft_send_con id role lead sil ys cs (msN kind term id os i) ⟨kind,0,0,0,term,0,0,0,false,[],0,0,[],[],[],0,0,0,0⟩ x (by omega)
  simp only at cS
  rw [hs] at cS
  refine aBD 240 ?_
  refine RG.callro [1] (Log_Last_con cs) (.mk (by (repeat' (first | exact tr_nil | refine tr_cons ?_ ?_ | exact tr_bp rfl))) (by (simp only [zT,simprocAttr];done)) (by simp) (by simp) (trivial) (by (simp [lkE_cons,lkE_nil];done)) (by (simp [Ent.pure];done)) (by simp) (by simp)) rfl (by repeat' (first | exact trivial | refine ⟨rfl,?_⟩)) ?_
  refine aM ?_
  refine RG.callro [1] (Log_Last_con cs) (.mk (by (repeat' (first | exact tr_nil | refine tr_cons ?_ ?_ | exact tr_bp rfl))) (by (simp only [zT,simprocAttr];done)) (by simp) (by simp) (trivial) (by (simp [lkE_cons,lkE_nil];done)) (by (simp [Ent.pure];done)) (by simp) (by simp)) rfl (by repeat' (first | exact trivial | refine ⟨rfl,?_⟩)) ?_
  refine aM ?_
  refine RG.callro [1] (Log_Term_con cs) (.mk (by (repeat' (first | exact tr_nil | refine tr_cons ?_ ?_ | exact tr_v | exact tr_bp rfl))) (by (simp only [zT,simprocAttr];done)) (by simp) (by simp) (trivial) (by (simp [lkE_cons,lkE_nil];done)) (by (simp [Ent.pure];done)) (by simp) (by simp)) rfl (by repeat' (first | exact trivial | refine ⟨rfl,?_⟩)) ?_
  refine aMs (fun Q hQ=>by simp (disch:=first | (intros;contradiction) | omega | (simp only [zN];omega)) only [zS,zW,hx,nrow,simprocAttr];repeat refine ⟨by (omega),?_⟩;exact hQ) ?_
  refine RG.callo [0,1,5000] [] (cS) (.mk (by (repeat' (first | exact tr_nil | refine tr_cons ?_ ?_ | exact tr_v | exact tr_bp rfl | exact tr_agg (by repeat' (first | exact trivial | rfl | refine ⟨?_,?_⟩))))) (by (simp only [zT,simprocAttr];repeat' ((exact drows_msgC _)))) (by simp) (by simp) (trivial) (by (simp [lkE_cons,lkE_nil];done)) (by (simp [Ent.pure];repeat' ((exact drows_msgC _)))) (by simp) (by simp)) ?_
  refine aED ?_
  refine aS 656 (fun Q hQ=>by simp (disch:=first | (intros;contradiction) | omega | (simp only [zN];omega)) only [zS,zW,simprocAttr];exact hQ) ?_
  refine ⟨⟨i + 1,hi'⟩,?_,by first | omega | (simp only;omega)⟩
  refine Le.lit [] [(5000,608)] _ _ ?_ ?_ ?_ ?_
  ·simp only [zL,simprocAttr]
   all_goals (try ((repeat' (rfl))))
  ·simp only [zL,simprocAttr]
   all_goals (try ((repeat' ((exact drows_msgC _)))))
  ·simp [rlook]
  ·(intro k hk;simp [rlook];omega)
 try simp at hf
 simp only [zX,↓reduceIte]
 obtain rfl : i = os.length:=by omega
 rw [show os.map (toM kind term id) = msN kind term id os os.length by unfold msN;rw [List.take_length]]
 refine Fin.objs [5000] [] (.inl rfl) rfl (by exact trivial) ?_ ?_ (by simp [objL,rlook]) (by (intro k hk;simp [objL,rlook];omega))
 ·simp only [zL,simprocAttr]
  all_goals (skip)
 ·simp only [zL,simprocAttr]
  all_goals (try ((repeat' (first | (first | exact drows_msgC _ | (simp [C.isD];done)) | refine ⟨?_,?_⟩))))

theorem Raft_ask_con (id role lead sil : Int) (ys cs : List Int) (hb : cs.length≤12) (hm : decide (2 * ((ofS cs).countP (· ∈ [id])) > (ofS cs).length) = false) : ∃ ms : List MG,Con Tryz.prog 102 [.c (.bp 0 0)] [.box [.v (.int .i64 id),.v (.int .i64 1),.v (.int .i64 0),.v (.int .i64 (-1)),.bp 1 0,.v (.int .i64 0),.v (.int .i64 0),.v (.int .i64 role),.v (.int .i64 lead),.sl (ys.map nrow),.v (.int .i64 0),.v (.int .i64 0),.v (.int .i64 0),.v (.int .i64 0),.v (.int .i64 0),.v (.int .i64 0),.v (.int .i64 0),.v (.int .i64 0),.v (.int .i64 0),.v (.int .i64 0),.v (.int .i64 0),.v (.int .i64 0),.v (.int .i64 0),.v (.int .i64 0),.v (.int .i64 sil),.v (.int .i64 0),.v (.slice none 0 0),.v (.slice none 0 0),.v (.bool false)],.box [.v (.int .i64 0),.v (.int .i64 0),.sl (cs.map nrow),.v (.slice none 0 0),.v (.slice none 0 0)]] (.tup []) [.box [.v (.int .i64 id),.v (.int .i64 1),.v (.int .i64 0),.v (.int .i64 (-1)),.bp 1 0,.v (.int .i64 0),.v (.int .i64 0),.v (.int .i64 1),.v (.int .i64 (-1)),.sl ([id].map nrow),.v (.int .i64 0),.v (.int .i64 0),.v (.int .i64 0),.v (.int .i64 0),.v (.int .i64 0),.v (.int .i64 0),.v (.int .i64 0),.v (.int .i64 0),.v (.int .i64 0),.v (.int .i64 0),.v (.int .i64 0),.v (.int .i64 0),.v (.int .i64 0),.v (.int .i64 0),.v (.int .i64 sil),.v (.int .i64 0),.sl (ms.map msgC),.v (.slice none 0 0),.v (.bool false)],.box [.v (.int .i64 0),.v (.int .i64 0),.sl (cs.map nrow),.v (.slice none 0 0),.v (.slice none 0 0)]]:=by
 refine ⟨(ofS (cs.filter (·≠id))).map (toM 1 1 id),?_⟩
 have cM:=Raft_most_con id 1 (-1) sil [id] cs hb (by simp)
 rw [hm] at cM
 have cC:=Raft_call_con id 1 (-1) sil 1 1 [id] cs hb
 refine C_mementoref12_Raft_ask nl nl ?_
 simp only [cz,A_mementoref12_Raft_ask,argL,objL,List.length_nil,List.length_cons,Nat.zero_add,zX,simprocAttr]
 refine aR 16 ?_
 refine awp_pre [(0,.c (.bp 0 0))] [(0,.box [.v (.int .i64 id),.v (.int .i64 1),.v (.int .i64 0),.v (.int .i64 (-1)),.bp 1 0,.v (.int .i64 0),.v (.int .i64 0),.v (.int .i64 1),.v (.int .i64 (-1)),.sl ([id].map nrow),.v (.int .i64 0),.v (.int .i64 0),.v (.int .i64 0),.v (.int .i64 0),.v (.int .i64 0),.v (.int .i64 0),.v (.int .i64 0),.v (.int .i64 0),.v (.int .i64 0),.v (.int .i64 0),.v (.int .i64 0),.v (.int .i64 0),.v (.int .i64 0),.v (.int .i64 0),.v (.int .i64 sil),.v (.int .i64 0),.v (.slice none 0 0),.v (.slice none 0 0),.v (.bool false)]),(1,.box [.v (.int .i64 0),.v (.int .i64 0),.sl (cs.map nrow),.v (.slice none 0 0),.v (.slice none 0 0)])] ?_ ?_
 ·skip
  refine Le.lit [128] [] _ _ ?_ ?_ ?_ ?_
  ·simp only [zL,simprocAttr]
  ·simp only [zL,simprocAttr]
   all_goals (exact ⟨⟨_,_,rfl⟩,drows_nrow [id]⟩;skip)
  ·simp [rlook]
  ·(intro k hk;simp [rlook];omega)
 refine aB 320 ?_
 refine RG.callro [0,1] (cM) (.mk (by (repeat' (first | exact tr_nil | refine tr_cons ?_ ?_ | exact tr_bp rfl))) (by (simp only [zT,simprocAttr];done)) (by simp) (by simp) (trivial) (by (simp [lkE_cons,lkE_nil];done)) (by (simp [Ent.pure];done)) (by simp) (by simp)) rfl (by repeat' (first | exact trivial | refine ⟨rfl,?_⟩)) ?_
 refine aE ?_
 refine aF ?_
 refine aBs 384 (fun Q hQ=>by simp (disch:=first | (intros;contradiction) | omega | (simp only [zN];omega)) only [zS,zW,simprocAttr];exact hQ) ?_
 refine rO [0,1] [] (cC) ?_
 refine RG.go fun Q hQ=>?_
 simp (disch:=intros;contradiction) only [zS,simprocAttr]
 refine hQ (RG.nil ?_)
 refine Fin.objs [] [] (.inl rfl) rfl (by exact trivial) ?_ ?_ (by simp [objL,rlook]) (by (intro k hk;simp [objL,rlook];omega))
 ·simp only [zL,simprocAttr]
 ·simp only [zL,simprocAttr]

structure RS where
 role : Int
 lead : Int
 sil : Int
 ys : List Int
structure RS.ok (s : RS) (n : Int) : Prop where
 role : s.role = 0∨s.role = 1
 s0 : 0≤s.sil
 sn : s.sil≤n
 ys : s.ys.length≤12
theorem Raft_Tick_con (id : Int) (hid : id = 0∨id = 1∨id = 2) (cs : List Int) (hb : cs.length≤12) (hin : id ∈ cs) (hm : decide (2 * ((ofS cs).countP (· ∈ [id])) > (ofS cs).length) = false) (s : RS) (n : Int) (hs : s.ok n) (hn : n≤1000) :
  ∃ (s' : RS) (ms : List MG),s'.ok (n + 1)∧Con Tryz.prog 85 [.c (.bp 0 0)] [.box [.v (.int .i64 id),.v (.int .i64 1),.v (.int .i64 0),.v (.int .i64 (-1)),.bp 1 0,.v (.int .i64 0),.v (.int .i64 0),.v (.int .i64 s.role),.v (.int .i64 s.lead),.sl (s.ys.map nrow),.v (.int .i64 0),.v (.int .i64 0),.v (.int .i64 0),.v (.int .i64 0),.v (.int .i64 0),.v (.int .i64 0),.v (.int .i64 0),.v (.int .i64 0),.v (.int .i64 0),.v (.int .i64 0),.v (.int .i64 0),.v (.int .i64 0),.v (.int .i64 0),.v (.int .i64 0),.v (.int .i64 s.sil),.v (.int .i64 0),.v (.slice none 0 0),.v (.slice none 0 0),.v (.bool false)],.box [.v (.int .i64 0),.v (.int .i64 0),.sl (cs.map nrow),.v (.slice none 0 0),.v (.slice none 0 0)]] (.agg [.sl (ms.map msgC),.v (.slice none 0 0),.v (.bool false)]) [.box [.v (.int .i64 id),.v (.int .i64 1),.v (.int .i64 0),.v (.int .i64 (-1)),.bp 1 0,.v (.int .i64 0),.v (.int .i64 0),.v (.int .i64 s'.role),.v (.int .i64 s'.lead),.sl (s'.ys.map nrow),.v (.int .i64 0),.v (.int .i64 0),.v (.int .i64 0),.v (.int .i64 0),.v (.int .i64 0),.v (.int .i64 0),.v (.int .i64 0),.v (.int .i64 0),.v (.int .i64 0),.v (.int .i64 0),.v (.int .i64 0),.v (.int .i64 0),.v (.int .i64 0),.v (.int .i64 0),.v (.int .i64 s'.sil),.v (.int .i64 0),.v (.slice none 0 0),.v (.slice none 0 0),.v (.bool false)],.box [.v (.int .i64 0),.v (.int .i64 0),.sl (cs.map nrow),.v (.slice none 0 0),.v (.slice none 0 0)]]:=by
 obtain ⟨role,lead,sil,ys⟩:=s
 obtain ⟨h1,h2,h3,h4⟩:=hs
 simp only at h1 h2 h3 h4 ⊢
 obtain ⟨k,cT⟩:=Timeout_con id hid
 have cC:=Raft_Conf_con id role lead (sil + 1) ys cs hb
 have cH:=mementoref6_Has_con cs id (by omega)
 rw [decide_eq_true hin] at cH
 have hr3 : (role == 3) = false:=by rcases h1 with h | h <;> rw [h] <;> rfl
 by_cases hk : k≤sil + 1
 ·have hkd : decide (sil + 1 ≥ k) = true:=decide_eq_true hk
  have hkd2 : decide (k≤sil + 1) = true:=decide_eq_true hk
  obtain ⟨ms,cA⟩:=Raft_ask_con id role lead 0 ys cs hb hm
  have cS:=Raft_said_con id 1 (-1) 0 [id] cs ms
  refine ⟨⟨1,-1,0,[id]⟩,ms,⟨.inr rfl,Int.le_refl _,by simp only;omega,by simp⟩,?_⟩
  refine C_mementoref12_Raft_Tick nl nl ?_
  simp only [cz,A_mementoref12_Raft_Tick,argL,objL,List.length_nil,List.length_cons,Nat.zero_add,zX,simprocAttr]
  refine aR 16 ?_
  refine aS 64 (fun Q hQ=>by simp (disch:=intros;contradiction) only [zS,hr3,simprocAttr];exact hQ) ?_
  refine aF ?_
  refine aS 176 (fun Q hQ=>by simp (disch:=first | (intros;contradiction) | omega | (simp only [zN];omega)) only [zS,zW,simprocAttr];exact hQ) ?_
  refine aBD 336 ?_
  refine RG.callro [0,1] (cC) (.mk (by (repeat' (first | exact tr_nil | refine tr_cons ?_ ?_ | exact tr_bp rfl))) (by (simp only [zT,simprocAttr];done)) (by simp) (by simp) (trivial) (by (simp [lkE_cons,lkE_nil];done)) (by (simp [Ent.pure];done)) (by simp) (by simp)) rfl (by repeat' (first | exact trivial | refine ⟨rfl,?_⟩)) ?_
  refine aM ?_
  refine rC [] (cH) ?_
  refine aM ?_
  refine rG _ _ (cT) ?_
  refine aEDs (fun Q hQ=>by simp (disch:=intros;contradiction) only [zS,hkd,simprocAttr];exact hQ) ?_
  refine aT ?_
  refine aR 752 ?_
  refine aB 848 ?_
  refine rO [0,1] [] (cA) ?_
  refine aE ?_
  refine aB 912 ?_
  refine rO [0,1] [] (cS) ?_
  refine aE ?_
  refine Fin.objs [] [] (.inr rfl) rfl (by exact ⟨trivial,trivial⟩) ?_ ?_ (by simp [objL,rlook]) (by (intro k hk;simp [objL,rlook];omega))
  ·simp only [zL,simprocAttr]
   all_goals ((repeat' (first | exact trivial | rfl | refine ⟨?_,?_⟩)))
  ·simp only [zL,simprocAttr]

 ·have hkd : decide (sil + 1 ≥ k) = false:=decide_eq_false hk
  have hkd2 : decide (k≤sil + 1) = false:=decide_eq_false hk
  have cS:=Raft_said0_con id role lead (sil + 1) ys cs
  refine ⟨⟨role,lead,sil + 1,ys⟩,[],⟨h1,by simp only;omega,by simp only;omega,h4⟩,?_⟩
  refine C_mementoref12_Raft_Tick nl nl ?_
  simp only [cz,A_mementoref12_Raft_Tick,argL,objL,List.length_nil,List.length_cons,Nat.zero_add,zX,simprocAttr]
  refine aR 16 ?_
  refine aS 64 (fun Q hQ=>by simp (disch:=intros;contradiction) only [zS,hr3,simprocAttr];exact hQ) ?_
  refine aF ?_
  refine aS 176 (fun Q hQ=>by simp (disch:=first | (intros;contradiction) | omega | (simp only [zN];omega)) only [zS,zW,simprocAttr];exact hQ) ?_
  refine aBD 336 ?_
  refine RG.callro [0,1] (cC) (.mk (by (repeat' (first | exact tr_nil | refine tr_cons ?_ ?_ | exact tr_bp rfl))) (by (simp only [zT,simprocAttr];done)) (by simp) (by simp) (trivial) (by (simp [lkE_cons,lkE_nil];done)) (by (simp [Ent.pure];done)) (by simp) (by simp)) rfl (by repeat' (first | exact trivial | refine ⟨rfl,?_⟩)) ?_
  refine aM ?_
  refine rC [] (cH) ?_
  refine aM ?_
  refine rG _ _ (cT) ?_
  refine aEDs (fun Q hQ=>by simp (disch:=intros;contradiction) only [zS,hkd,simprocAttr];exact hQ) ?_
  refine aF ?_
  refine aB 752 ?_
  refine rO [0,1] [] (cS) ?_
  refine aE ?_
  refine Fin.objs [] [] (.inr rfl) rfl (by exact ⟨trivial,trivial⟩) ?_ ?_ (by simp [objL,rlook]) (by (intro k hk;simp [objL,rlook];omega))
  ·simp only [zL,simprocAttr]
   all_goals ((repeat' (first | exact trivial | rfl | refine ⟨?_,?_⟩)))
  ·simp only [zL,simprocAttr]

end Go.Abs

namespace Go.Abs
open Go Go.Proofs
set_option maxRecDepth 100000
set_option linter.unusedSimpArgs false
set_option maxHeartbeats 8000000

def itF (F : RS→RS × List MG) : Nat→RS→RS
 | 0,s=>s
 | n + 1,s=>(F (itF F n s)).1
def TickOk (id : Int) (cs : List Int) (F : RS→RS × List MG) : Prop:=∀ s : RS,s.ok s.sil→s.sil≤1000→(F s).1.ok (s.sil + 1)∧Con Tryz.prog 85 [.c (.bp 0 0)] [.box [.v (.int .i64 id),.v (.int .i64 1),.v (.int .i64 0),.v (.int .i64 (-1)),.bp 1 0,.v (.int .i64 0),.v (.int .i64 0),.v (.int .i64 (s).role),.v (.int .i64 (s).lead),.sl ((s).ys.map nrow),.v (.int .i64 0),.v (.int .i64 0),.v (.int .i64 0),.v (.int .i64 0),.v (.int .i64 0),.v (.int .i64 0),.v (.int .i64 0),.v (.int .i64 0),.v (.int .i64 0),.v (.int .i64 0),.v (.int .i64 0),.v (.int .i64 0),.v (.int .i64 0),.v (.int .i64 0),.v (.int .i64 (s).sil),.v (.int .i64 0),.v (.slice none 0 0),.v (.slice none 0 0),.v (.bool false)],.box [.v (.int .i64 0),.v (.int .i64 0),.sl (cs.map nrow),.v (.slice none 0 0),.v (.slice none 0 0)]] (.agg [.sl ((F s).2.map msgC),.v (.slice none 0 0),.v (.bool false)]) [.box [.v (.int .i64 id),.v (.int .i64 1),.v (.int .i64 0),.v (.int .i64 (-1)),.bp 1 0,.v (.int .i64 0),.v (.int .i64 0),.v (.int .i64 ((F s).1).role),.v (.int .i64 ((F s).1).lead),.sl (((F s).1).ys.map nrow),.v (.int .i64 0),.v (.int .i64 0),.v (.int .i64 0),.v (.int .i64 0),.v (.int .i64 0),.v (.int .i64 0),.v (.int .i64 0),.v (.int .i64 0),.v (.int .i64 0),.v (.int .i64 0),.v (.int .i64 0),.v (.int .i64 0),.v (.int .i64 0),.v (.int .i64 0),.v (.int .i64 ((F s).1).sil),.v (.int .i64 0),.v (.slice none 0 0),.v (.slice none 0 0),.v (.bool false)],.box [.v (.int .i64 0),.v (.int .i64 0),.sl (cs.map nrow),.v (.slice none 0 0),.v (.slice none 0 0)]]
theorem Tick_fun (id : Int) (hid : id = 0∨id = 1∨id = 2) (cs : List Int) (hb : cs.length≤12) (hin : id ∈ cs) (hm : decide (2 * ((ofS cs).countP (· ∈ [id])) > (ofS cs).length) = false) : ∃ F,TickOk id cs F:=by
 refine Classical.axiomOfChoice (r:=fun (s : RS) (r : RS × List MG)=>s.ok s.sil→s.sil≤1000→r.1.ok (s.sil + 1)∧Con Tryz.prog 85 [.c (.bp 0 0)] [.box [.v (.int .i64 id),.v (.int .i64 1),.v (.int .i64 0),.v (.int .i64 (-1)),.bp 1 0,.v (.int .i64 0),.v (.int .i64 0),.v (.int .i64 (s).role),.v (.int .i64 (s).lead),.sl ((s).ys.map nrow),.v (.int .i64 0),.v (.int .i64 0),.v (.int .i64 0),.v (.int .i64 0),.v (.int .i64 0),.v (.int .i64 0),.v (.int .i64 0),.v (.int .i64 0),.v (.int .i64 0),.v (.int .i64 0),.v (.int .i64 0),.v (.int .i64 0),.v (.int .i64 0),.v (.int .i64 0),.v (.int .i64 (s).sil),.v (.int .i64 0),.v (.slice none 0 0),.v (.slice none 0 0),.v (.bool false)],.box [.v (.int .i64 0),.v (.int .i64 0),.sl (cs.map nrow),.v (.slice none 0 0),.v (.slice none 0 0)]] (.agg [.sl (r.2.map msgC),.v (.slice none 0 0),.v (.bool false)]) [.box [.v (.int .i64 id),.v (.int .i64 1),.v (.int .i64 0),.v (.int .i64 (-1)),.bp 1 0,.v (.int .i64 0),.v (.int .i64 0),.v (.int .i64 (r.1).role),.v (.int .i64 (r.1).lead),.sl ((r.1).ys.map nrow),.v (.int .i64 0),.v (.int .i64 0),.v (.int .i64 0),.v (.int .i64 0),.v (.int .i64 0),.v (.int .i64 0),.v (.int .i64 0),.v (.int .i64 0),.v (.int .i64 0),.v (.int .i64 0),.v (.int .i64 0),.v (.int .i64 0),.v (.int .i64 0),.v (.int .i64 0),.v (.int .i64 (r.1).sil),.v (.int .i64 0),.v (.slice none 0 0),.v (.slice none 0 0),.v (.bool false)],.box [.v (.int .i64 0),.v (.int .i64 0),.sl (cs.map nrow),.v (.slice none 0 0),.v (.slice none 0 0)]]) fun s=>?_
 by_cases h : s.ok s.sil∧s.sil≤1000
 ·obtain ⟨s',ms,h1,h2⟩:=Raft_Tick_con id hid cs hb hin hm s s.sil h.1 h.2
  exact ⟨(s',ms),fun _ _=>⟨h1,h2⟩⟩
 ·exact ⟨(s,[]),fun h1 h2=>absurd ⟨h1,h2⟩ h⟩
theorem RS.ok.self {s : RS} {n : Int} (h : s.ok n) : s.ok s.sil:=⟨h.role,h.s0,Int.le_refl _,h.ys⟩
theorem itF_ok {id : Int} {cs : List Int} {F : RS→RS × List MG} (hF : TickOk id cs F) {s : RS} (hs : s.ok 0) : ∀ i : Nat,i≤500→(itF F i s).ok i
 | 0,_=>hs
 | i + 1,hi=>by
  have ih:=itF_ok hF hs i (by omega)
  have h1:=(hF _ ih.self (by have:=ih.sn;omega)).1
  have h2:=ih.sn
  exact ⟨h1.role,h1.s0,by have:=h1.sn;simp only [itF];omega,h1.ys⟩
theorem Hear0_con (id : Int) (cs : List Int) (F : RS→RS × List MG) (hF : TickOk id cs F) (s : RS) (hs : s.ok 0) (b c d a : Nat) :
  Con Tryz.prog 62 [.c (.bp 0 0),.agg [.v (.int .u8 0),.v (.int .u8 b),.v (.int .u8 c),.v (.int .u8 d),.v (.int .u8 a)]] [.box [.v (.int .i64 id),.v (.int .i64 1),.v (.int .i64 0),.v (.int .i64 (-1)),.bp 1 0,.v (.int .i64 0),.v (.int .i64 0),.v (.int .i64 (s).role),.v (.int .i64 (s).lead),.sl ((s).ys.map nrow),.v (.int .i64 0),.v (.int .i64 0),.v (.int .i64 0),.v (.int .i64 0),.v (.int .i64 0),.v (.int .i64 0),.v (.int .i64 0),.v (.int .i64 0),.v (.int .i64 0),.v (.int .i64 0),.v (.int .i64 0),.v (.int .i64 0),.v (.int .i64 0),.v (.int .i64 0),.v (.int .i64 (s).sil),.v (.int .i64 0),.v (.slice none 0 0),.v (.slice none 0 0),.v (.bool false)],.box [.v (.int .i64 0),.v (.int .i64 0),.sl (cs.map nrow),.v (.slice none 0 0),.v (.slice none 0 0)]] (.agg [.sl ((F (itF F (b % 12) s)).2.map msgC),.v (.slice none 0 0),.v (.bool false)]) [.box [.v (.int .i64 id),.v (.int .i64 1),.v (.int .i64 0),.v (.int .i64 (-1)),.bp 1 0,.v (.int .i64 0),.v (.int .i64 0),.v (.int .i64 ((F (itF F (b % 12) s)).1).role),.v (.int .i64 ((F (itF F (b % 12) s)).1).lead),.sl (((F (itF F (b % 12) s)).1).ys.map nrow),.v (.int .i64 0),.v (.int .i64 0),.v (.int .i64 0),.v (.int .i64 0),.v (.int .i64 0),.v (.int .i64 0),.v (.int .i64 0),.v (.int .i64 0),.v (.int .i64 0),.v (.int .i64 0),.v (.int .i64 0),.v (.int .i64 0),.v (.int .i64 0),.v (.int .i64 0),.v (.int .i64 ((F (itF F (b % 12) s)).1).sil),.v (.int .i64 0),.v (.slice none 0 0),.v (.slice none 0 0),.v (.bool false)],.box [.v (.int .i64 0),.v (.int .i64 0),.sl (cs.map nrow),.v (.slice none 0 0),.v (.slice none 0 0)]]:=by
 have r1 : ((b : Int).tmod 12) = ((b % 12 : Nat) : Int):=(Int.ofNat_tmod b 12).symm
 have r1e : ((b : Int) % 12) = ((b % 12 : Nat) : Int):=by omega
 have hb12 : b % 12 < 12:=by omega
 generalize b % 12 = k at r1 r1e hb12 ⊢
 have hwk : IntKind.i64.wrap (k : Int) = k:=w_nat (by omega)
 refine C_mementoseat_Hear nl nl ?_
 simp only [cz,A_mementoseat_Hear,argL,objL,List.length_nil,List.length_cons,Nat.zero_add,zX,simprocAttr]
 refine aR 16 ?_
 refine aw_reg 80 (RG.go fun Q hQ=>?_)
 simp (disch:=first | (intros;contradiction) | omega | (simp only [zN];omega)) only [zS,zW,simprocAttr]
 repeat refine ⟨by (omega),?_⟩
 refine hQ (RG.nil ?_)
 simp only [zX]
 refine aR 160 ?_
 refine aT ?_
 refine aT ?_
 refine aR 224 ?_
 refine aw_loopK (X:={ i : Nat // i≤k }) [0,3,4] (fun i=>[(5,I i.1)]) [1,16,32] (fun i=>[(0,.box [.v (.int .i64 id),.v (.int .i64 1),.v (.int .i64 0),.v (.int .i64 (-1)),.bp 1 0,.v (.int .i64 0),.v (.int .i64 0),.v (.int .i64 (itF F i.1 s).role),.v (.int .i64 (itF F i.1 s).lead),.sl ((itF F i.1 s).ys.map nrow),.v (.int .i64 0),.v (.int .i64 0),.v (.int .i64 0),.v (.int .i64 0),.v (.int .i64 0),.v (.int .i64 0),.v (.int .i64 0),.v (.int .i64 0),.v (.int .i64 0),.v (.int .i64 0),.v (.int .i64 0),.v (.int .i64 0),.v (.int .i64 0),.v (.int .i64 0),.v (.int .i64 (itF F i.1 s).sil),.v (.int .i64 0),.v (.slice none 0 0),.v (.slice none 0 0),.v (.bool false)])]) (fun i=>k - i.1) (⟨0,by omega⟩) ?_ ?_
 ·skip
  simp only [keepS,keepE,Option.getD_some,lk_cons,lkE_cons,List.cons_append,List.nil_append,simprocAttr]
  refine Le.lit [] [] _ _ ?_ ?_ ?_ ?_
  ·simp only [zL,simprocAttr]
  ·simp only [zL,simprocAttr]
   all_goals (try ((repeat' (first | rfl | refine ⟨?_,?_⟩))))
  ·simp [rlook]
  ·(intro k hk;simp [rlook];omega)
 rintro ⟨i,hi⟩
 simp only [keepS,keepE,Option.getD_some,lk_cons,lkE_cons,List.cons_append,List.nil_append,simprocAttr]
 simp only [zX]
 have hok:=itF_ok hF hs i (by omega)
 have cT:=(hF (itF F i s) hok.self (by have:=hok.sn;omega)).2
 refine aw_reg 272 (RG.go fun Q hQ=>?_)
 simp (disch:=first | (intros;contradiction) | omega | (simp only [zN];omega)) only [zS,zW,r1e,hwk,simprocAttr]
 repeat refine ⟨by (omega),?_⟩
 refine hQ (RG.nil ?_)
 simp only [zX]
 refine aw_cond _ rfl trivial (fun ht=>?_) (fun hf=>?_)
 ·skip
  try simp at ht
  simp only [zX]
  have hi' : i < k:=by omega
  refine aB 400 ?_
  refine rO [0,1] [] (cT) ?_
  refine aE ?_
  refine aS 464 (fun Q hQ=>by simp (disch:=first | (intros;contradiction) | omega | (simp only [zN];omega)) only [zS,zW,simprocAttr];exact hQ) ?_
  refine ⟨⟨i + 1,hi'⟩,?_,by first | omega | (simp only;omega)⟩
  refine Le.lit [] [] _ _ ?_ ?_ ?_ ?_
  ·simp only [zL,simprocAttr]
   all_goals (try ((repeat' (rfl))))
  ·simp only [zL,simprocAttr]
   all_goals (try ((repeat' (first | rfl | refine ⟨?_,?_⟩))))
  ·simp [rlook]
  ·(intro k hk;simp [rlook];omega)
 try simp at hf
 simp only [zX,↓reduceIte]
 obtain rfl : i = k:=by omega
 refine aB 544 ?_
 refine rO [0,1] [] (cT) ?_
 refine aE ?_
 refine Fin.objs [] [] (.inr rfl) rfl (by exact ⟨trivial,trivial⟩) ?_ ?_ (by simp [objL,rlook]) (by (intro k hk;simp [objL,rlook];omega))
 ·simp only [zL,simprocAttr]
  all_goals ((repeat' (first | exact trivial | rfl | refine ⟨?_,?_⟩)))
 ·simp only [zL,simprocAttr]

theorem Propose_con (id role lead sil : Int) (ys cs : List Int) (hr : role = 0∨role = 1) (l : List Nat) : Con Tryz.prog 86 [.c (.bp 0 0),I 1,.c (.sl (l.map brow))] [.box [.v (.int .i64 id),.v (.int .i64 1),.v (.int .i64 0),.v (.int .i64 (-1)),.bp 1 0,.v (.int .i64 0),.v (.int .i64 0),.v (.int .i64 role),.v (.int .i64 lead),.sl (ys.map nrow),.v (.int .i64 0),.v (.int .i64 0),.v (.int .i64 0),.v (.int .i64 0),.v (.int .i64 0),.v (.int .i64 0),.v (.int .i64 0),.v (.int .i64 0),.v (.int .i64 0),.v (.int .i64 0),.v (.int .i64 0),.v (.int .i64 0),.v (.int .i64 0),.v (.int .i64 0),.v (.int .i64 sil),.v (.int .i64 0),.v (.slice none 0 0),.v (.slice none 0 0),.v (.bool false)],.box [.v (.int .i64 0),.v (.int .i64 0),.sl (cs.map nrow),.v (.slice none 0 0),.v (.slice none 0 0)]] (.tup [.agg [.v (.slice none 0 0),.v (.slice none 0 0),.v (.bool false)],I 0,B false]) [.box [.v (.int .i64 id),.v (.int .i64 1),.v (.int .i64 0),.v (.int .i64 (-1)),.bp 1 0,.v (.int .i64 0),.v (.int .i64 0),.v (.int .i64 role),.v (.int .i64 lead),.sl (ys.map nrow),.v (.int .i64 0),.v (.int .i64 0),.v (.int .i64 0),.v (.int .i64 0),.v (.int .i64 0),.v (.int .i64 0),.v (.int .i64 0),.v (.int .i64 0),.v (.int .i64 0),.v (.int .i64 0),.v (.int .i64 0),.v (.int .i64 0),.v (.int .i64 0),.v (.int .i64 0),.v (.int .i64 sil),.v (.int .i64 0),.v (.slice none 0 0),.v (.slice none 0 0),.v (.bool false)],.box [.v (.int .i64 0),.v (.int .i64 0),.sl (cs.map nrow),.v (.slice none 0 0),.v (.slice none 0 0)]]:=by
 have hr3 : (role != 3) = true:=by rcases hr with h | h <;> rw [h] <;> rfl
 refine C_mementoref12_Raft_Propose nl nl ?_
 simp only [cz,A_mementoref12_Raft_Propose,argL,objL,List.length_nil,List.length_cons,Nat.zero_add,zX,simprocAttr]
 refine aR 16 ?_
 refine aBs 96 (fun Q hQ=>by simp (disch:=intros;contradiction) only [zS,hr3,simprocAttr];exact hQ) ?_
 refine RG.callg (res:=B true) _ _ [] rfl (fun hg=>by simp at hg) ?_
 refine aE ?_
 refine aT ?_
 refine aw_reg 368 (RG.go fun Q hQ=>?_)
 simp (disch:=intros;contradiction) only [zS,simprocAttr]
 refine hQ (RG.nil ?_)
 simp only [zX]
 refine Fin.objs [] [] (.inr rfl) rfl (by exact ⟨trivial,trivial⟩) ?_ ?_ (by simp [objL,rlook]) (by (intro k hk;simp [objL,rlook];omega))
 ·simp only [zL,simprocAttr]
  all_goals ((repeat' (first | exact trivial | rfl | refine ⟨?_,?_⟩)))
 ·simp only [zL,simprocAttr]

theorem Hear2_con (id : Int) (cs : List Int) (s : RS) (n : Int) (hs : s.ok n) (b c d a : Nat) :
  Con Tryz.prog 62 [.c (.bp 0 0),.agg [.v (.int .u8 2),.v (.int .u8 b),.v (.int .u8 c),.v (.int .u8 d),.v (.int .u8 a)]] [.box [.v (.int .i64 id),.v (.int .i64 1),.v (.int .i64 0),.v (.int .i64 (-1)),.bp 1 0,.v (.int .i64 0),.v (.int .i64 0),.v (.int .i64 (s).role),.v (.int .i64 (s).lead),.sl ((s).ys.map nrow),.v (.int .i64 0),.v (.int .i64 0),.v (.int .i64 0),.v (.int .i64 0),.v (.int .i64 0),.v (.int .i64 0),.v (.int .i64 0),.v (.int .i64 0),.v (.int .i64 0),.v (.int .i64 0),.v (.int .i64 0),.v (.int .i64 0),.v (.int .i64 0),.v (.int .i64 0),.v (.int .i64 (s).sil),.v (.int .i64 0),.v (.slice none 0 0),.v (.slice none 0 0),.v (.bool false)],.box [.v (.int .i64 0),.v (.int .i64 0),.sl (cs.map nrow),.v (.slice none 0 0),.v (.slice none 0 0)]] (.agg [.v (.slice none 0 0),.v (.slice none 0 0),.v (.bool false)]) [.box [.v (.int .i64 id),.v (.int .i64 1),.v (.int .i64 0),.v (.int .i64 (-1)),.bp 1 0,.v (.int .i64 0),.v (.int .i64 0),.v (.int .i64 (s).role),.v (.int .i64 (s).lead),.sl ((s).ys.map nrow),.v (.int .i64 0),.v (.int .i64 0),.v (.int .i64 0),.v (.int .i64 0),.v (.int .i64 0),.v (.int .i64 0),.v (.int .i64 0),.v (.int .i64 0),.v (.int .i64 0),.v (.int .i64 0),.v (.int .i64 0),.v (.int .i64 0),.v (.int .i64 0),.v (.int .i64 0),.v (.int .i64 (s).sil),.v (.int .i64 0),.v (.slice none 0 0),.v (.slice none 0 0),.v (.bool false)],.box [.v (.int .i64 0),.v (.int .i64 0),.sl (cs.map nrow),.v (.slice none 0 0),.v (.slice none 0 0)]]:=by
 obtain ⟨role,lead,sil,ys⟩:=s
 have cP:=Propose_con id role lead sil ys cs hs.role [b,c]
 simp only [List.map_cons,List.map_nil,brow] at cP
 simp only
 refine C_mementoseat_Hear nl nl ?_
 simp only [cz,A_mementoseat_Hear,argL,objL,List.length_nil,List.length_cons,Nat.zero_add,zX,simprocAttr]
 refine aR 16 ?_
 refine aw_reg 80 (RG.go fun Q hQ=>?_)
 simp (disch:=first | (intros;contradiction) | omega | (simp only [zN];omega)) only [zS,zW,simprocAttr]
 repeat refine ⟨by (omega),?_⟩
 refine hQ (RG.nil ?_)
 simp only [zX]
 refine aR 160 ?_
 refine aw_cond _ rfl trivial (fun ht=>by cases ht) (fun hf=>?_)
 refine aR 224 ?_
 refine aF ?_
 refine aR 288 ?_
 refine aT ?_
 refine aT ?_
 refine aB 352 ?_
 refine rO [0,1] [432] (cP) ?_
 refine aE ?_
 refine aR 624 ?_
 refine Fin.objs [] [] (.inr rfl) rfl (by exact ⟨trivial,trivial⟩) ?_ ?_ (by simp [objL,rlook]) (by (intro k hk;simp [objL,rlook];omega))
 ·simp only [zL,simprocAttr]
  all_goals ((repeat' (first | exact trivial | rfl | refine ⟨?_,?_⟩)))
 ·simp only [zL,simprocAttr]

end Go.Abs

namespace Go.Abs
open Go Go.Proofs
set_option maxRecDepth 100000
set_option linter.unusedSimpArgs false
set_option maxHeartbeats 8000000

theorem NewLog_con (cs : List Int) : Con Tryz.prog 84 [.agg [.v (.int .i64 0),.v (.int .i64 0),.sl (cs.map nrow),.v (.slice none 0 0)],.c (.v (.slice none 0 0))] [] (.c (.bp 0 0)) [.box [.v (.int .i64 0),.v (.int .i64 0),.sl (cs.map nrow),.v (.slice none 0 0),.v (.slice none 0 0)]]:=by
 refine C_mementoref6_NewLog nl nl ?_
 simp only [cz,A_mementoref6_NewLog,argL,objL,List.length_nil,Nat.zero_add,zX]
 refine aR 16 ?_
 refine aR 80 ?_
 refine aR 176 ?_
 refine aw_loopK (X:=Unit) [1,2,5] (fun i=>[(6,I 0)]) [16,112] (fun i=>[]) (fun i=>0) (()) ?_ ?_
 ·skip
  simp only [keepS,keepE,Option.getD_some,lk_cons,lkE_cons,List.cons_append,List.nil_append,simprocAttr]
  refine Le.lit [] [] _ _ ?_ ?_ ?_ ?_
  ·simp only [zL,simprocAttr]
  ·simp only [zL,simprocAttr]
  ·simp [rlook]
  ·(simp;done)
 rintro ⟨⟩
 simp only [keepS,keepE,Option.getD_some,lk_cons,lkE_cons,List.cons_append,List.nil_append,simprocAttr]
 simp only [zX]
 refine aw_draw 224 (RG.go fun Q hQ=>?_)
 simp (disch:=first | (intros;contradiction) | omega | (simp only [zN];omega)) only [zS,zW,simprocAttr]
 repeat refine ⟨by ((simp;done)),?_⟩
 refine hQ (RG.nil ⟨by decide +kernel,?_⟩)
 simp only [zX]
 refine aw_cond _ rfl trivial (fun ht=>by cases ht) (fun hf=>?_)
 simp only [zX,↓reduceIte]
 refine aR 528 ?_
 refine Fin.objs [] [(0,112)] (.inr rfl) rfl (by exact trivial) ?_ ?_ (by simp [objL,rlook]) (by (simp [objL,rlook];done))
 ·simp only [zL,simprocAttr]
 ·simp only [zL,simprocAttr]

theorem New_con (id : Int) (hid : id = 0∨id = 1∨id = 2) (cs : List Int) : Con Tryz.prog 61 [I id,I 1,.agg [.v (.int .i64 0),.v (.int .i64 (-1)),.v (.int .i64 0),.v (.int .i64 0),.sl (cs.map nrow),.v (.slice none 0 0),.v (.slice none 0 0)]] [] (.c (.bp 0 0)) [.box [.v (.int .i64 id),.v (.int .i64 1),.v (.int .i64 0),.v (.int .i64 (-1)),.bp 1 0,.v (.int .i64 0),.v (.int .i64 0),.v (.int .i64 0),.v (.int .i64 (-1)),.sl (([] : List Int).map nrow),.v (.int .i64 0),.v (.int .i64 0),.v (.int .i64 0),.v (.int .i64 0),.v (.int .i64 0),.v (.int .i64 0),.v (.int .i64 0),.v (.int .i64 0),.v (.int .i64 0),.v (.int .i64 0),.v (.int .i64 0),.v (.int .i64 0),.v (.int .i64 0),.v (.int .i64 0),.v (.int .i64 0),.v (.int .i64 0),.v (.slice none 0 0),.v (.slice none 0 0),.v (.bool false)],.box [.v (.int .i64 0),.v (.int .i64 0),.sl (cs.map nrow),.v (.slice none 0 0),.v (.slice none 0 0)]]:=by
 have cL:=NewLog_con cs
 have hm1 : (if (0 : Int) > id then (0 : Int) else id) = id:=by rcases hid with rfl | rfl | rfl <;> rfl
 have hm2 : (if (6 : Int) < id then (6 : Int) else id) = id:=by rcases hid with rfl | rfl | rfl <;> rfl
 refine C_mementoref12_New nl nl ?_
 simp only [cz,A_mementoref12_New,argL,objL,List.length_nil,Nat.zero_add,zX,simprocAttr]
 refine aR 16 ?_
 refine aBDs 80 (fun Q hQ=>by simp (disch:=intros;contradiction) only [zS,hm1,hm2,simprocAttr];exact hQ) ?_
 refine rO [] [] (cL) ?_
 refine aED ?_
 refine Fin.objs [] [(0,400),(1,272)] (.inr rfl) rfl (by exact trivial) ?_ ?_ (by simp [objL,rlook]) (by (simp [objL,rlook];done))
 ·simp only [zL,simprocAttr]
  all_goals (skip)
 ·simp only [zL,simprocAttr]

def mx0 (x : Int) : Int:=if x < 0 then 0 else x
theorem mx0_eq (x : Int) : (if x < 0 then 0 else x) = mx0 x:=rfl
theorem mx0_b {x : Int} {n : Int} (h : x≤n) (h0 : 0≤n) : 0≤mx0 x∧mx0 x≤n:=by unfold mx0;split <;> omega
theorem seat_Msg_lo (id : Int) (s : RS) (what a b c d : Nat) (h1 : what < 256) (h2 : a < 256) (h3 : b < 256) (h4 : c < 256) (h5 : d < 256) (cs : List Int) (hcs : cs = [0,1,2]) (hwh : what % 9 < 4∨what % 9 = 7) :
  ∃ m : MG,(Mok m∧m.es.length≤1000)∧Con Tryz.prog 20 [.c (.bp 0 0),.c (.v (.int .u8 what)),.c (.v (.int .u8 a)),.c (.v (.int .u8 b)),.c (.v (.int .u8 c)),.c (.v (.int .u8 d))] [.box [.v (.int .i64 id),.v (.int .i64 1),.v (.int .i64 0),.v (.int .i64 (-1)),.bp 1 0,.v (.int .i64 0),.v (.int .i64 0),.v (.int .i64 (s).role),.v (.int .i64 (s).lead),.sl ((s).ys.map nrow),.v (.int .i64 0),.v (.int .i64 0),.v (.int .i64 0),.v (.int .i64 0),.v (.int .i64 0),.v (.int .i64 0),.v (.int .i64 0),.v (.int .i64 0),.v (.int .i64 0),.v (.int .i64 0),.v (.int .i64 0),.v (.int .i64 0),.v (.int .i64 0),.v (.int .i64 0),.v (.int .i64 (s).sil),.v (.int .i64 0),.v (.slice none 0 0),.v (.slice none 0 0),.v (.bool false)],.box [.v (.int .i64 0),.v (.int .i64 0),.sl (cs.map nrow),.v (.slice none 0 0),.v (.slice none 0 0)]] (.agg (msgC m)) [.box [.v (.int .i64 id),.v (.int .i64 1),.v (.int .i64 0),.v (.int .i64 (-1)),.bp 1 0,.v (.int .i64 0),.v (.int .i64 0),.v (.int .i64 (s).role),.v (.int .i64 (s).lead),.sl ((s).ys.map nrow),.v (.int .i64 0),.v (.int .i64 0),.v (.int .i64 0),.v (.int .i64 0),.v (.int .i64 0),.v (.int .i64 0),.v (.int .i64 0),.v (.int .i64 0),.v (.int .i64 0),.v (.int .i64 0),.v (.int .i64 0),.v (.int .i64 0),.v (.int .i64 0),.v (.int .i64 0),.v (.int .i64 (s).sil),.v (.int .i64 0),.v (.slice none 0 0),.v (.slice none 0 0),.v (.bool false)],.box [.v (.int .i64 0),.v (.int .i64 0),.sl (cs.map nrow),.v (.slice none 0 0),.v (.slice none 0 0)]]:=by
 have r1 : ((what : Int).tmod 9) = ((what % 9 : Nat) : Int):=(Int.ofNat_tmod what 9).symm
 have r1e : ((what : Int) % 9) = ((what % 9 : Nat) : Int):=by omega
 generalize what % 9 = w at r1 r1e hwh
 have hA : ∃ A : Int,((a : Int) % 4) = A∧((a : Int).tmod 4) = A∧0≤A∧A < 4:=⟨(a : Int) % 4,rfl,by rw [Int.tmod_eq_emod_of_nonneg (by omega)],by omega,by omega⟩
 have hB : ∃ A : Int,((b : Int) % 4) = A∧((b : Int).tmod 4) = A∧0≤A∧A < 4:=⟨(b : Int) % 4,rfl,by rw [Int.tmod_eq_emod_of_nonneg (by omega)],by omega,by omega⟩
 have hC : ∃ A : Int,((c : Int) % 3) = A∧((c : Int).tmod 3) = A∧0≤A∧A < 3:=⟨(c : Int) % 3,rfl,by rw [Int.tmod_eq_emod_of_nonneg (by omega)],by omega,by omega⟩
 have hD : ∃ A : Int,((d : Int) % 3) = A∧((d : Int).tmod 3) = A∧0≤A∧A < 3:=⟨(d : Int) % 3,rfl,by rw [Int.tmod_eq_emod_of_nonneg (by omega)],by omega,by omega⟩
 have hC4 : ∃ A : Int,((c : Int) % 4) = A∧((c : Int).tmod 4) = A∧0≤A∧A < 4:=⟨(c : Int) % 4,rfl,by rw [Int.tmod_eq_emod_of_nonneg (by omega)],by omega,by omega⟩
 have hD4 : ∃ A : Int,((d : Int) % 4) = A∧((d : Int).tmod 4) = A∧0≤A∧A < 4:=⟨(d : Int) % 4,rfl,by rw [Int.tmod_eq_emod_of_nonneg (by omega)],by omega,by omega⟩
 obtain ⟨A4,hA4,hA4',hA40,hA41⟩:=hA
 obtain ⟨B4,hB4,hB4',hB40,hB41⟩:=hB
 obtain ⟨C3,hC3,hC3',hC30,hC31⟩:=hC
 obtain ⟨D3,hD3,hD3',hD30,hD31⟩:=hD
 obtain ⟨C4,hC4,hC4',hC40,hC41⟩:=hC4
 obtain ⟨D4,hD4,hD4',hD40,hD41⟩:=hD4
 obtain ⟨T,hT⟩ : ∃ T,mx0 (0 + B4 - 1) = T:=⟨_,rfl⟩
 have hTb:=mx0_b (x:=0 + B4 - 1) (n:=10) (by omega) (by omega)
 rw [hT] at hTb
 have cL:=Log_Last_con cs
 have cT:=Log_Term_con cs
 by_cases hw0 : w = 0
 ·subst hw0
  refine ⟨⟨1,1,A4,id,T,mx0 (0 + C3 - 1),mx0 (0 + D3 - 1),0,false,[],0,0,[],[],[],0,0,0,0⟩,⟨⟨by simp,by simp,by simp,by simp,⟨by simp,by simp,by simp⟩⟩,by simp⟩,?_⟩
  have hb1:=mx0_b (x:=0 + C3 - 1) (n:=10) (by omega) (by omega)
  have hb2:=mx0_b (x:=0 + D3 - 1) (n:=10) (by omega) (by omega)
  refine C_mementoseat_Msg nl nl ?_
  simp only [cz,A_mementoseat_Msg,argL,objL,List.length_nil,List.length_cons,Nat.zero_add,zX,simprocAttr]
  refine aR 16 ?_
  refine aB 64 ?_
  refine rO [1] [] (cL) ?_
  refine aE ?_
  refine aw_draw 192 (RG.go fun Q hQ=>?_)
  simp (disch:=first | (intros;contradiction) | omega | (simp only [zN];omega)) only [zS,zW,hA4,hB4,hT,mx0_eq,simprocAttr]
  repeat refine ⟨by (omega),?_⟩
  refine hQ (RG.nil ⟨by decide +kernel,?_⟩)
  simp only [zX]
  refine aw_reg 624 (RG.go fun Q hQ=>?_)
  simp (disch:=first | (intros;contradiction) | omega | (simp only [zN];omega)) only [zS,zW,r1e,simprocAttr]
  repeat refine ⟨by (omega),?_⟩
  refine hQ (RG.nil ?_)
  simp only [zX]
  refine aR 688 ?_
  refine aw_cond _ rfl trivial (fun ht=>?_) (fun hf=>by cases hf)
  refine aw_reg 752 (RG.go fun Q hQ=>?_)
  simp (disch:=first | (intros;contradiction) | omega | (simp only [zN];omega)) only [zS,zW,hC3,mx0_eq,simprocAttr]
  repeat refine ⟨by (omega),?_⟩
  refine hQ ?_
  refine rO [1] [] (cT) ?_
  refine RG.go fun Q hQ=>?_
  simp (disch:=first | (intros;contradiction) | omega | (simp only [zN];omega)) only [zS,zW,hD3,mx0_eq,simprocAttr]
  repeat refine ⟨by (omega),?_⟩
  refine hQ (RG.nil ?_)
  simp only [zX]
  refine aR 1184 ?_
  refine Fin.objs [] [] (.inr rfl) rfl (by exact ⟨trivial,trivial⟩) ?_ ?_ (by simp [objL,rlook]) (by (intro k hk;simp [objL,rlook];omega))
  ·simp only [zL,simprocAttr]
   all_goals ((repeat' (first | exact trivial | rfl | refine ⟨?_,?_⟩)))
  ·simp only [zL,simprocAttr]

 by_cases hw1 : w = 1
 ·subst hw1
  refine ⟨⟨2,1,A4,id,T,0,0,0,decide (0 < C3),[],0,0,[],[],[],0,0,0,0⟩,⟨⟨by simp,by simp,by simp,by simp,⟨by simp,by simp,by simp⟩⟩,by simp⟩,?_⟩
  refine C_mementoseat_Msg nl nl ?_
  simp only [cz,A_mementoseat_Msg,argL,objL,List.length_nil,List.length_cons,Nat.zero_add,zX,simprocAttr]
  refine aR 16 ?_
  refine aB 64 ?_
  refine rO [1] [] (cL) ?_
  refine aE ?_
  refine aw_draw 192 (RG.go fun Q hQ=>?_)
  simp (disch:=first | (intros;contradiction) | omega | (simp only [zN];omega)) only [zS,zW,hA4,hB4,hT,mx0_eq,simprocAttr]
  repeat refine ⟨by (omega),?_⟩
  refine hQ (RG.nil ⟨by decide +kernel,?_⟩)
  simp only [zX]
  refine aw_reg 624 (RG.go fun Q hQ=>?_)
  simp (disch:=first | (intros;contradiction) | omega | (simp only [zN];omega)) only [zS,zW,r1e,simprocAttr]
  repeat refine ⟨by (omega),?_⟩
  refine hQ (RG.nil ?_)
  simp only [zX]
  refine aR 688 ?_
  refine aF ?_
  refine aR 752 ?_
  refine aw_cond _ rfl trivial (fun ht=>?_) (fun hf=>by cases hf)
  refine aw_reg 816 (RG.go fun Q hQ=>?_)
  simp (disch:=first | (intros;contradiction) | omega | (simp only [zN];omega)) only [zS,zW,hC3,simprocAttr]
  repeat refine ⟨by (omega),?_⟩
  refine hQ (RG.nil ?_)
  simp only [zX]
  refine aR 960 ?_
  refine Fin.objs [] [] (.inr rfl) rfl (by exact ⟨trivial,trivial⟩) ?_ ?_ (by simp [objL,rlook]) (by (intro k hk;simp [objL,rlook];omega))
  ·simp only [zL,simprocAttr]
   all_goals ((repeat' (first | exact trivial | rfl | refine ⟨?_,?_⟩)))
  ·simp only [zL,simprocAttr]

 by_cases hw2 : w = 2
 ·subst hw2
  refine ⟨⟨3,1,A4,id,T,mx0 (0 + C3 - 1),mx0 (0 + D3 - 1),0,false,[],0,0,[],[],[],0,0,0,0⟩,⟨⟨by simp,by simp,by simp,by simp,⟨by simp,by simp,by simp⟩⟩,by simp⟩,?_⟩
  have hb1:=mx0_b (x:=0 + C3 - 1) (n:=10) (by omega) (by omega)
  have hb2:=mx0_b (x:=0 + D3 - 1) (n:=10) (by omega) (by omega)
  refine C_mementoseat_Msg nl nl ?_
  simp only [cz,A_mementoseat_Msg,argL,objL,List.length_nil,List.length_cons,Nat.zero_add,zX,simprocAttr]
  refine aR 16 ?_
  refine aB 64 ?_
  refine rO [1] [] (cL) ?_
  refine aE ?_
  refine aw_draw 192 (RG.go fun Q hQ=>?_)
  simp (disch:=first | (intros;contradiction) | omega | (simp only [zN];omega)) only [zS,zW,hA4,hB4,hT,mx0_eq,simprocAttr]
  repeat refine ⟨by (omega),?_⟩
  refine hQ (RG.nil ⟨by decide +kernel,?_⟩)
  simp only [zX]
  refine aw_reg 624 (RG.go fun Q hQ=>?_)
  simp (disch:=first | (intros;contradiction) | omega | (simp only [zN];omega)) only [zS,zW,r1e,simprocAttr]
  repeat refine ⟨by (omega),?_⟩
  refine hQ (RG.nil ?_)
  simp only [zX]
  refine aR 688 ?_
  refine aF ?_
  refine aR 752 ?_
  refine aF ?_
  refine aR 816 ?_
  refine aw_cond _ rfl trivial (fun ht=>?_) (fun hf=>by cases hf)
  refine aw_reg 880 (RG.go fun Q hQ=>?_)
  simp (disch:=first | (intros;contradiction) | omega | (simp only [zN];omega)) only [zS,zW,hC3,mx0_eq,simprocAttr]
  repeat refine ⟨by (omega),?_⟩
  refine hQ ?_
  refine rO [1] [] (cT) ?_
  refine RG.go fun Q hQ=>?_
  simp (disch:=first | (intros;contradiction) | omega | (simp only [zN];omega)) only [zS,zW,hD3,mx0_eq,simprocAttr]
  repeat refine ⟨by (omega),?_⟩
  refine hQ (RG.nil ?_)
  simp only [zX]
  refine aR 1312 ?_
  refine Fin.objs [] [] (.inr rfl) rfl (by exact ⟨trivial,trivial⟩) ?_ ?_ (by simp [objL,rlook]) (by (intro k hk;simp [objL,rlook];omega))
  ·simp only [zL,simprocAttr]
   all_goals ((repeat' (first | exact trivial | rfl | refine ⟨?_,?_⟩)))
  ·simp only [zL,simprocAttr]

 by_cases hw3 : w = 3
 ·subst hw3
  refine ⟨⟨4,1,A4,id,T,0,0,0,decide (0 < C4),[],0,0,[],[],[],0,0,0,0⟩,⟨⟨by simp,by simp,by simp,by simp,⟨by simp,by simp,by simp⟩⟩,by simp⟩,?_⟩
  refine C_mementoseat_Msg nl nl ?_
  simp only [cz,A_mementoseat_Msg,argL,objL,List.length_nil,List.length_cons,Nat.zero_add,zX,simprocAttr]
  refine aR 16 ?_
  refine aB 64 ?_
  refine rO [1] [] (cL) ?_
  refine aE ?_
  refine aw_draw 192 (RG.go fun Q hQ=>?_)
  simp (disch:=first | (intros;contradiction) | omega | (simp only [zN];omega)) only [zS,zW,hA4,hB4,hT,mx0_eq,simprocAttr]
  repeat refine ⟨by (omega),?_⟩
  refine hQ (RG.nil ⟨by decide +kernel,?_⟩)
  simp only [zX]
  refine aw_reg 624 (RG.go fun Q hQ=>?_)
  simp (disch:=first | (intros;contradiction) | omega | (simp only [zN];omega)) only [zS,zW,r1e,simprocAttr]
  repeat refine ⟨by (omega),?_⟩
  refine hQ (RG.nil ?_)
  simp only [zX]
  refine aR 688 ?_
  refine aF ?_
  refine aR 752 ?_
  refine aF ?_
  refine aR 816 ?_
  refine aF ?_
  refine aR 880 ?_
  refine aw_cond _ rfl trivial (fun ht=>?_) (fun hf=>by cases hf)
  refine aw_reg 944 (RG.go fun Q hQ=>?_)
  simp (disch:=first | (intros;contradiction) | omega | (simp only [zN];omega)) only [zS,zW,hC4,simprocAttr]
  repeat refine ⟨by (omega),?_⟩
  refine hQ (RG.nil ?_)
  simp only [zX]
  refine aR 1088 ?_
  refine Fin.objs [] [] (.inr rfl) rfl (by exact ⟨trivial,trivial⟩) ?_ ?_ (by simp [objL,rlook]) (by (intro k hk;simp [objL,rlook];omega))
  ·simp only [zL,simprocAttr]
   all_goals ((repeat' (first | exact trivial | rfl | refine ⟨?_,?_⟩)))
  ·simp only [zL,simprocAttr]

 have hQ : ∃ A : Int,((c : Int) / 4 % 2) = A∧(((c : Int).tdiv 4).tmod 2) = A∧0≤A∧A < 2:=⟨(c : Int) / 4 % 2,rfl,by rw [Int.tdiv_eq_ediv_of_nonneg (by omega),Int.tmod_eq_emod_of_nonneg (by omega)],by omega,by omega⟩
 have hS : ∃ A : Int,((c : Int) % 6) = A∧((c : Int).tmod 6) = A∧0≤A∧A < 6:=⟨(c : Int) % 6,rfl,by rw [Int.tmod_eq_emod_of_nonneg (by omega)],by omega,by omega⟩
 have hE : ∃ A : Int,((d : Int) % 2) = A∧((d : Int).tmod 2) = A∧0≤A∧A < 2:=⟨(d : Int) % 2,rfl,by rw [Int.tmod_eq_emod_of_nonneg (by omega)],by omega,by omega⟩
 obtain ⟨Q4,hQ4,hQ4',hQ40,hQ41⟩:=hQ
 obtain ⟨S6,hS6,hS6',hS60,hS61⟩:=hS
 obtain ⟨E2,hE2,hE2',hE20,hE21⟩:=hE
 by_cases hw7 : w = 7
 ·subst hw7
  refine ⟨⟨6,1,A4,id,T,mx0 (0 - D4 + Q4),0,0,decide (0 < C4),[],0,0,[],[],[],0,0,0,0⟩,⟨⟨by simp,by simp,by simp,by simp,⟨by simp,by simp,by simp⟩⟩,by simp⟩,?_⟩
  refine C_mementoseat_Msg nl nl ?_
  simp only [cz,A_mementoseat_Msg,argL,objL,List.length_nil,List.length_cons,Nat.zero_add,zX,simprocAttr]
  refine aR 16 ?_
  refine aB 64 ?_
  refine rO [1] [] (cL) ?_
  refine aE ?_
  refine aw_draw 192 (RG.go fun Q hQ=>?_)
  simp (disch:=first | (intros;contradiction) | omega | (simp only [zN];omega)) only [zS,zW,hA4,hB4,hT,mx0_eq,simprocAttr]
  repeat refine ⟨by (omega),?_⟩
  refine hQ (RG.nil ⟨by decide +kernel,?_⟩)
  simp only [zX]
  refine aw_reg 624 (RG.go fun Q hQ=>?_)
  simp (disch:=first | (intros;contradiction) | omega | (simp only [zN];omega)) only [zS,zW,r1e,simprocAttr]
  repeat refine ⟨by (omega),?_⟩
  refine hQ (RG.nil ?_)
  simp only [zX]
  refine aR 688 ?_
  refine aF ?_
  refine aR 752 ?_
  refine aF ?_
  refine aR 816 ?_
  refine aF ?_
  refine aR 880 ?_
  refine aF ?_
  refine aR 944 ?_
  refine aF ?_
  refine aR 1008 ?_
  refine aw_cond _ rfl trivial (fun ht=>by cases ht) (fun hf=>?_)
  refine aR 1072 ?_
  refine aF ?_
  refine aR 1136 ?_
  refine aw_cond _ rfl trivial (fun ht=>?_) (fun hf=>by cases hf)
  refine aw_reg 1200 (RG.go fun Q hQ=>?_)
  simp (disch:=first | (intros;contradiction) | omega | (simp only [zN];omega)) only [zS,zW,hC4,hD4,mx0_eq,hQ4,simprocAttr]
  repeat refine ⟨by (omega),?_⟩
  refine hQ (RG.nil ?_)
  simp only [zX]
  refine aR 1552 ?_
  refine Fin.objs [] [] (.inr rfl) rfl (by exact ⟨trivial,trivial⟩) ?_ ?_ (by simp [objL,rlook]) (by (intro k hk;simp [objL,rlook];omega))
  ·simp only [zL,simprocAttr]
   all_goals ((repeat' (first | exact trivial | rfl | refine ⟨?_,?_⟩)))
  ·simp only [zL,simprocAttr]

 omega

end Go.Abs

namespace Go.Abs
open Go Go.Proofs
set_option maxRecDepth 100000
set_option linter.unusedSimpArgs false
set_option maxHeartbeats 8000000

theorem seat_Msg_8 (id : Int) (s : RS) (what a b c d : Nat) (h1 : what < 256) (h2 : a < 256) (h3 : b < 256) (h4 : c < 256) (h5 : d < 256) (cs : List Int) (hcs : cs = [0,1,2]) (hwh : what % 9 = 8) :
  ∃ m : MG,(Mok m∧m.es.length≤1000)∧Con Tryz.prog 20 [.c (.bp 0 0),.c (.v (.int .u8 what)),.c (.v (.int .u8 a)),.c (.v (.int .u8 b)),.c (.v (.int .u8 c)),.c (.v (.int .u8 d))] [.box [.v (.int .i64 id),.v (.int .i64 1),.v (.int .i64 0),.v (.int .i64 (-1)),.bp 1 0,.v (.int .i64 0),.v (.int .i64 0),.v (.int .i64 (s).role),.v (.int .i64 (s).lead),.sl ((s).ys.map nrow),.v (.int .i64 0),.v (.int .i64 0),.v (.int .i64 0),.v (.int .i64 0),.v (.int .i64 0),.v (.int .i64 0),.v (.int .i64 0),.v (.int .i64 0),.v (.int .i64 0),.v (.int .i64 0),.v (.int .i64 0),.v (.int .i64 0),.v (.int .i64 0),.v (.int .i64 0),.v (.int .i64 (s).sil),.v (.int .i64 0),.v (.slice none 0 0),.v (.slice none 0 0),.v (.bool false)],.box [.v (.int .i64 0),.v (.int .i64 0),.sl (cs.map nrow),.v (.slice none 0 0),.v (.slice none 0 0)]] (.agg (msgC m)) [.box [.v (.int .i64 id),.v (.int .i64 1),.v (.int .i64 0),.v (.int .i64 (-1)),.bp 1 0,.v (.int .i64 0),.v (.int .i64 0),.v (.int .i64 (s).role),.v (.int .i64 (s).lead),.sl ((s).ys.map nrow),.v (.int .i64 0),.v (.int .i64 0),.v (.int .i64 0),.v (.int .i64 0),.v (.int .i64 0),.v (.int .i64 0),.v (.int .i64 0),.v (.int .i64 0),.v (.int .i64 0),.v (.int .i64 0),.v (.int .i64 0),.v (.int .i64 0),.v (.int .i64 0),.v (.int .i64 0),.v (.int .i64 (s).sil),.v (.int .i64 0),.v (.slice none 0 0),.v (.slice none 0 0),.v (.bool false)],.box [.v (.int .i64 0),.v (.int .i64 0),.sl (cs.map nrow),.v (.slice none 0 0),.v (.slice none 0 0)]]:=by
 have r1 : ((what : Int).tmod 9) = ((what % 9 : Nat) : Int):=(Int.ofNat_tmod what 9).symm
 have r1e : ((what : Int) % 9) = ((what % 9 : Nat) : Int):=by omega
 rw [hwh] at r1 r1e
 have hA : ∃ A : Int,((a : Int) % 4) = A∧((a : Int).tmod 4) = A∧0≤A∧A < 4:=⟨(a : Int) % 4,rfl,by rw [Int.tmod_eq_emod_of_nonneg (by omega)],by omega,by omega⟩
 have hB : ∃ A : Int,((b : Int) % 4) = A∧((b : Int).tmod 4) = A∧0≤A∧A < 4:=⟨(b : Int) % 4,rfl,by rw [Int.tmod_eq_emod_of_nonneg (by omega)],by omega,by omega⟩
 have hC : ∃ A : Int,((c : Int) % 3) = A∧((c : Int).tmod 3) = A∧0≤A∧A < 3:=⟨(c : Int) % 3,rfl,by rw [Int.tmod_eq_emod_of_nonneg (by omega)],by omega,by omega⟩
 have hD : ∃ A : Int,((d : Int) % 3) = A∧((d : Int).tmod 3) = A∧0≤A∧A < 3:=⟨(d : Int) % 3,rfl,by rw [Int.tmod_eq_emod_of_nonneg (by omega)],by omega,by omega⟩
 have hC4 : ∃ A : Int,((c : Int) % 4) = A∧((c : Int).tmod 4) = A∧0≤A∧A < 4:=⟨(c : Int) % 4,rfl,by rw [Int.tmod_eq_emod_of_nonneg (by omega)],by omega,by omega⟩
 have hD4 : ∃ A : Int,((d : Int) % 4) = A∧((d : Int).tmod 4) = A∧0≤A∧A < 4:=⟨(d : Int) % 4,rfl,by rw [Int.tmod_eq_emod_of_nonneg (by omega)],by omega,by omega⟩
 obtain ⟨A4,hA4,hA4',hA40,hA41⟩:=hA
 obtain ⟨B4,hB4,hB4',hB40,hB41⟩:=hB
 obtain ⟨C3,hC3,hC3',hC30,hC31⟩:=hC
 obtain ⟨D3,hD3,hD3',hD30,hD31⟩:=hD
 obtain ⟨C4,hC4,hC4',hC40,hC41⟩:=hC4
 obtain ⟨D4,hD4,hD4',hD40,hD41⟩:=hD4
 obtain ⟨T,hT⟩ : ∃ T,mx0 (0 + B4 - 1) = T:=⟨_,rfl⟩
 have hTb:=mx0_b (x:=0 + B4 - 1) (n:=10) (by omega) (by omega)
 rw [hT] at hTb
 have cL:=Log_Last_con cs
 have cT:=Log_Term_con cs
 have hQ : ∃ A : Int,((c : Int) / 4 % 2) = A∧(((c : Int).tdiv 4).tmod 2) = A∧0≤A∧A < 2:=⟨(c : Int) / 4 % 2,rfl,by rw [Int.tdiv_eq_ediv_of_nonneg (by omega),Int.tmod_eq_emod_of_nonneg (by omega)],by omega,by omega⟩
 have hS : ∃ A : Int,((c : Int) % 6) = A∧((c : Int).tmod 6) = A∧0≤A∧A < 6:=⟨(c : Int) % 6,rfl,by rw [Int.tmod_eq_emod_of_nonneg (by omega)],by omega,by omega⟩
 have hE : ∃ A : Int,((d : Int) % 2) = A∧((d : Int).tmod 2) = A∧0≤A∧A < 2:=⟨(d : Int) % 2,rfl,by rw [Int.tmod_eq_emod_of_nonneg (by omega)],by omega,by omega⟩
 obtain ⟨Q4,hQ4,hQ4',hQ40,hQ41⟩:=hQ
 obtain ⟨S6,hS6,hS6',hS60,hS61⟩:=hS
 obtain ⟨E2,hE2,hE2',hE20,hE21⟩:=hE
 obtain ⟨os,hos⟩ : ∃ os,os = ofS [0,1,2]:=⟨_,rfl⟩
 have hol : os.length≤3:=by rw [hos];exact ofS_len [0,1,2]
 have cF:=mementoref6_Of_con [0,1,2] (by simp)
 rw [← hos] at cF
 simp only [List.map_cons,List.map_nil,nrow] at cF
 have hb1:=mx0_b (x:=0 + S6 - 3) (n:=10) (by omega) (by omega)
 have hb2:=mx0_b (x:=T - E2) (n:=10) (by omega) (by omega)
 refine ⟨⟨7,1,A4,id,T,0,0,0,false,[],mx0 (0 + S6 - 3),mx0 (T - E2),os,[d],[],0,0,0,0⟩,⟨⟨by simp,by simp only;omega,by simp,by simp,⟨by simp,by simp;omega,by simp⟩⟩,by simp⟩,?_⟩
 refine C_mementoseat_Msg nl nl ?_
 simp only [cz,A_mementoseat_Msg,argL,objL,List.length_nil,List.length_cons,Nat.zero_add,zX,simprocAttr]
 refine aR 16 ?_
 refine aB 64 ?_
 refine rO [1] [] (cL) ?_
 refine aE ?_
 refine aw_draw 192 (RG.go fun Q hQ=>?_)
 simp (disch:=first | (intros;contradiction) | omega | (simp only [zN];omega)) only [zS,zW,hA4,hB4,hT,mx0_eq,simprocAttr]
 repeat refine ⟨by (omega),?_⟩
 refine hQ (RG.nil ⟨by decide +kernel,?_⟩)
 simp only [zX]
 refine aw_reg 624 (RG.go fun Q hQ=>?_)
 simp (disch:=first | (intros;contradiction) | omega | (simp only [zN];omega)) only [zS,zW,r1e,simprocAttr]
 repeat refine ⟨by (omega),?_⟩
 refine hQ (RG.nil ?_)
 simp only [zX]
 refine aR 688 ?_
 refine aF ?_
 refine aR 752 ?_
 refine aF ?_
 refine aR 816 ?_
 refine aF ?_
 refine aR 880 ?_
 refine aF ?_
 refine aR 944 ?_
 refine aF ?_
 refine aR 1008 ?_
 refine aw_cond _ rfl trivial (fun ht=>by cases ht) (fun hf=>?_)
 refine aR 1072 ?_
 refine aF ?_
 refine aR 1136 ?_
 refine aF ?_
 refine aR 1200 ?_
 refine aw_draw 1264 (RG.go fun Q hQ=>?_)
 simp (disch:=first | (intros;contradiction) | omega | (simp only [zN];omega)) only [zS,zW,mx0_eq,hS6,hE2,simprocAttr]
 repeat refine ⟨by (omega),?_⟩
 refine hQ ?_
 refine rO [] [1488] (cF) ?_
 refine aED ?_
 refine aR 1632 ?_
 refine Fin.objs [1504,1536] [] (.inr rfl) rfl (by exact ⟨trivial,trivial⟩) ?_ ?_ (by simp [objL,rlook]) (by (intro k hk;simp [objL,rlook];omega))
 ·simp only [zL,simprocAttr]
  all_goals ((repeat' (first | exact trivial | rfl | (refine ⟨⟨_,_,rfl⟩,?_⟩;(first | exact drows_brow _ | exact drows_nrow _)) | refine ⟨?_,?_⟩)))
 ·simp only [zL,simprocAttr]

end Go.Abs

namespace Go.Abs
open Go Go.Proofs
set_option maxRecDepth 100000
set_option linter.unusedSimpArgs false
set_option maxHeartbeats 8000000

theorem MsgPut_con (m : MG) (hm : Mok m) : Con Tryz.prog 11 [.agg (msgC m)] [] (.tup [.c (.sl ((putM m).1.map brow)),I (putM m).2]) []:=by
 have cR:=MsgRight_con m hm
 refine C_mementoref6_MsgPut nl nl ?_
 simp only [cz,A_mementoref6_MsgPut,argL,objL,List.length_nil,zX]
 refine aS 16 (fun Q hQ=>by simp (disch:=intros;contradiction) only [zS,msgC,simprocAttr];exact hQ) ?_
 refine aB 96 ?_
 refine rC [] (cR) ?_
 refine aE ?_
 refine aw_cond _ rfl trivial (fun ht=>?_) (fun hf=>?_)
 ·skip
  try simp at ht
  simp only [zX]
  rw [show putM m = ([],23) by unfold putM;rw [if_neg (by simp [ht])]]
  refine aR 176 ?_
  refine Fin.data [] (.inr rfl) rfl (by (exact trivial)) ?_
  simp only [zL,simprocAttr]
  all_goals (simp)
 try simp at hf
 simp only [zX]
 have hpr : rightM m = true:=by simpa using hf
 have F:=rightM_facts hpr
 have k1:=F.k1;have k9:=F.k9;have g0:=F.g0;have g7:=F.g7;have f0:=F.f0;have f6:=F.f6;have t0:=F.t0;have t6:=F.t6
 have te:=F.term;have ix:=F.idx;have lt:=F.lterm;have co:=F.com;have ma:=F.mark;have fl:=F.floor;have e4:=F.es4;have dl:=F.d
 have v0:=F.v0;have v7:=F.v7;have c0:=F.c0;have c255:=F.c255
 have hH:=headM_len F
 rw [show putM m = (sealB (bodyM m),0) by unfold putM;rw [if_pos hpr]]
 have hok : (if m.ok then 1 else 0 : Nat)≤1:=by split <;> omega
 have cP:=mementoref1_Put_con [m.kind.toNat,m.grp.toNat,m.frm.toNat,m.to.toNat,m.term.toNat,m.idx.toNat,m.lterm.toNat,m.com.toNat,(if m.ok then 1 else 0),m.es.length] (by simp) (by
  intro n hn
  simp only [List.mem_cons,List.not_mem_nil,or_false] at hn
  omega)
 rw [show putS [m.kind.toNat,m.grp.toNat,m.frm.toNat,m.to.toNat,m.term.toNat,m.idx.toNat,m.lterm.toNat,m.com.toNat,(if m.ok then 1 else 0),m.es.length] = headM m from rfl] at cP
 simp only [List.map_cons,List.map_nil,urow,Int.toNat_of_nonneg (show 0≤m.kind by omega),Int.toNat_of_nonneg g0,Int.toNat_of_nonneg f0,Int.toNat_of_nonneg t0,Int.toNat_of_nonneg te.1,Int.toNat_of_nonneg ix.1,Int.toNat_of_nonneg lt.1,Int.toNat_of_nonneg co.1] at cP
 have hu : ∀ {n : Int},0≤n→n≤1099511627776→IntKind.u64.wrap n = n:=fun h1 h2=>by rw [w_u64];omega
 have u1:=hu (n:=m.kind) (by omega) (by omega)
 have u2:=hu (n:=m.grp) (by omega) (by omega)
 have u3:=hu (n:=m.frm) (by omega) (by omega)
 have u4:=hu (n:=m.to) (by omega) (by omega)
 have u5:=hu (n:=m.term) (by omega) (by omega)
 have u6:=hu (n:=m.idx) (by omega) (by omega)
 have u7:=hu (n:=m.lterm) (by omega) (by omega)
 have u8:=hu (n:=m.com) (by omega) (by omega)
 have u9:=hu (n:=m.vol) (by omega) (by omega)
 have u10:=hu (n:=m.chk) (by omega) (by omega)
 have u11:=hu (n:=m.mark) (by omega) (by omega)
 have u12:=hu (n:=m.floor) (by omega) (by omega)
 have u13:=hu (n:=(m.es.length : Int)) (by omega) (by omega)
 refine aBDs 240 (fun Q hQ=>by simp (disch:=intros;contradiction) only [zS,u1,u2,u3,u4,u5,u6,u7,u8,simprocAttr];exact hQ) ?_
 refine rC [] (bit_con m.ok) ?_
 refine aMs (fun Q hQ=>by simp (disch:=intros;contradiction) only [zS,zW,u13,simprocAttr];exact hQ) ?_
 refine rO [] [736] (cP) ?_
 refine aED ?_
 refine aR 816 ?_
 refine aw_loopK (X:={ i : Nat // i≤m.es.length }) [1] (fun i=>[(4,.c (.osl 5000)),(5,I i.1)]) [16] (fun i=>[(5000,.arr 5 1 ((headM m ++ esB (m.es.take i.1)).map brow) false)]) (fun i=>m.es.length - i.1) (⟨0,by omega⟩) ?_ ?_
 ·skip
  simp only [keepS,keepE,Option.getD_some,lk_cons,lkE_cons,List.cons_append,List.nil_append,simprocAttr]
  refine Le.lit [] [(5000,752)] _ _ ?_ ?_ ?_ ?_
  ·simp only [zL,simprocAttr]
  ·simp only [zL,simprocAttr]
   all_goals (simp [esB];(repeat' (((simp [brow,C.isD];done)))))
  ·simp [rlook]
  ·(simp;done)
 rintro ⟨i,hi⟩
 simp only [keepS,keepE,Option.getD_some,lk_cons,lkE_cons,List.cons_append,List.nil_append,simprocAttr]
 simp only [zX]
 refine aS 864 (fun Q hQ=>by simp (disch:=intros;contradiction) only [zS,zW,simprocAttr];exact hQ) ?_
 refine aw_cond _ rfl trivial (fun ht=>?_) (fun hf=>?_)
 ·skip
  try simp at ht
  simp only [zX]
  have hi' : i < m.es.length:=by omega
  obtain ⟨w,hw⟩ : ∃ w,m.es[i] = w:=⟨_,rfl⟩
  have cW:=mementoref6_PutEntry_con w.i w.t w.k w.d
  have hsucc:=esB_succ m.es i hi'
  rw [hw] at hsucc
  have e1:=esB_len (m.es.take i)
  simp only [List.length_take] at e1
  have e2 : (headM m ++ esB (m.es.take i)).map brow ++ (putE w.i w.t w.k w.d).map brow = (headM m ++ esB (m.es.take (i + 1))).map brow:=by rw [← List.map_append,hsucc,List.append_assoc];rfl
  have e3:=putE_len (i:=w.i) (t:=w.t) (k:=w.k) (d:=w.d)
  refine aBs 976 (fun Q hQ=>by simp (disch:=first | (intros;contradiction) | omega | (simp only [zN];omega)) only [zS,zW,erow,hw,simprocAttr];repeat refine ⟨by (omega),?_⟩;exact hQ) ?_
  refine rC [] (cW) ?_ (hs:=(by exact .inr ⟨rfl,trivial⟩))
  refine RG.go fun Q hQ=>?_
  simp (disch:=intros;contradiction) only [zS,zW,e2,simprocAttr]
  refine ⟨⟨brow_len _,by omega⟩,hQ (RG.nil ?_)⟩
  simp only [zX]
  refine aS 1152 (fun Q hQ=>by simp (disch:=first | (intros;contradiction) | omega | (simp only [zN];omega)) only [zS,zW,simprocAttr];exact hQ) ?_
  refine ⟨⟨i + 1,hi'⟩,?_,by first | omega | (simp only;omega)⟩
  refine Le.lit [] [(5000,1088)] _ _ ?_ ?_ ?_ ?_
  ·simp only [zL,simprocAttr]
   all_goals (try ((repeat' (rfl))))
  ·simp only [zL,simprocAttr]
   all_goals (try ((repeat' ((exact drows_brow _)))))
  ·simp [rlook]
  ·(simp;done)
 try simp at hf
 simp only [zY,↓reduceIte]
 obtain rfl : i = m.es.length:=by omega
 rw [List.take_length]
 have e1:=esB_len m.es
 have hmi:=midM_len m
 obtain ⟨A,hA⟩ : ∃ A,A = headM m ++ esB m.es ++ midM m:=⟨_,rfl⟩
 have hAl : A.length≤1000000:=by rw [hA];simp only [List.length_append];omega
 have hd7:=num7_len m.d.length (by omega)
 have htl:=tailM_len F
 have cL:=mementoref1_Lump_con m.d (by omega)
 have cT:=mementoref1_Put_con [m.vol.toNat,m.chk.toNat,m.mark.toNat,m.floor.toNat] (by simp) (by
  intro n hn
  simp only [List.mem_cons,List.not_mem_nil,or_false] at hn
  omega)
 rw [show putS [m.vol.toNat,m.chk.toNat,m.mark.toNat,m.floor.toNat] = tailM m from rfl] at cT
 simp only [List.map_cons,List.map_nil,urow,Int.toNat_of_nonneg v0,Int.toNat_of_nonneg c0,Int.toNat_of_nonneg ma.1,Int.toNat_of_nonneg fl.1] at cT
 have q1 : A.map brow ++ (num7 m.d.length ++ m.d).map brow = (A ++ (num7 m.d.length ++ m.d)).map brow:=by rw [← List.map_append]
 have q2 : (A ++ (num7 m.d.length ++ m.d)).map brow ++ (tailM m).map brow = (bodyM m).map brow:=by rw [← List.map_append,hA];unfold bodyM;simp
 have cS:=mementoref1_Seal_con (bodyM m) (bodyM_by hm.by') (by have:=bodyM_len F;omega)
 refine aw_joinS (Y:=Unit) [1] (fun z=>[(4,.c (.osl 5000))]) [16] (fun z=>[(5000,.arr 5 1 (A.map brow) false)]) (by (repeat' (exact cl_fin))) ?_ ?_
 ·skip
  simp only [zX]
  by_cases hk : m.kind = 7
  ·skip
   have hbk : (m.kind == 7) = true:=by rw [hk];rfl
   have hpb:=putB_len (i:=m.bi) (t:=m.bt) (c:=m.bc) (d:=m.bd)
   have hm1 : midM m = [1] ++ putB m.bi m.bt m.bc m.bd:=by unfold midM;rw [if_pos hk];rfl
   have cB:=mementoref6_PutBase_con m.bi m.bt m.bc m.bd (by have:=hm.bc;omega)
   have hq1 : (headM m ++ esB m.es).map brow ++ [[.v (.int .u8 1)]] = (headM m ++ esB m.es ++ [1]).map brow:=by simp [brow]
   have hq2 : (headM m ++ esB m.es ++ [1]).map brow ++ (putB m.bi m.bt m.bc m.bd).map brow = A.map brow:=by rw [← List.map_append,hA,hm1];simp
   refine aS 1232 (fun Q hQ=>by simp (disch:=intros;contradiction) only [zS,hbk,simprocAttr];exact hQ) ?_
   refine aw_cond _ rfl trivial (fun ht=>?_) (fun hf=>by cases hf)
   refine aBDs 1312 (fun Q hQ=>by simp (disch:=intros;contradiction) only [zS,zW,hq1,simprocAttr];repeat refine ⟨by ((simp;omega)),?_⟩;exact hQ) ?_
   refine rC [] (cB) ?_ (hs:=(by exact .inr ⟨rfl,trivial⟩))
   refine RG.go fun Q hQ=>?_
   simp (disch:=intros;contradiction) only [zS,zW,hq2,simprocAttr]
   refine ⟨⟨brow_len _,by omega⟩,hQ (RG.nil ⟨by decide +kernel,?_⟩)⟩
   simp only [zX]
   refine ⟨(),?_⟩
   simp only [keepS,keepE,Option.getD_some,lk_cons,lkE_cons,List.cons_append,List.nil_append,simprocAttr]
   refine Le.lit [] [(5000,1408)] _ _ ?_ ?_ ?_ ?_
   ·simp only [zL,simprocAttr]
   ·simp only [zL,simprocAttr]
    all_goals (try ((repeat' ((exact drows_brow _)))))
   ·simp [rlook]
   ·(simp;done)
  have hbk : (m.kind == 7) = false:=by simpa using hk
  have hm1 : midM m = [0]:=by unfold midM;rw [if_neg hk]
  have hq1 : (headM m ++ esB m.es).map brow ++ [[.v (.int .u8 0)]] = A.map brow:=by rw [hA,hm1];simp [brow]
  refine aS 1472 (fun Q hQ=>by simp (disch:=intros;contradiction) only [zS,hbk,simprocAttr];exact hQ) ?_
  refine aw_cond _ rfl trivial (fun ht=>by cases ht) (fun hf=>?_)
  refine aw_reg 1552 (RG.go fun Q hQ=>?_)
  simp (disch:=intros;contradiction) only [zS,zW,hq1,simprocAttr]
  refine ⟨⟨by simp,by omega⟩,hQ (RG.nil ?_)⟩
  simp only [zX]
  refine ⟨(),?_⟩
  simp only [keepS,keepE,Option.getD_some,lk_cons,lkE_cons,List.cons_append,List.nil_append,simprocAttr]
  refine Le.lit [] [(5000,1584)] _ _ ?_ ?_ ?_ ?_
  ·simp only [zL,simprocAttr]
  ·simp only [zL,simprocAttr]
   all_goals (try ((repeat' ((exact drows_brow _)))))
  ·simp [rlook]
  ·(simp;done)
 rintro ⟨⟩
 simp only [keepS,keepE,Option.getD_some,lk_cons,lkE_cons,List.cons_append,List.nil_append,simprocAttr]
 simp only [zX]
 refine aB 1648 ?_
 refine rO [] [] (cL) ?_
 refine RG.go fun Q hQ=>?_
 simp (disch:=intros;contradiction) only [zS,zW,q1,simprocAttr]
 refine ⟨⟨brow_len _,by omega⟩,hQ (RG.nil ?_)⟩
 simp only [zX]
 refine aBs 1776 (fun Q hQ=>by simp (disch:=intros;contradiction) only [zS,u9,u10,u11,u12,simprocAttr];exact hQ) ?_
 refine rO [] [1984] (cT) ?_
 refine RG.go fun Q hQ=>?_
 simp (disch:=intros;contradiction) only [zS,zW,q2,simprocAttr]
 refine ⟨⟨brow_len _,by omega⟩,hQ (RG.nil ?_)⟩
 simp only [zX]
 refine aB 2080 ?_
 refine rO [] [2016] (cS) ?_
 refine aE ?_
 refine Fin.data [2096] (.inr rfl) rfl (by (exact trivial)) ?_
 simp only [zL,simprocAttr]
 all_goals (exact ⟨⟨_,_,rfl⟩,drows_brow _⟩)

end Go.Abs

namespace Go.Abs
open Go Go.Proofs
set_option maxRecDepth 100000
set_option linter.unusedSimpArgs false
set_option maxHeartbeats 8000000

def setT (t : Int) (e : EN) : EN:=⟨e.i,t,e.k,e.d⟩
def mixE (t : Int) (l : List EN) (i : Nat) : List EN:=(l.take i).map (setT t) ++ l.drop i
theorem mixE_zero (t : Int) (l : List EN) : mixE t l 0 = l:=by unfold mixE;simp
theorem mixE_all (t : Int) (l : List EN) : mixE t l l.length = l.map (setT t):=by unfold mixE;simp
theorem mixE_step (t : Int) (l : List EN) (i : Nat) (h : i < l.length) (h' : i < (mixE t l i).length) :
  ((mixE t l i).map erow).set i (List.take 1 (erow ((mixE t l i)[i])) ++ [C.v (.int .i64 t)] ++ List.drop 2 (erow ((mixE t l i)[i]))) = (mixE t l (i + 1)).map erow:=by
 have hq : (mixE t l i)[i]? = some l[i]:=by
  unfold mixE
  rw [List.getElem?_append_right (by simp;omega)]
  simp only [List.length_map,List.length_take]
  rw [show i - min i l.length = 0 by omega,List.getElem?_drop]
  simp [h]
 have hx : (mixE t l i)[i] = l[i]:=by
  rw [List.getElem?_eq_getElem h'] at hq;exact Option.some.inj hq
 rw [hx]
 have h1 : mixE t l (i + 1) = (l.take i).map (setT t) ++ (setT t l[i] :: l.drop (i + 1)):=by
  unfold mixE;rw [take_one _ _ h,List.map_append];simp
 have h2 : mixE t l i = (l.take i).map (setT t) ++ (l[i] :: l.drop (i + 1)):=by
  unfold mixE;rw [List.drop_eq_getElem_cons h]
 rw [h1,h2,List.map_append,List.map_append,List.set_append_right _ _ (by simp;omega)]
 congr 1
 have hl : i - ((l.take i).map (setT t)).length = 0:=by simp;omega
 simp only [List.length_map,List.length_take,List.map_cons]
 rw [show i - min i l.length = 0 by omega]
 rfl
theorem entsN_by {l : List Nat} (h : ∀ x ∈ l,x < 256) : ∀ e ∈ entsN 1 l l.length,∀ x ∈ e.d,x < 256:=by
 intro e he x hx
 unfold entsN at he
 obtain ⟨i,hi,rfl⟩:=List.mem_map.1 he
 have hi' : i < l.length:=by simpa using hi
 have hg : l.getD i 0 < 256:=by
  rw [List.getD_eq_getElem?_getD,List.getElem?_eq_getElem hi']
  exact h _ (List.getElem_mem hi')
 unfold entAt at hx
 split at hx
 ·simp only [List.mem_cons,List.not_mem_nil,or_false] at hx;omega
 ·split at hx
  ·simp only [List.mem_cons,List.not_mem_nil,or_false] at hx;omega
  ·cases hx
theorem mixE_len (t : Int) (l : List EN) (i : Nat) : (mixE t l i).length = l.length:=by unfold mixE;simp;omega
theorem seat_Msg_A (id : Int) (s : RS) (what a b c d : Nat) (h1 : what < 256) (h2 : a < 256) (h3 : b < 256) (h4 : c < 256) (h5 : d < 256) (cs : List Int) (hcs : cs = [0,1,2]) (hwh : what % 9 = 4∨what % 9 = 5∨what % 9 = 6) :
  ∃ m : MG,(Mok m∧m.es.length≤1000)∧Con Tryz.prog 20 [.c (.bp 0 0),.c (.v (.int .u8 what)),.c (.v (.int .u8 a)),.c (.v (.int .u8 b)),.c (.v (.int .u8 c)),.c (.v (.int .u8 d))] [.box [.v (.int .i64 id),.v (.int .i64 1),.v (.int .i64 0),.v (.int .i64 (-1)),.bp 1 0,.v (.int .i64 0),.v (.int .i64 0),.v (.int .i64 (s).role),.v (.int .i64 (s).lead),.sl ((s).ys.map nrow),.v (.int .i64 0),.v (.int .i64 0),.v (.int .i64 0),.v (.int .i64 0),.v (.int .i64 0),.v (.int .i64 0),.v (.int .i64 0),.v (.int .i64 0),.v (.int .i64 0),.v (.int .i64 0),.v (.int .i64 0),.v (.int .i64 0),.v (.int .i64 0),.v (.int .i64 0),.v (.int .i64 (s).sil),.v (.int .i64 0),.v (.slice none 0 0),.v (.slice none 0 0),.v (.bool false)],.box [.v (.int .i64 0),.v (.int .i64 0),.sl (cs.map nrow),.v (.slice none 0 0),.v (.slice none 0 0)]] (.agg (msgC m)) [.box [.v (.int .i64 id),.v (.int .i64 1),.v (.int .i64 0),.v (.int .i64 (-1)),.bp 1 0,.v (.int .i64 0),.v (.int .i64 0),.v (.int .i64 (s).role),.v (.int .i64 (s).lead),.sl ((s).ys.map nrow),.v (.int .i64 0),.v (.int .i64 0),.v (.int .i64 0),.v (.int .i64 0),.v (.int .i64 0),.v (.int .i64 0),.v (.int .i64 0),.v (.int .i64 0),.v (.int .i64 0),.v (.int .i64 0),.v (.int .i64 0),.v (.int .i64 0),.v (.int .i64 0),.v (.int .i64 0),.v (.int .i64 (s).sil),.v (.int .i64 0),.v (.slice none 0 0),.v (.slice none 0 0),.v (.bool false)],.box [.v (.int .i64 0),.v (.int .i64 0),.sl (cs.map nrow),.v (.slice none 0 0),.v (.slice none 0 0)]]:=by
 have r1 : ((what : Int).tmod 9) = ((what % 9 : Nat) : Int):=(Int.ofNat_tmod what 9).symm
 have r1e : ((what : Int) % 9) = ((what % 9 : Nat) : Int):=by omega
 generalize what % 9 = w at r1 r1e hwh
 have hA : ∃ A : Int,((a : Int) % 4) = A∧((a : Int).tmod 4) = A∧0≤A∧A < 4:=⟨(a : Int) % 4,rfl,by rw [Int.tmod_eq_emod_of_nonneg (by omega)],by omega,by omega⟩
 have hB : ∃ A : Int,((b : Int) % 4) = A∧((b : Int).tmod 4) = A∧0≤A∧A < 4:=⟨(b : Int) % 4,rfl,by rw [Int.tmod_eq_emod_of_nonneg (by omega)],by omega,by omega⟩
 have hC : ∃ A : Int,((c : Int) % 3) = A∧((c : Int).tmod 3) = A∧0≤A∧A < 3:=⟨(c : Int) % 3,rfl,by rw [Int.tmod_eq_emod_of_nonneg (by omega)],by omega,by omega⟩
 have hD : ∃ A : Int,((d : Int) % 3) = A∧((d : Int).tmod 3) = A∧0≤A∧A < 3:=⟨(d : Int) % 3,rfl,by rw [Int.tmod_eq_emod_of_nonneg (by omega)],by omega,by omega⟩
 have hC4 : ∃ A : Int,((c : Int) % 4) = A∧((c : Int).tmod 4) = A∧0≤A∧A < 4:=⟨(c : Int) % 4,rfl,by rw [Int.tmod_eq_emod_of_nonneg (by omega)],by omega,by omega⟩
 have hD4 : ∃ A : Int,((d : Int) % 4) = A∧((d : Int).tmod 4) = A∧0≤A∧A < 4:=⟨(d : Int) % 4,rfl,by rw [Int.tmod_eq_emod_of_nonneg (by omega)],by omega,by omega⟩
 obtain ⟨A4,hA4,hA4',hA40,hA41⟩:=hA
 obtain ⟨B4,hB4,hB4',hB40,hB41⟩:=hB
 obtain ⟨C3,hC3,hC3',hC30,hC31⟩:=hC
 obtain ⟨D3,hD3,hD3',hD30,hD31⟩:=hD
 obtain ⟨C4,hC4,hC4',hC40,hC41⟩:=hC4
 obtain ⟨D4,hD4,hD4',hD40,hD41⟩:=hD4
 obtain ⟨T,hT⟩ : ∃ T,mx0 (0 + B4 - 1) = T:=⟨_,rfl⟩
 have hTb:=mx0_b (x:=0 + B4 - 1) (n:=10) (by omega) (by omega)
 rw [hT] at hTb
 have cL:=Log_Last_con cs
 have cT:=Log_Term_con cs
 have h7 : ∃ A : Int,((d : Int) % 7) = A∧((d : Int).tmod 7) = A:=⟨(d : Int) % 7,rfl,by rw [Int.tmod_eq_emod_of_nonneg (by omega)]⟩
 obtain ⟨D7,hD7,hD7'⟩:=h7
 have h2' : ∃ A : Int,((c : Int) % 2) = A∧((c : Int).tmod 2) = A∧0≤A∧A < 2:=⟨(c : Int) % 2,rfl,by rw [Int.tmod_eq_emod_of_nonneg (by omega)],by omega,by omega⟩
 obtain ⟨C2,hC2,hC2',hC20,hC21⟩:=h2'
 obtain ⟨CM,hCM⟩ : ∃ x,mx0 (0 - D3 + 1) = x:=⟨_,rfl⟩
 have hCMb:=mx0_b (x:=0 - D3 + 1) (n:=10) (by omega) (by omega)
 rw [hCM] at hCMb
 have hz : mx0 (0 - C4) = 0:=by unfold mx0;split <;> omega
 obtain ⟨LT,hLT⟩ : ∃ x : Int,x = if D7 = 6 then 1 else 0:=⟨_,rfl⟩
 have hLTb : 0≤LT∧LT≤1:=by rw [hLT];split <;> omega
 obtain ⟨l,hl⟩ : ∃ l : List Nat,l = [c,d,a].take (d % 4):=⟨_,rfl⟩
 have hll : l.length≤3:=by rw [hl];simp;omega
 have hl8 : ∀ x ∈ l,x < 256:=fun x hx=>by
  rw [hl] at hx
  have:=List.mem_of_mem_take hx
  simp only [List.mem_cons,List.not_mem_nil,or_false] at this
  omega
 have cE:=Entries_con 1 l (by omega) (by omega) (by omega) hl8
 obtain ⟨TT,hTT⟩ : ∃ x : Int,mx0 (if T - C2 < LT then LT else T - C2) = x:=⟨_,rfl⟩
 have hby:=entsN_by hl8
 obtain ⟨E0,hE0⟩ : ∃ x,x = entsN 1 l l.length:=⟨_,rfl⟩
 rw [← hE0] at cE hby
 have hE0l : E0.length = l.length:=by rw [hE0];unfold entsN;simp
 have hmb : ∀ e ∈ E0.map (setT TT),∀ x ∈ e.d,x < 256:=fun e he=>by
  obtain ⟨y,hy,rfl⟩:=List.mem_map.1 he
  exact hby y hy
 refine ⟨⟨5,1,A4,id,T,0,LT,CM,false,E0.map (setT TT),0,0,[],[],[],0,0,0,0⟩,⟨⟨by simp;omega,by simp,by simp,by simp,⟨hmb,by simp,by simp⟩⟩,by simp;omega⟩,?_⟩
 refine C_mementoseat_Msg nl nl ?_
 simp only [cz,A_mementoseat_Msg,argL,objL,List.length_nil,List.length_cons,Nat.reduceAdd,Nat.zero_add,zX]
 refine aS 16 (fun Q hQ=>by simp (disch:=intros;contradiction) only [zS,reduceCtorEq,Nat.reduceAdd,Nat.reduceEqDiff,Int.reduceNeg,↓reduceIte];exact hQ) ?_
 refine aBs 64 (fun Q hQ=>by simp (disch:=intros;contradiction) only [zS,reduceCtorEq,Nat.reduceAdd,Nat.reduceEqDiff,Int.reduceNeg,↓reduceIte];exact hQ) ?_
 refine rO [1] [] (cL) ?_
 refine aEs (fun Q hQ=>by simp (disch:=intros;contradiction) only [zS,reduceCtorEq,Nat.reduceAdd,Nat.reduceEqDiff,Int.reduceNeg,↓reduceIte];exact hQ) ?_
 refine aw_draw 192 (RG.go fun Q hQ=>?_)
 simp (disch:=first | (intros;contradiction) | omega | (simp only [zN];omega)) only [zS,zW,reduceCtorEq,Nat.reduceAdd,Nat.reduceEqDiff,Nat.reduceLeDiff,Int.reduceNeg,↓reduceIte,hA4,hB4,hT,mx0_eq]
 repeat refine ⟨by (omega),?_⟩
 refine hQ (RG.nil ⟨by decide +kernel,?_⟩)
 simp only [zX]
 refine aS 624 (fun Q hQ=>by simp (disch:=first | (intros;contradiction) | omega | (simp only [zN];omega)) only [zS,zW,reduceCtorEq,Nat.reduceAdd,Nat.reduceEqDiff,Int.reduceNeg,↓reduceIte,r1e];repeat refine ⟨by (omega),?_⟩;exact hQ) ?_
 refine aS 688 (fun Q hQ=>by simp (disch:=intros;contradiction) only [zS,reduceCtorEq,Nat.reduceAdd,Nat.reduceEqDiff,Int.reduceNeg,↓reduceIte];exact hQ) ?_
 refine aw_cond _ rfl trivial (fun ht=>by simp at ht;omega) (fun hf=>?_)
 simp only [zX]
 refine aS 752 (fun Q hQ=>by simp (disch:=intros;contradiction) only [zS,reduceCtorEq,Nat.reduceAdd,Nat.reduceEqDiff,Int.reduceNeg,↓reduceIte];exact hQ) ?_
 refine aw_cond _ rfl trivial (fun ht=>by simp at ht;omega) (fun hf=>?_)
 simp only [zX]
 refine aS 816 (fun Q hQ=>by simp (disch:=intros;contradiction) only [zS,reduceCtorEq,Nat.reduceAdd,Nat.reduceEqDiff,Int.reduceNeg,↓reduceIte];exact hQ) ?_
 refine aw_cond _ rfl trivial (fun ht=>by simp at ht;omega) (fun hf=>?_)
 simp only [zX]
 refine aS 880 (fun Q hQ=>by simp (disch:=intros;contradiction) only [zS,reduceCtorEq,Nat.reduceAdd,Nat.reduceEqDiff,Int.reduceNeg,↓reduceIte];exact hQ) ?_
 refine aw_cond _ rfl trivial (fun ht=>by simp at ht;omega) (fun hf=>?_)
 refine aw_joinS (Y:=Unit) [0,2,4,5,12,13,14,45] (fun z=>[(129,B true)]) [0,1,16,560] (fun z=>[]) (by (repeat' (first | exact cl_fin | refine cl_then ?_ ?_ | refine cl_block ?_))) ?_ ?_
 ·skip
  simp only [zX]
  refine aS 944 (fun Q hQ=>by simp (disch:=intros;contradiction) only [zS,reduceCtorEq,Nat.reduceAdd,Nat.reduceEqDiff,Int.reduceNeg,↓reduceIte];exact hQ) ?_
  refine aw_cond _ rfl trivial (fun ht=>?_) (fun hf=>?_)
  ·skip
   try simp at ht
   simp only [zX]
   refine ⟨(),?_⟩
   simp only [keepS,keepE,Option.getD_some,lk_cons,lkE_cons,List.cons_append,List.nil_append,Nat.reduceEqDiff,↓reduceIte,reduceCtorEq]
   refine Le.lit [] [] _ _ ?_ ?_ ?_ ?_
   ·simp only [zL,Nat.reduceEqDiff,↓reduceIte,reduceCtorEq]
    all_goals ((simp [ht];done);skip)
   ·simp only [zL,Nat.reduceEqDiff,↓reduceIte,reduceCtorEq]
   ·simp [rlook]
   ·(intro k hk;simp [rlook];omega)
  try simp at hf
  simp only [zX]
  refine aS 1008 (fun Q hQ=>by simp (disch:=intros;contradiction) only [zS,reduceCtorEq,Nat.reduceAdd,Nat.reduceEqDiff,Int.reduceNeg,↓reduceIte];exact hQ) ?_
  refine aw_cond _ rfl trivial (fun ht=>?_) (fun hf=>?_)
  ·skip
   try simp at ht
   simp only [zX]
   refine ⟨(),?_⟩
   simp only [keepS,keepE,Option.getD_some,lk_cons,lkE_cons,List.cons_append,List.nil_append,Nat.reduceEqDiff,↓reduceIte,reduceCtorEq]
   refine Le.lit [] [] _ _ ?_ ?_ ?_ ?_
   ·simp only [zL,Nat.reduceEqDiff,↓reduceIte,reduceCtorEq]
    all_goals ((simp [ht];done);skip)
   ·simp only [zL,Nat.reduceEqDiff,↓reduceIte,reduceCtorEq]
   ·simp [rlook]
   ·(intro k hk;simp [rlook];omega)
  try simp at hf
  refine aS 1072 (fun Q hQ=>by simp (disch:=intros;contradiction) only [zS,reduceCtorEq,Nat.reduceAdd,Nat.reduceEqDiff,Int.reduceNeg,↓reduceIte];exact hQ) ?_
  refine ⟨(),?_⟩
  simp only [keepS,keepE,Option.getD_some,lk_cons,lkE_cons,List.cons_append,List.nil_append,Nat.reduceEqDiff,↓reduceIte,reduceCtorEq]
  refine Le.lit [] [] _ _ ?_ ?_ ?_ ?_
  ·simp only [zL,Nat.reduceEqDiff,↓reduceIte,reduceCtorEq]
   all_goals ((simp;omega);skip)
  ·simp only [zL,Nat.reduceEqDiff,↓reduceIte,reduceCtorEq]
  ·simp [rlook]
  ·(intro k hk;simp [rlook];omega)
 rintro ⟨⟩
 simp only [keepS,keepE,Option.getD_some,lk_cons,lkE_cons,List.cons_append,List.nil_append,Nat.reduceEqDiff,↓reduceIte,reduceCtorEq]
 refine aT ?_
 refine aw_reg 1136 (RG.go fun Q hQ=>?_)
 simp (disch:=first | (intros;contradiction) | omega | (simp only [zN];omega)) only [zS,zW,reduceCtorEq,Nat.reduceAdd,Nat.reduceEqDiff,Nat.reduceLeDiff,Int.reduceNeg,↓reduceIte,hD3,hC4,mx0_eq,hz]
 repeat refine ⟨by (omega),?_⟩
 refine hQ (RG.nil ?_)
 simp only [zX]
 refine aS 1456 (fun Q hQ=>by simp (disch:=intros;contradiction) only [zS,reduceCtorEq,Nat.reduceAdd,Nat.reduceEqDiff,Nat.reduceLeDiff,Int.reduceNeg,↓reduceIte,mx0_eq,hCM];exact hQ) ?_
 refine aBDs 1568 (fun Q hQ=>by simp (disch:=intros;contradiction) only [zS,reduceCtorEq,Nat.reduceAdd,Nat.reduceEqDiff,Int.reduceNeg,↓reduceIte];exact hQ) ?_
 refine rO [1] [] (cT) ?_
 refine RG.go fun Q hQ=>?_
 simp (disch:=intros;contradiction) only [zS,reduceCtorEq,Nat.reduceAdd,Nat.reduceEqDiff,Nat.reduceLeDiff,Int.reduceNeg,↓reduceIte,Int.reduceLT]
 refine hQ (RG.nil ⟨by decide +kernel,?_⟩)
 simp only [zY]
 refine aw_joinS (Y:={ p : Int // p = LT }) [2,4,5,12,14] (fun p=>[]) [0,1,16] (fun p=>[(560,.box [.v (.int .i64 5),.v (.int .i64 1),.v (.int .i64 A4),.v (.int .i64 id),.v (.int .i64 T),.v (.int .i64 0),.v (.int .i64 p.1),.v (.int .i64 CM),.v (.bool false),.v (.slice none 0 0),.v (.int .i64 0),.v (.int .i64 0),.v (.slice none 0 0),.v (.slice none 0 0),.v (.slice none 0 0),.v (.int .i64 0),.v (.int .i64 0),.v (.int .i64 0),.v (.int .i64 0)])]) (by (repeat' (first | exact cl_fin | refine cl_then ?_ ?_ | refine cl_block ?_))) ?_ ?_
 ·skip
  simp only [zX]
  refine aS 1760 (fun Q hQ=>by simp (disch:=first | (intros;contradiction) | omega | (simp only [zN];omega)) only [zS,zW,reduceCtorEq,Nat.reduceAdd,Nat.reduceEqDiff,Int.reduceNeg,↓reduceIte,hD7];repeat refine ⟨by (omega),?_⟩;exact hQ) ?_
  refine aw_cond _ rfl trivial (fun ht=>?_) (fun hf=>?_)
  ·skip
   try simp at ht
   refine aS 1840 (fun Q hQ=>by simp (disch:=first | (intros;contradiction) | omega | (simp only [zN];omega)) only [zS,zW,reduceCtorEq,Nat.reduceAdd,Nat.reduceEqDiff,Nat.reduceLeDiff,Int.reduceNeg,Int.reduceAdd,↓reduceIte];exact hQ) ?_
   refine ⟨⟨1,by rw [hLT,if_pos ht]⟩,?_⟩
   simp only [keepS,keepE,Option.getD_some,lk_cons,lkE_cons,List.cons_append,List.nil_append,Nat.reduceEqDiff,↓reduceIte,reduceCtorEq]
   refine Le.lit [] [] _ _ ?_ ?_ ?_ ?_
   ·simp only [zL,Nat.reduceEqDiff,↓reduceIte,reduceCtorEq]
   ·simp only [zL,Nat.reduceEqDiff,↓reduceIte,reduceCtorEq]
   ·simp [rlook]
   ·(intro k hk;simp [rlook];omega)
  try simp at hf
  simp only [zX]
  refine ⟨⟨0,by rw [hLT,if_neg hf]⟩,?_⟩
  simp only [keepS,keepE,Option.getD_some,lk_cons,lkE_cons,List.cons_append,List.nil_append,Nat.reduceEqDiff,↓reduceIte,reduceCtorEq]
  refine Le.lit [] [] _ _ ?_ ?_ ?_ ?_
  ·simp only [zL,Nat.reduceEqDiff,↓reduceIte,reduceCtorEq]
  ·simp only [zL,Nat.reduceEqDiff,↓reduceIte,reduceCtorEq]
  ·simp [rlook]
  ·(intro k hk;simp [rlook];omega)
 rintro ⟨LT',hLT'⟩
 simp only [keepS,keepE,Option.getD_some,lk_cons,lkE_cons,List.cons_append,List.nil_append,Nat.reduceEqDiff,↓reduceIte,reduceCtorEq]
 simp only [zX]
 subst hLT'
 have hD4n : D4.toNat = d % 4:=by omega
 have hrow : List.take (d % 4) [[.v (.int .u8 (c : Int))],[.v (.int .u8 (d : Int))],[.v (.int .u8 (a : Int))]] = l.map brow:=by rw [hl,List.map_take];rfl
 refine aw_draw 1952 (RG.go fun Q hQ=>?_)
 simp (disch:=first | (intros;contradiction) | omega | (simp only [zN];omega)) only [zS,zW,Nat.reduceMod,reduceCtorEq,Nat.reduceAdd,Nat.reduceEqDiff,Int.reduceNeg,Int.reduceAdd,Int.reduceToNat,↓reduceIte,Int.reduceLE,hD4,hD4n,hrow]
 refine ⟨by decide,⟨by omega,by omega,by simp [isDRows,C.isD]⟩,hQ ?_⟩
 refine RG.callo [] [] (cE) (.mk (by (repeat' (first | exact tr_nil | refine tr_cons ?_ ?_ | exact tr_v | exact tr_sl))) (by trivial) (by simp) (by simp) (trivial) (by (simp [lkE_cons,lkE_nil];done)) (by (simp [Ent.pure];repeat' ((exact erow_data _)))) (by simp) (by simp)) ?_
 refine aEDs (fun Q hQ=>by simp (disch:=intros;contradiction) only [zS,reduceCtorEq,Nat.reduceAdd,Nat.reduceEqDiff,Nat.reduceLeDiff,Int.reduceNeg,↓reduceIte];exact hQ) ?_
 refine aS 2208 (fun Q hQ=>by simp (disch:=intros;contradiction) only [zS,Nat.reduceAdd,Nat.reduceEqDiff,Int.reduceNeg,↓reduceIte];exact hQ) ?_
 refine aw_loopK (X:={ i : Nat // i≤E0.length }) [4,12,14] (fun i=>[(15,I i.1)]) [0,1,16] (fun i=>[(560,.box [.v (.int .i64 5),.v (.int .i64 1),.v (.int .i64 A4),.v (.int .i64 id),.v (.int .i64 T),.v (.int .i64 0),.v (.int .i64 LT'),.v (.int .i64 CM),.v (.bool false),.osl 5000,.v (.int .i64 0),.v (.int .i64 0),.v (.slice none 0 0),.v (.slice none 0 0),.v (.slice none 0 0),.v (.int .i64 0),.v (.int .i64 0),.v (.int .i64 0),.v (.int .i64 0)]),(5000,.arr 58 4 ((mixE TT E0 i.1).map erow) false)]) (fun i=>E0.length - i.1) (⟨0,by omega⟩) ?_ ?_
 ·skip
  simp only [keepS,keepE,Option.getD_some,lk_cons,lkE_cons,List.cons_append,List.nil_append,Nat.reduceEqDiff,↓reduceIte,reduceCtorEq]
  refine Le.lit [] [(5000,2128)] _ _ ?_ ?_ ?_ ?_
  ·simp only [zL,Nat.reduceEqDiff,↓reduceIte,reduceCtorEq]
  ·simp only [zL,Nat.reduceEqDiff,↓reduceIte,reduceCtorEq]
   all_goals ((rw [mixE_zero];(repeat' (first | (first | exact erow_data _ | (simp [C.isD];done)) | refine ⟨?_,?_⟩)));skip)
  ·simp [rlook]
  ·(intro k hk;simp [rlook];omega)
 rintro ⟨i,hi⟩
 simp only [keepS,keepE,Option.getD_some,lk_cons,lkE_cons,List.cons_append,List.nil_append,Nat.reduceEqDiff,↓reduceIte,reduceCtorEq]
 simp only [zX]
 have hml:=mixE_len TT E0 i
 refine aS 2256 (fun Q hQ=>by simp (disch:=intros;contradiction) only [zS,zW,Nat.reduceAdd,Nat.reduceEqDiff,Int.reduceNeg,↓reduceIte];exact hQ) ?_
 refine aw_cond _ rfl trivial (fun ht=>?_) (fun hf=>?_)
 ·skip
  try simp at ht
  simp only [zX]
  have hi' : i < E0.length:=by omega
  have hset:=mixE_step TT E0 i hi' (by omega)
  refine aw_reg 2368 (RG.go fun Q hQ=>?_)
  simp (disch:=first | (intros;contradiction) | omega | (simp only [zN];omega)) only [zS,zW,Nat.reduceAdd,Nat.reduceEqDiff,Nat.reduceLeDiff,Int.reduceNeg,↓reduceIte,mx0_eq,hC2,hTT,hset]
  repeat refine ⟨by (omega),?_⟩
  refine hQ (RG.nil ?_)
  simp only [zX]
  refine aS 2640 (fun Q hQ=>by simp (disch:=first | (intros;contradiction) | omega | (simp only [zN];omega)) only [zS,zW,Nat.reduceAdd,Nat.reduceEqDiff,Int.reduceNeg,↓reduceIte];exact hQ) ?_
  refine ⟨⟨i + 1,hi'⟩,?_,by first | omega | (simp only;omega)⟩
  refine Le.lit [] [] _ _ ?_ ?_ ?_ ?_
  ·simp only [zL,Nat.reduceEqDiff,↓reduceIte,reduceCtorEq]
   all_goals (try ((repeat' (rfl))))
  ·simp only [zL,Nat.reduceEqDiff,↓reduceIte,reduceCtorEq]
   all_goals (try ((repeat' ((exact erow_data _)))))
  ·simp [rlook]
  ·(intro k hk;simp [rlook];omega)
 try simp at hf
 simp only [zX,↓reduceIte]
 obtain rfl : i = E0.length:=by omega
 rw [← mixE_all]
 refine aS 2720 (fun Q hQ=>by simp (disch:=intros;contradiction) only [zS,reduceCtorEq,Nat.reduceAdd,Nat.reduceEqDiff,Int.reduceNeg,↓reduceIte];exact hQ) ?_
 refine Fin.objs [5000] [] (.inr rfl) rfl (by exact ⟨trivial,trivial⟩) ?_ ?_ (by simp [objL,rlook]) (by (intro k hk;simp [objL,rlook];omega))
 ·simp only [zL,Nat.reduceAdd,Nat.reduceEqDiff,↓reduceIte]
  all_goals ((repeat' (first | exact trivial | rfl | (refine ⟨⟨_,_,rfl⟩,?_⟩;(exact erow_data _)) | refine ⟨?_,?_⟩)))
 ·simp only [zL,Nat.reduceAdd,Nat.reduceEqDiff,↓reduceIte,reduceCtorEq]

end Go.Abs

namespace Go.Abs
open Go Go.Proofs
set_option maxRecDepth 100000
set_option linter.unusedSimpArgs false
set_option maxHeartbeats 8000000

def bR (i : Nat) : Nat:=if i = 0 then 9 else if i = 1 then 8 else if i = 2 then 7 else if i = 3 then 7 else if i = 8 then 1 else if i = 9 then 4 else if i = 10 then 1 else if i = 11 then 8 else if i = 12 then 256 else if i = 15 then 7 else 1099511627776
theorem bR_wide : wideB bR:=by unfold wideB bR;simp
theorem jM_err {l : List Nat} (h1 : (openB l).2 = true) (h2 : rightM (jM bR (openB l).1).1 = true∧sealB (bodyM (jM bR (openB l).1).1) = l) : (jM bR (openB l).1).2 = 0:=by
 obtain ⟨X,hX⟩ : ∃ X,X = (jM bR (openB l).1).1:=⟨_,rfl⟩
 rw [← hX] at h2
 obtain ⟨h3,h4⟩:=h2
 have h5 : openB l = (bodyM X,true):=by rw [← h4];exact open_seal _
 rw [h5,jM_put bR_wide h3]
theorem MsgRead_con (l : List Nat) (hl : RestOk 1000000 l) : Con Tryz.prog 18 [.c (.sl (l.map brow))] [] (.tup [.agg (msgC (readM bR l).1),I (readM bR l).2]) []:=by
 have cO:=mementoref1_Open_con l hl.b8 (by have:=hl.len;omega)
 have go:=open_rest hl
 have hok:=jM_ok (B:=bR) (by decide) go
 have cW:=MsgPut_con _ hok
 have hby:=putM_by hok.by'
 have hrd : readM bR l = if (openB l).2 = false then (zeroM,24) else if rightM (jM bR (openB l).1).1 = true∧sealB (bodyM (jM bR (openB l).1).1) = l then ((jM bR (openB l).1).1,0) else (zeroM,20):=rfl
 have herr:=jM_err (l:=l)
 have hstr:=str_eq (putM (jM bR (openB l).1).1).1 l hby hl.b8
 obtain ⟨RR,hR⟩ : ∃ RR,RR = jM bR (openB l).1:=⟨_,rfl⟩
 rw [← hR] at hok cW hby hrd herr hstr
 generalize openB l = ob at cO go hrd herr hR
 obtain ⟨x,is⟩:=ob
 simp only at cO go hrd herr hR
 have hput : (rightM RR.1 = true∧sealB (bodyM RR.1) = l) ↔ ((putM RR.1).2 = 0∧(putM RR.1).1 = l):=by
  unfold putM
  split
  ·rename_i h;simp [h]
  ·rename_i h;simp [h]
 unfold jM at hR
 rw [show bR 0 = 9 from rfl] at hR
 have c1:=mementoref1_Reader_Num_con x 0 9 go.b8 (by have:=go.len;omega)
 have g1:=go.num 9 0
 have k1 : (numR 9 x 0).1≤9:=numR_le
 generalize numR 9 x 0 = q at hR c1 g1 k1
 obtain ⟨a1,l1,e1⟩:=q
 simp only at c1 g1 k1
 unfold jm1 at hR
 simp only at hR
 rw [show bR 1 = 8 from rfl] at hR
 have w1:=w_nat (n:=a1) (by omega)
 have c2:=mementoref1_Reader_Num_con l1 e1 8 g1.b8 (by have:=g1.len;omega)
 have g2:=g1.num 8 e1
 have k2 : (numR 8 l1 e1).1≤8:=numR_le
 generalize numR 8 l1 e1 = q at hR c2 g2 k2
 obtain ⟨a2,l2,e2⟩:=q
 simp only at c2 g2 k2
 unfold jm2 at hR
 simp only at hR
 rw [show bR 2 = 7 from rfl] at hR
 have w2:=w_nat (n:=a2) (by omega)
 have c3:=mementoref1_Reader_Num_con l2 e2 7 g2.b8 (by have:=g2.len;omega)
 have g3:=g2.num 7 e2
 have k3 : (numR 7 l2 e2).1≤7:=numR_le
 generalize numR 7 l2 e2 = q at hR c3 g3 k3
 obtain ⟨a3,l3,e3⟩:=q
 simp only at c3 g3 k3
 unfold jm3 at hR
 simp only at hR
 rw [show bR 3 = 7 from rfl] at hR
 have w3:=w_nat (n:=a3) (by omega)
 have c4:=mementoref1_Reader_Num_con l3 e3 7 g3.b8 (by have:=g3.len;omega)
 have g4:=g3.num 7 e3
 have k4 : (numR 7 l3 e3).1≤7:=numR_le
 generalize numR 7 l3 e3 = q at hR c4 g4 k4
 obtain ⟨a4,l4,e4⟩:=q
 simp only at c4 g4 k4
 unfold jm4 at hR
 simp only at hR
 rw [show bR 4 = 1099511627776 from rfl] at hR
 have w4:=w_nat (n:=a4) (by omega)
 have c5:=mementoref1_Reader_Num_con l4 e4 1099511627776 g4.b8 (by have:=g4.len;omega)
 have g5:=g4.num 1099511627776 e4
 have k5 : (numR 1099511627776 l4 e4).1≤1099511627776:=numR_le
 generalize numR 1099511627776 l4 e4 = q at hR c5 g5 k5
 obtain ⟨a5,l5,e5⟩:=q
 simp only at c5 g5 k5
 unfold jm5 at hR
 simp only at hR
 rw [show bR 5 = 1099511627776 from rfl] at hR
 have w5:=w_nat (n:=a5) (by omega)
 have c6:=mementoref1_Reader_Num_con l5 e5 1099511627776 g5.b8 (by have:=g5.len;omega)
 have g6:=g5.num 1099511627776 e5
 have k6 : (numR 1099511627776 l5 e5).1≤1099511627776:=numR_le
 generalize numR 1099511627776 l5 e5 = q at hR c6 g6 k6
 obtain ⟨a6,l6,e6⟩:=q
 simp only at c6 g6 k6
 unfold jm6 at hR
 simp only at hR
 rw [show bR 6 = 1099511627776 from rfl] at hR
 have w6:=w_nat (n:=a6) (by omega)
 have c7:=mementoref1_Reader_Num_con l6 e6 1099511627776 g6.b8 (by have:=g6.len;omega)
 have g7:=g6.num 1099511627776 e6
 have k7 : (numR 1099511627776 l6 e6).1≤1099511627776:=numR_le
 generalize numR 1099511627776 l6 e6 = q at hR c7 g7 k7
 obtain ⟨a7,l7,e7⟩:=q
 simp only at c7 g7 k7
 unfold jm7 at hR
 simp only at hR
 rw [show bR 7 = 1099511627776 from rfl] at hR
 have w7:=w_nat (n:=a7) (by omega)
 have c8:=mementoref1_Reader_Num_con l7 e7 1099511627776 g7.b8 (by have:=g7.len;omega)
 have g8:=g7.num 1099511627776 e7
 have k8 : (numR 1099511627776 l7 e7).1≤1099511627776:=numR_le
 generalize numR 1099511627776 l7 e7 = q at hR c8 g8 k8
 obtain ⟨a8,l8,e8⟩:=q
 simp only at c8 g8 k8
 unfold jm8 at hR
 simp only at hR
 rw [show bR 8 = 1 from rfl] at hR
 have w8:=w_nat (n:=a8) (by omega)
 have c9:=mementoref1_Reader_Num_con l8 e8 1 g8.b8 (by have:=g8.len;omega)
 have g9:=g8.num 1 e8
 have k9 : (numR 1 l8 e8).1≤1:=numR_le
 generalize numR 1 l8 e8 = q at hR c9 g9 k9
 obtain ⟨a9,l9,e9⟩:=q
 simp only at c9 g9 k9
 unfold jm9 at hR
 simp only at hR
 rw [show bR 9 = 4 from rfl] at hR
 have w9:=w_nat (n:=a9) (by omega)
 have c10:=mementoref1_Reader_Num_con l9 e9 4 g9.b8 (by have:=g9.len;omega)
 have g10:=g9.num 4 e9
 have k10 : (numR 4 l9 e9).1≤4:=numR_le
 generalize numR 4 l9 e9 = q at hR c10 g10 k10
 obtain ⟨m,l10,e10⟩:=q
 simp only at c10 g10 k10
 unfold jm10 at hR
 simp only at hR
 have wm:=w_nat (n:=m) (by omega)
 obtain ⟨RE,hRE⟩ : ∃ x,x = jE m [] l10 e10:=⟨_,rfl⟩
 rw [← hRE] at hR
 have hok9 : ((a9 : Int) == 1) = decide (a9 = 1):=by rw [Bool.eq_iff_iff];simp;omega
 refine C_mementoref6_MsgRead nl nl ?_
 simp only [cz,A_mementoref6_MsgRead,argL,objL,List.length_nil,zX]
 refine aR 16 ?_
 refine aB 80 ?_
 refine rC [] (cO) ?_ (hs:=(by exact .inr ⟨pureTB,trivial⟩))
 refine aE ?_
 refine aR 224 ?_
 refine aw_cond _ rfl trivial (fun ht=>?_) (fun hf=>?_)
 ·skip
  try simp at ht
  simp only [zX]
  rw [hrd,if_pos ht]
  refine aR 288 ?_
  refine Fin.data [] (.inr rfl) rfl (by (exact ⟨trivial,trivial⟩)) ?_
  simp only [zL,simprocAttr]
  all_goals ((repeat' (first | exact trivial | rfl | refine ⟨?_,?_⟩)))
 try simp at hf
 simp only [zX]
 have his : is = true:=by simpa using hf
 rw [hrd,if_neg (by simp [his])]
 refine aR 368 ?_
 refine aR 464 ?_
 refine aB 512 ?_
 refine rO [400] [] (c1) ?_
 refine aEs (fun Q hQ=>by simp (disch:=intros;contradiction) only [zS,w1,simprocAttr];exact hQ) ?_
 refine aB 624 ?_
 refine rO [400] [] (c2) ?_
 refine aEs (fun Q hQ=>by simp (disch:=intros;contradiction) only [zS,w2,simprocAttr];exact hQ) ?_
 refine aB 736 ?_
 refine rO [400] [] (c3) ?_
 refine aEs (fun Q hQ=>by simp (disch:=intros;contradiction) only [zS,w3,simprocAttr];exact hQ) ?_
 refine aB 848 ?_
 refine rO [400] [] (c4) ?_
 refine aEs (fun Q hQ=>by simp (disch:=intros;contradiction) only [zS,w4,simprocAttr];exact hQ) ?_
 refine aB 960 ?_
 refine rO [400] [] (c5) ?_
 refine aEs (fun Q hQ=>by simp (disch:=intros;contradiction) only [zS,w5,simprocAttr];exact hQ) ?_
 refine aB 1072 ?_
 refine rO [400] [] (c6) ?_
 refine aEs (fun Q hQ=>by simp (disch:=intros;contradiction) only [zS,w6,simprocAttr];exact hQ) ?_
 refine aB 1184 ?_
 refine rO [400] [] (c7) ?_
 refine aEs (fun Q hQ=>by simp (disch:=intros;contradiction) only [zS,w7,simprocAttr];exact hQ) ?_
 refine aB 1296 ?_
 refine rO [400] [] (c8) ?_
 refine aEs (fun Q hQ=>by simp (disch:=intros;contradiction) only [zS,w8,simprocAttr];exact hQ) ?_
 refine aB 1408 ?_
 refine rO [400] [] (c9) ?_
 refine aEs (fun Q hQ=>by simp (disch:=intros;contradiction) only [zS,hok9,simprocAttr];exact hQ) ?_
 refine aB 1520 ?_
 refine rO [400] [] (c10) ?_
 refine aEs (fun Q hQ=>by simp (disch:=intros;contradiction) only [zS,wm,simprocAttr];exact hQ) ?_
 refine aR 1616 ?_
 refine aw_loopK (X:={ x : Nat × List EN × List Nat × Nat // x.1≤m∧GE x.1 x.2.1∧RestOk 1000000 x.2.2.1∧jE (m - x.1) x.2.1 x.2.2.1 x.2.2.2 = RE }) [0,2,6,7,8] (fun x=>[(9,I x.1.1)]) [16] (fun x=>[(400,Rd x.1.2.2.1 x.1.2.2.2),(464,.box [.v (.int .i64 a1),.v (.int .i64 a2),.v (.int .i64 a3),.v (.int .i64 a4),.v (.int .i64 a5),.v (.int .i64 a6),.v (.int .i64 a7),.v (.int .i64 a8),.v (.bool (decide (a9 = 1))),.osl 5000,.v (.int .i64 0),.v (.int .i64 0),.v (.slice none 0 0),.v (.slice none 0 0),.v (.slice none 0 0),.v (.int .i64 0),.v (.int .i64 0),.v (.int .i64 0),.v (.int .i64 0)]),(5000,.arr 58 4 (x.1.2.1.map erow) false)]) (fun x=>m - x.1.1) (⟨(0,[],l10,e10),by simp only;omega,⟨Nat.le_refl _,fun w hw=>by cases hw⟩,g10,hRE.symm⟩) ?_ ?_
 ·skip
  simp only [keepS,keepE,Option.getD_some,lk_cons,lkE_cons,List.cons_append,List.nil_append,simprocAttr]
  refine (Le.ownB 464 9 5000 _ 58 4 rfl rfl rfl (by decide)).trans ?_
  simp only [List.set_cons_succ,List.set_cons_zero,setE_cons,setE_nil,simprocAttr]
  refine Le.lit [] [] _ _ ?_ ?_ ?_ ?_
  ·simp only [zL,simprocAttr]
  ·simp only [zL,simprocAttr]
   all_goals (try ((repeat' (((simp [C.isD];done))))))
  ·simp [rlook]
  ·(simp;done)
 rintro ⟨⟨i,acc,la,ea⟩,u1,u2,u3,u4⟩
 simp only [keepS,keepE,Option.getD_some,lk_cons,lkE_cons,List.cons_append,List.nil_append,simprocAttr]
 simp only [zX]
 simp only at u1 u2 u3 u4
 refine aR 1664 ?_
 refine aw_cond _ rfl trivial (fun ht=>?_) (fun hf=>?_)
 ·skip
  try simp at ht
  simp only [zX]
  obtain ⟨d,hd⟩ : ∃ d,m - i = d + 1:=⟨m - i - 1,by omega⟩
  rw [hd] at u4
  unfold jE at u4
  have v0:=u3.len
  have cE:=mementoref6_ReadEntry_con la ea u3.b8 (by omega)
  have v1:=u3.ent ea
  generalize readE la ea = r at u4 cE v1
  obtain ⟨ri,rt,rk,rd,rok,rl,re⟩:=r
  obtain ⟨v2,v3,v4,v5,v6⟩:=v1
  simp only [enOf] at u4 cE v2 v3 v4 v5 v6
  have u2l:=u2.1
  have e2 : acc.map erow ++ [[.v (.int .i64 ri),.v (.int .i64 rt),.v (.int .i64 rk),.sl (rd.map brow)]] = (acc ++ [(⟨(ri : Int),(rt : Int),(rk : Int),rd⟩ : EN)]).map erow:=by rw [List.map_append];rfl
  refine aB 1744 ?_
  refine rO [400] [] (cE) ?_
  refine aE ?_
  refine aS 1904 (fun Q hQ=>by simp (disch:=intros;contradiction) only [zS,zW,e2,simprocAttr];repeat refine ⟨by ((simp;omega)),?_⟩;exact hQ) ?_
  refine aS 2048 (fun Q hQ=>by simp (disch:=first | (intros;contradiction) | omega | (simp only [zN];omega)) only [zS,zW,simprocAttr];exact hQ) ?_
  refine ⟨⟨(i + 1,acc ++ [(⟨(ri : Int),(rt : Int),(rk : Int),rd⟩ : EN)],rl,re),by simp only;omega,u2.snoc v3,v2,by simp only;rw [show m - (i + 1) = d by omega];exact u4⟩,?_,by first | omega | (simp only;omega)⟩
  refine Le.lit [] [(5000,1968)] _ _ ?_ ?_ ?_ ?_
  ·simp only [zL,simprocAttr]
   all_goals (try ((repeat' (rfl))))
  ·simp only [zL,simprocAttr]
   all_goals (try ((repeat' ((exact erow_data _)))))
  ·simp [rlook]
  ·(simp;done)
 try simp at hf
 simp only [zX,↓reduceIte]
 have hi : i = m:=by omega
 subst hi
 rw [Nat.sub_self] at u4
 have u4 : (acc,la,ea) = RE:=u4
 subst u4
 unfold jm11 at hR
 simp only at hR
 rw [show bR 10 = 1 from rfl] at hR
 have c11:=mementoref1_Reader_Num_con la ea 1 u3.b8 (by have:=u3.len;omega)
 have g11:=u3.num 1 ea
 generalize numR 1 la ea = q at hR c11 g11
 obtain ⟨a10,l11,e11⟩:=q
 simp only at c11 g11
 unfold jm12 at hR
 simp only at hR
 rw [show bR 15 = 7 from rfl] at hR
 by_cases h10 : a10 = 1
 ·skip
  have hd10 : ((a10 : Int) == 1) = true:=by rw [h10];rfl
  rw [if_pos h10] at hR
  have cB:=mementoref6_ReadBase_con l11 e11 g11.b8 (by have:=g11.len;omega)
  have gB:=readB_mem (most:=7) (e:=e11) g11.b8
  generalize readB 7 l11 e11 = r at hR cB gB
  obtain ⟨bi,bt,bc,bd,bok,l12,e12⟩:=r
  simp only at cB gB
  have g12 : RestOk 1000000 l12:=⟨gB.2.1,by have:=gB.2.2.1;have:=g11.len;omega⟩
  unfold jm13 at hR
  simp only at hR
  have cL:=mementoref1_Reader_Lump_con l12 e12 65535 g12.b8 (by have:=g12.len;omega) (by omega)
  have gL:=g12.lump 65535 e12
  have yL:=(lumpR_mem (most:=65535) (e:=e12) g12.b8).1
  have zL':=(lumpR_len (most:=65535) (l:=l12) (e:=e12)).1
  generalize lumpR 65535 l12 e12 = q at hR cL gL yL zL'
  obtain ⟨dd,l14,e14⟩:=q
  simp only at cL gL yL zL'
  unfold jm14 at hR
  simp only at hR
  rw [show bR 11 = 8 from rfl] at hR
  have cv0:=mementoref1_Reader_Num_con l14 e14 8 gL.b8 (by have:=gL.len;omega)
  have gv0:=gL.num 8 e14
  have kv0 : (numR 8 l14 e14).1≤8:=numR_le
  generalize numR 8 l14 e14 = q at hR cv0 gv0 kv0
  obtain ⟨b0,m0,f0⟩:=q
  simp only at cv0 gv0 kv0
  have wv0:=w_nat (n:=b0) (by omega)
  unfold jm15 at hR
  simp only at hR
  rw [show bR 12 = 256 from rfl] at hR
  have cv1:=mementoref1_Reader_Num_con m0 f0 256 gv0.b8 (by have:=gv0.len;omega)
  have gv1:=gv0.num 256 f0
  have kv1 : (numR 256 m0 f0).1≤256:=numR_le
  generalize numR 256 m0 f0 = q at hR cv1 gv1 kv1
  obtain ⟨b1,m1,f1⟩:=q
  simp only at cv1 gv1 kv1
  have wv1:=w_nat (n:=b1) (by omega)
  unfold jm16 at hR
  simp only at hR
  rw [show bR 13 = 1099511627776 from rfl] at hR
  have cv2:=mementoref1_Reader_Num_con m1 f1 1099511627776 gv1.b8 (by have:=gv1.len;omega)
  have gv2:=gv1.num 1099511627776 f1
  have kv2 : (numR 1099511627776 m1 f1).1≤1099511627776:=numR_le
  generalize numR 1099511627776 m1 f1 = q at hR cv2 gv2 kv2
  obtain ⟨b2,m2,f2⟩:=q
  simp only at cv2 gv2 kv2
  have wv2:=w_nat (n:=b2) (by omega)
  unfold jm17 at hR
  simp only at hR
  rw [show bR 14 = 1099511627776 from rfl] at hR
  have cv3:=mementoref1_Reader_Num_con m2 f2 1099511627776 gv2.b8 (by have:=gv2.len;omega)
  have gv3:=gv2.num 1099511627776 f2
  have kv3 : (numR 1099511627776 m2 f2).1≤1099511627776:=numR_le
  generalize numR 1099511627776 m2 f2 = q at hR cv3 gv3 kv3
  obtain ⟨b3,m3,f3⟩:=q
  simp only at cv3 gv3 kv3
  have wv3:=w_nat (n:=b3) (by omega)
  unfold jFin at hR
  simp only at hR
  obtain ⟨RM,RF⟩:=RR
  injection hR with hR1 hR2
  simp only at hok cW hby hrd herr hput hstr
  rw [hR1] at cW
  simp only [msgC] at cW
  rw [← hR1] at cW
  generalize putM RM = pm at cW hput hby hstr
  obtain ⟨pb,pe⟩:=pm
  simp only at cW hput hby hstr
  subst hR1
  subst hR2
  refine aB 2128 ?_
  refine rO [400] [] (c11) ?_
  refine aEs (fun Q hQ=>by simp (disch:=intros;contradiction) only [zS,hd10,simprocAttr];exact hQ) ?_
  refine aw_cond _ rfl trivial (fun ht=>?_) (fun hf=>by cases hf)
  refine aB 2208 ?_
  refine rO [400] [] (cB) ?_
  refine aE ?_
  refine aB 2352 ?_
  refine rO [400] [] (cL) ?_
  refine aE ?_
  refine aB 2448 ?_
  refine rO [400] [] (cv0) ?_
  refine aEs (fun Q hQ=>by simp (disch:=intros;contradiction) only [zS,wv0,simprocAttr];exact hQ) ?_
  refine aB 2560 ?_
  refine rO [400] [] (cv1) ?_
  refine aEs (fun Q hQ=>by simp (disch:=intros;contradiction) only [zS,wv1,simprocAttr];exact hQ) ?_
  refine aB 2672 ?_
  refine rO [400] [] (cv2) ?_
  refine aEs (fun Q hQ=>by simp (disch:=intros;contradiction) only [zS,wv2,simprocAttr];exact hQ) ?_
  refine aB 2784 ?_
  refine rO [400] [] (cv3) ?_
  refine aEs (fun Q hQ=>by simp (disch:=intros;contradiction) only [zS,wv3,simprocAttr];exact hQ) ?_
  refine awp_pre [(0,.c (.sl (l.map brow))),(2,.c (.bp 16 0)),(6,.c (.bp 400 0)),(7,.c (.bp 464 0))] [(400,Rd m3 RF),(464,.box [.v (.int .i64 a1),.v (.int .i64 a2),.v (.int .i64 a3),.v (.int .i64 a4),.v (.int .i64 a5),.v (.int .i64 a6),.v (.int .i64 a7),.v (.int .i64 a8),.v (.bool (decide (a9 = 1))),.sl (acc.map erow),.v (.int .i64 bi),.v (.int .i64 bt),.sl (bc.map nrow),.sl (bd.map brow),.sl (dd.map brow),.v (.int .i64 b0),.v (.int .i64 b1),.v (.int .i64 b2),.v (.int .i64 b3)]),(16,.box [.v (.int .i64 0),.v (.int .i64 0),.v (.int .i64 0),.v (.int .i64 0),.v (.int .i64 0),.v (.int .i64 0),.v (.int .i64 0),.v (.int .i64 0),.v (.bool false),.v (.slice none 0 0),.v (.int .i64 0),.v (.int .i64 0),.v (.slice none 0 0),.v (.slice none 0 0),.v (.slice none 0 0),.v (.int .i64 0),.v (.int .i64 0),.v (.int .i64 0),.v (.int .i64 0)])] ?_ ?_
  ·skip
   refine Le.lit [5000] [] _ _ ?_ ?_ ?_ ?_
   ·simp only [zL,simprocAttr]
   ·simp only [zL,simprocAttr]
    all_goals (exact ⟨⟨_,_,rfl⟩,erow_data _⟩;skip)
   ·simp [rlook]
   ·(simp;done)
  refine aB 2896 ?_
  refine rC [] (cW) ?_ (hs:=(by exact .inr ⟨pureTC,trivial⟩))
  refine aE ?_
  refine aw_reg 3040 (RG.go fun Q hQ=>?_)
  simp (disch:=intros;contradiction) only [zS,hstr,simprocAttr]
  repeat refine ⟨by (first | exact fun h=>⟨isByteRow_brow _,h⟩ | (simp;done)),?_⟩
  refine hQ (RG.nil ?_)
  simp only [zX]
  refine aw_cond _ rfl trivial (fun ht=>?_) (fun hf=>?_)
  ·skip
   try simp at ht
   simp only [zX]
   have hno : ¬ (rightM _ = true∧sealB (bodyM _) = l):=fun h=>by
    obtain ⟨z1,z2⟩:=hput.1 h
    have z3:=herr his h
    rcases ht with (h1 | h1) | h1
    ·exact h1 z3
    ·exact h1 z1
    ·exact h1 z2
   rw [if_neg hno]
   refine aR 3328 ?_
   refine Fin.data [] (.inr rfl) rfl (by (exact ⟨trivial,trivial⟩)) ?_
   simp only [zL,simprocAttr]
   all_goals ((repeat' (first | exact trivial | rfl | refine ⟨?_,?_⟩)))
  try simp at hf
  simp only [zX]
  rw [if_pos (hput.2 ⟨hf.1.2,hf.2⟩)]
  refine aR 3408 ?_
  refine Fin.data [] (.inr rfl) rfl (by (exact ⟨trivial,trivial⟩)) ?_
  simp only [zL,simprocAttr]
  all_goals ((repeat' (first | exact trivial | rfl | refine ⟨?_,?_⟩)))
 have hd10 : ((a10 : Int) == 1) = false:=by rw [Bool.eq_false_iff];simp;omega
 rw [if_neg h10] at hR
 unfold jm13 at hR
 simp only at hR
 have cL:=mementoref1_Reader_Lump_con l11 e11 65535 g11.b8 (by have:=g11.len;omega) (by omega)
 have gL:=g11.lump 65535 e11
 have yL:=(lumpR_mem (most:=65535) (e:=e11) g11.b8).1
 have zL':=(lumpR_len (most:=65535) (l:=l11) (e:=e11)).1
 generalize lumpR 65535 l11 e11 = q at hR cL gL yL zL'
 obtain ⟨dd,l14,e14⟩:=q
 simp only at cL gL yL zL'
 unfold jm14 at hR
 simp only at hR
 rw [show bR 11 = 8 from rfl] at hR
 have cv0:=mementoref1_Reader_Num_con l14 e14 8 gL.b8 (by have:=gL.len;omega)
 have gv0:=gL.num 8 e14
 have kv0 : (numR 8 l14 e14).1≤8:=numR_le
 generalize numR 8 l14 e14 = q at hR cv0 gv0 kv0
 obtain ⟨b0,m0,f0⟩:=q
 simp only at cv0 gv0 kv0
 have wv0:=w_nat (n:=b0) (by omega)
 unfold jm15 at hR
 simp only at hR
 rw [show bR 12 = 256 from rfl] at hR
 have cv1:=mementoref1_Reader_Num_con m0 f0 256 gv0.b8 (by have:=gv0.len;omega)
 have gv1:=gv0.num 256 f0
 have kv1 : (numR 256 m0 f0).1≤256:=numR_le
 generalize numR 256 m0 f0 = q at hR cv1 gv1 kv1
 obtain ⟨b1,m1,f1⟩:=q
 simp only at cv1 gv1 kv1
 have wv1:=w_nat (n:=b1) (by omega)
 unfold jm16 at hR
 simp only at hR
 rw [show bR 13 = 1099511627776 from rfl] at hR
 have cv2:=mementoref1_Reader_Num_con m1 f1 1099511627776 gv1.b8 (by have:=gv1.len;omega)
 have gv2:=gv1.num 1099511627776 f1
 have kv2 : (numR 1099511627776 m1 f1).1≤1099511627776:=numR_le
 generalize numR 1099511627776 m1 f1 = q at hR cv2 gv2 kv2
 obtain ⟨b2,m2,f2⟩:=q
 simp only at cv2 gv2 kv2
 have wv2:=w_nat (n:=b2) (by omega)
 unfold jm17 at hR
 simp only at hR
 rw [show bR 14 = 1099511627776 from rfl] at hR
 have cv3:=mementoref1_Reader_Num_con m2 f2 1099511627776 gv2.b8 (by have:=gv2.len;omega)
 have gv3:=gv2.num 1099511627776 f2
 have kv3 : (numR 1099511627776 m2 f2).1≤1099511627776:=numR_le
 generalize numR 1099511627776 m2 f2 = q at hR cv3 gv3 kv3
 obtain ⟨b3,m3,f3⟩:=q
 simp only at cv3 gv3 kv3
 have wv3:=w_nat (n:=b3) (by omega)
 unfold jFin at hR
 simp only at hR
 obtain ⟨RM,RF⟩:=RR
 injection hR with hR1 hR2
 simp only at hok cW hby hrd herr hput hstr
 rw [hR1] at cW
 simp only [msgC] at cW
 rw [← hR1] at cW
 generalize putM RM = pm at cW hput hby hstr
 obtain ⟨pb,pe⟩:=pm
 simp only at cW hput hby hstr
 subst hR1
 subst hR2
 refine aB 3488 ?_
 refine rO [400] [] (c11) ?_
 refine aEs (fun Q hQ=>by simp (disch:=intros;contradiction) only [zS,hd10,simprocAttr];exact hQ) ?_
 refine aF ?_
 refine aB 3568 ?_
 refine rO [400] [] (cL) ?_
 refine aE ?_
 refine aB 3664 ?_
 refine rO [400] [] (cv0) ?_
 refine aEs (fun Q hQ=>by simp (disch:=intros;contradiction) only [zS,wv0,simprocAttr];exact hQ) ?_
 refine aB 3776 ?_
 refine rO [400] [] (cv1) ?_
 refine aEs (fun Q hQ=>by simp (disch:=intros;contradiction) only [zS,wv1,simprocAttr];exact hQ) ?_
 refine aB 3888 ?_
 refine rO [400] [] (cv2) ?_
 refine aEs (fun Q hQ=>by simp (disch:=intros;contradiction) only [zS,wv2,simprocAttr];exact hQ) ?_
 refine aB 4000 ?_
 refine rO [400] [] (cv3) ?_
 refine aEs (fun Q hQ=>by simp (disch:=intros;contradiction) only [zS,wv3,simprocAttr];exact hQ) ?_
 refine awp_pre [(0,.c (.sl (l.map brow))),(2,.c (.bp 16 0)),(6,.c (.bp 400 0)),(7,.c (.bp 464 0))] [(400,Rd m3 RF),(464,.box [.v (.int .i64 a1),.v (.int .i64 a2),.v (.int .i64 a3),.v (.int .i64 a4),.v (.int .i64 a5),.v (.int .i64 a6),.v (.int .i64 a7),.v (.int .i64 a8),.v (.bool (decide (a9 = 1))),.sl (acc.map erow),.v (.int .i64 0),.v (.int .i64 0),.v (.slice none 0 0),.v (.slice none 0 0),.sl (dd.map brow),.v (.int .i64 b0),.v (.int .i64 b1),.v (.int .i64 b2),.v (.int .i64 b3)]),(16,.box [.v (.int .i64 0),.v (.int .i64 0),.v (.int .i64 0),.v (.int .i64 0),.v (.int .i64 0),.v (.int .i64 0),.v (.int .i64 0),.v (.int .i64 0),.v (.bool false),.v (.slice none 0 0),.v (.int .i64 0),.v (.int .i64 0),.v (.slice none 0 0),.v (.slice none 0 0),.v (.slice none 0 0),.v (.int .i64 0),.v (.int .i64 0),.v (.int .i64 0),.v (.int .i64 0)])] ?_ ?_
 ·skip
  refine Le.lit [5000] [] _ _ ?_ ?_ ?_ ?_
  ·simp only [zL,simprocAttr]
  ·simp only [zL,simprocAttr]
   all_goals (exact ⟨⟨_,_,rfl⟩,erow_data _⟩;skip)
  ·simp [rlook]
  ·(simp;done)
 refine aB 4112 ?_
 refine rC [] (cW) ?_ (hs:=(by exact .inr ⟨pureTC,trivial⟩))
 refine aE ?_
 refine aw_reg 4256 (RG.go fun Q hQ=>?_)
 simp (disch:=intros;contradiction) only [zS,hstr,simprocAttr]
 repeat refine ⟨by (first | exact fun h=>⟨isByteRow_brow _,h⟩ | (simp;done)),?_⟩
 refine hQ (RG.nil ?_)
 simp only [zX]
 refine aw_cond _ rfl trivial (fun ht=>?_) (fun hf=>?_)
 ·skip
  try simp at ht
  simp only [zX]
  have hno : ¬ (rightM _ = true∧sealB (bodyM _) = l):=fun h=>by
   obtain ⟨z1,z2⟩:=hput.1 h
   have z3:=herr his h
   rcases ht with (h1 | h1) | h1
   ·exact h1 z3
   ·exact h1 z1
   ·exact h1 z2
  rw [if_neg hno]
  refine aR 4544 ?_
  refine Fin.data [] (.inr rfl) rfl (by (exact ⟨trivial,trivial⟩)) ?_
  simp only [zL,simprocAttr]
  all_goals ((repeat' (first | exact trivial | rfl | refine ⟨?_,?_⟩)))
 try simp at hf
 simp only [zX]
 rw [if_pos (hput.2 ⟨hf.1.2,hf.2⟩)]
 refine aR 4624 ?_
 refine Fin.data [] (.inr rfl) rfl (by (exact ⟨trivial,trivial⟩)) ?_
 simp only [zL,simprocAttr]
 all_goals ((repeat' (first | exact trivial | rfl | refine ⟨?_,?_⟩)))

end Go.Abs

namespace Go.Abs
open Go Go.Proofs
set_option maxRecDepth 100000
set_option linter.unusedSimpArgs false
set_option maxHeartbeats 8000000

theorem seat_Msg_con (id : Int) (s : RS) (what a b c d : Nat) (h1 : what < 256) (h2 : a < 256) (h3 : b < 256) (h4 : c < 256) (h5 : d < 256) (cs : List Int) (hcs : cs = [0,1,2]) :
  ∃ m : MG,(Mok m∧m.es.length≤1000)∧Con Tryz.prog 20 [.c (.bp 0 0),.c (.v (.int .u8 what)),.c (.v (.int .u8 a)),.c (.v (.int .u8 b)),.c (.v (.int .u8 c)),.c (.v (.int .u8 d))] [.box [.v (.int .i64 id),.v (.int .i64 1),.v (.int .i64 0),.v (.int .i64 (-1)),.bp 1 0,.v (.int .i64 0),.v (.int .i64 0),.v (.int .i64 (s).role),.v (.int .i64 (s).lead),.sl ((s).ys.map nrow),.v (.int .i64 0),.v (.int .i64 0),.v (.int .i64 0),.v (.int .i64 0),.v (.int .i64 0),.v (.int .i64 0),.v (.int .i64 0),.v (.int .i64 0),.v (.int .i64 0),.v (.int .i64 0),.v (.int .i64 0),.v (.int .i64 0),.v (.int .i64 0),.v (.int .i64 0),.v (.int .i64 (s).sil),.v (.int .i64 0),.v (.slice none 0 0),.v (.slice none 0 0),.v (.bool false)],.box [.v (.int .i64 0),.v (.int .i64 0),.sl (cs.map nrow),.v (.slice none 0 0),.v (.slice none 0 0)]] (.agg (msgC m)) [.box [.v (.int .i64 id),.v (.int .i64 1),.v (.int .i64 0),.v (.int .i64 (-1)),.bp 1 0,.v (.int .i64 0),.v (.int .i64 0),.v (.int .i64 (s).role),.v (.int .i64 (s).lead),.sl ((s).ys.map nrow),.v (.int .i64 0),.v (.int .i64 0),.v (.int .i64 0),.v (.int .i64 0),.v (.int .i64 0),.v (.int .i64 0),.v (.int .i64 0),.v (.int .i64 0),.v (.int .i64 0),.v (.int .i64 0),.v (.int .i64 0),.v (.int .i64 0),.v (.int .i64 0),.v (.int .i64 0),.v (.int .i64 (s).sil),.v (.int .i64 0),.v (.slice none 0 0),.v (.slice none 0 0),.v (.bool false)],.box [.v (.int .i64 0),.v (.int .i64 0),.sl (cs.map nrow),.v (.slice none 0 0),.v (.slice none 0 0)]]:=by
 by_cases hl : what % 9 < 4∨what % 9 = 7
 ·exact seat_Msg_lo id s what a b c d h1 h2 h3 h4 h5 cs hcs hl
 ·by_cases h8 : what % 9 = 8
  ·exact seat_Msg_8 id s what a b c d h1 h2 h3 h4 h5 cs hcs h8
  ·exact seat_Msg_A id s what a b c d h1 h2 h3 h4 h5 cs hcs (by omega)
theorem seat_Raft_con (a b c d : Nat) (h2 : a < 256) (cs : List Int) (hcs : cs = [0,1,2]) :
  ∃ s : RS,Con Tryz.prog 21 [.c (.v (.int .u8 a)),.c (.sl [[.v (.int .u8 0),.v (.int .u8 b),.v (.int .u8 c),.v (.int .u8 d),.v (.int .u8 a)],[.v (.int .u8 2),.v (.int .u8 d),.v (.int .u8 c),.v (.int .u8 b),.v (.int .u8 a)]])] [] (.c (.bp 0 0)) [.box [.v (.int .i64 ((a % 3 : Nat) : Int)),.v (.int .i64 1),.v (.int .i64 0),.v (.int .i64 (-1)),.bp 1 0,.v (.int .i64 0),.v (.int .i64 0),.v (.int .i64 (s).role),.v (.int .i64 (s).lead),.sl ((s).ys.map nrow),.v (.int .i64 0),.v (.int .i64 0),.v (.int .i64 0),.v (.int .i64 0),.v (.int .i64 0),.v (.int .i64 0),.v (.int .i64 0),.v (.int .i64 0),.v (.int .i64 0),.v (.int .i64 0),.v (.int .i64 0),.v (.int .i64 0),.v (.int .i64 0),.v (.int .i64 0),.v (.int .i64 (s).sil),.v (.int .i64 0),.v (.slice none 0 0),.v (.slice none 0 0),.v (.bool false)],.box [.v (.int .i64 0),.v (.int .i64 0),.sl (cs.map nrow),.v (.slice none 0 0),.v (.slice none 0 0)]]:=by
 have r1 : ((a : Int).tmod 3) = ((a % 3 : Nat) : Int):=(Int.ofNat_tmod a 3).symm
 have r1e : ((a : Int) % 3) = ((a % 3 : Nat) : Int):=by omega
 have hid : ((a % 3 : Nat) : Int) = 0∨((a % 3 : Nat) : Int) = 1∨((a % 3 : Nat) : Int) = 2:=by omega
 obtain ⟨id,hI⟩ : ∃ id : Int,id = ((a % 3 : Nat) : Int):=⟨_,rfl⟩
 rw [← hI] at r1 r1e hid ⊢
 have hwi : IntKind.i64.wrap id = id:=w64 _ (by omega) (by omega)
 have hin : id ∈ cs:=by rw [hcs];rcases hid with rfl | rfl | rfl <;> simp
 have hm : decide (2 * ((ofS cs).countP (· ∈ [id])) > (ofS cs).length) = false:=by rw [hcs];rcases hid with rfl | rfl | rfl <;> decide
 have hb : cs.length≤12:=by rw [hcs];simp
 obtain ⟨F,hF⟩:=Tick_fun id hid cs hb hin hm
 have cN:=New_con id hid cs
 have h0 : (⟨0,-1,0,[]⟩ : RS).ok 0:=⟨.inl rfl,Int.le_refl _,Int.le_refl _,by simp⟩
 have cH0:=Hear0_con id cs F hF ⟨0,-1,0,[]⟩ h0 b c d a
 have hk:=itF_ok hF h0 (b % 12) (by omega)
 have hk2:=(hF _ hk.self (by have:=hk.sn;omega)).1
 obtain ⟨s1,hs1⟩ : ∃ s1,s1 = (F (itF F (b % 12) ⟨0,-1,0,[]⟩)).1:=⟨_,rfl⟩
 rw [← hs1] at cH0 hk2
 have cH2:=Hear2_con id cs s1 _ hk2 d c b a
 refine ⟨s1,?_⟩
 have hcr : [[C.v (.int .i64 0)],[C.v (.int .i64 1)],[C.v (.int .i64 2)]] = cs.map nrow:=by rw [hcs];rfl
 refine C_mementoseat_Raft nl nl ?_
 simp only [cz,A_mementoseat_Raft,argL,objL,List.length_nil,Nat.zero_add,zX]
 refine aR 16 ?_
 refine aw_reg 64 (RG.go fun Q hQ=>?_)
 simp (disch:=first | (intros;contradiction) | omega | (simp only [zN];omega)) only [zS,zW,r1e,hwi,hcr,simprocAttr]
 repeat refine ⟨by (omega),?_⟩
 refine hQ ?_
 refine rO [] [128] (cN) ?_
 refine aE ?_
 refine aR 240 ?_
 refine aw_loopK (X:={ p : Nat × RS // p.1≤2∧p.2 = if p.1 = 0 then ⟨0,-1,0,[]⟩ else s1 }) [1,5] (fun p=>[(6,I p.1.1)]) [] (fun p=>[(176,.box [.v (.int .i64 id),.v (.int .i64 1),.v (.int .i64 0),.v (.int .i64 (-1)),.bp 177 0,.v (.int .i64 0),.v (.int .i64 0),.v (.int .i64 (p.1.2).role),.v (.int .i64 (p.1.2).lead),.sl ((p.1.2).ys.map nrow),.v (.int .i64 0),.v (.int .i64 0),.v (.int .i64 0),.v (.int .i64 0),.v (.int .i64 0),.v (.int .i64 0),.v (.int .i64 0),.v (.int .i64 0),.v (.int .i64 0),.v (.int .i64 0),.v (.int .i64 0),.v (.int .i64 0),.v (.int .i64 0),.v (.int .i64 0),.v (.int .i64 (p.1.2).sil),.v (.int .i64 0),.v (.slice none 0 0),.v (.slice none 0 0),.v (.bool false)]),(177,.box [.v (.int .i64 0),.v (.int .i64 0),.sl (cs.map nrow),.v (.slice none 0 0),.v (.slice none 0 0)])]) (fun p=>2 - p.1.1) (⟨(0,⟨0,-1,0,[]⟩),by simp only;omega,rfl⟩) ?_ ?_
 ·skip
  simp only [keepS,keepE,lk_cons,List.cons_append,List.nil_append,simprocAttr]
  refine Le.lit [] [] _ _ ?_ ?_ ?_ ?_
  ·simp only [zL,simprocAttr]
  ·simp only [zL,simprocAttr]
  ·simp [rlook]
  ·(simp;done)
 rintro ⟨⟨i,s⟩,hi,hs⟩
 simp only [keepS,keepE,lk_cons,List.cons_append,List.nil_append,simprocAttr]
 simp only [zX]
 simp only at hi hs
 refine aR 288 ?_
 refine aw_cond _ rfl trivial (fun ht=>?_) (fun hf=>?_)
 ·skip
  try simp at ht
  simp only [zX]
  by_cases h0' : i = 0
  ·skip
   subst h0'
   rw [if_pos rfl] at hs
   subst hs
   refine aB 384 ?_
   refine rO [176,177] [] (cH0) ?_
   refine aE ?_
   refine aS 512 (fun Q hQ=>by simp (disch:=first | (intros;contradiction) | omega | (simp only [zN];omega)) only [zS,zW,simprocAttr];exact hQ) ?_
   refine ⟨⟨(1,s1),by simp only;omega,by rw [if_neg (by omega)]⟩,?_,by first | omega | (simp only;omega)⟩
   refine Le.lit [] [] _ _ ?_ ?_ ?_ ?_
   ·simp only [zL,simprocAttr]
   ·simp only [zL,simprocAttr]
   ·simp [rlook]
   ·(simp;done)
  obtain rfl : i = 1:=by omega
  rw [if_neg (by omega)] at hs
  subst hs
  refine aB 592 ?_
  refine rO [176,177] [] (cH2) ?_
  refine aE ?_
  refine aS 720 (fun Q hQ=>by simp (disch:=first | (intros;contradiction) | omega | (simp only [zN];omega)) only [zS,zW,simprocAttr];exact hQ) ?_
  refine ⟨⟨(2,s),by simp only;omega,by rw [if_neg (by omega)]⟩,?_,by first | omega | (simp only;omega)⟩
  refine Le.lit [] [] _ _ ?_ ?_ ?_ ?_
  ·simp only [zL,simprocAttr]
  ·simp only [zL,simprocAttr]
  ·simp [rlook]
  ·(simp;done)
 try simp at hf
 simp only [zX,↓reduceIte]
 obtain rfl : i = 2:=by omega
 rw [if_neg (by omega)] at hs
 subst hs
 refine aR 800 ?_
 refine Fin.objs [] [(0,176),(1,177)] (.inr rfl) rfl (by exact trivial) ?_ ?_ (by simp [objL,rlook]) (by (simp [objL,rlook];done))
 ·simp only [zL,simprocAttr]
 ·simp only [zL,simprocAttr]

end Go.Abs

