/- What the functions that the law comes to do, part 3. No condition. -/
import Derived.Test.YtnpiigcmedmifaaConb
set_option linter.unusedVariables false
set_option linter.unusedSimpArgs false
set_option linter.unnecessarySimpa false
namespace Go.Abs
open Go Go.Proofs
set_option maxRecDepth 100000
set_option linter.unusedSimpArgs false
set_option maxHeartbeats 4000000

theorem lumpR_mem {most : Nat} {l : List Nat} {e : Nat} (hl : ∀ c ∈ l,c < 256) : (∀ c ∈ (lumpR most l e).1,c < 256)∧∀ c ∈ (lumpR most l e).2.1,c < 256:=by
 have h:=numR_mem (most:=most) (e:=e) hl
 unfold lumpR
 split
 ·exact ⟨by simp,h⟩
 split
 ·exact ⟨by simp,by simp⟩
 ·exact ⟨fun c hc=>h c (List.mem_of_mem_take hc),fun c hc=>h c (List.mem_of_mem_drop hc)⟩
theorem lumpR_len {most : Nat} {l : List Nat} {e : Nat} : (lumpR most l e).1.length≤l.length∧(lumpR most l e).2.1.length≤l.length:=by
 have h:=numR_len (most:=most) (l:=l) (e:=e)
 unfold lumpR
 split
 ·exact ⟨by simp,h⟩
 split
 ·exact ⟨by simp,by simp⟩
 ·simp only [List.length_take,List.length_drop];omega
theorem numR_le {most : Nat} {l : List Nat} {e : Nat} : (numR most l e).1≤most:=by
 unfold numR
 split
 ·exact Nat.zero_le _
 split
 ·exact Nat.zero_le _
 split
 ·exact Nat.zero_le _
 ·simp only;omega
structure RestOk (n : Nat) (l : List Nat) : Prop where
 b8 : ∀ c ∈ l,c < 256
 len : l.length≤n
theorem RestOk.num {n : Nat} {l : List Nat} (h : RestOk n l) (most e : Nat) : RestOk n (numR most l e).2.1:=⟨numR_mem h.b8,by have:=h.len;have:=numR_len (most:=most) (l:=l) (e:=e);omega⟩
theorem RestOk.lump {n : Nat} {l : List Nat} (h : RestOk n l) (most e : Nat) : RestOk n (lumpR most l e).2.1:=⟨(lumpR_mem h.b8).2,by have:=h.len;have:=(lumpR_len (most:=most) (l:=l) (e:=e)).2;omega⟩

def tkP : Nat→List Int→List Nat→Nat→List Int × List Nat × Nat
 | 0,acc,l,e=>(acc,l,e)
 | k + 1,acc,l,e=>if e = 0 then tkP k (acc ++ [((numR 8 l e).1 : Int)]) (numR 8 l e).2.1 (numR 8 l e).2.2 else (acc,l,e)
def takeP (l : List Nat) (e : Nat) : List Int × List Nat × Nat:=tkP (numR 256 l e).1 [] (numR 256 l e).2.1 (numR 256 l e).2.2

theorem takePlace_con (l : List Nat) (e n : Nat) (hl : RestOk n l) (hn : n≤100000000000000) :
  Con Try.prog 88 [.c (.bp 0 0)] [Rd l e] (.c (.osl 1)) [Rd (takeP l e).2.1 (takeP l e).2.2,.arr 3 1 ((takeP l e).1.map nrow) false]:=by
 have h1:=hl.len
 have hq:=hl.num 256 e
 have hm : (numR 256 l e).1≤256:=numR_le
 have cN:=mementoref1_Reader_Num_con l e 256 hl.b8 (by omega)
 generalize hR : takeP l e = R
 unfold takeP at hR
 generalize numR 256 l e = q at hR hq hm cN
 obtain ⟨m,l1,e1⟩:=q
 simp only at hR hq hm cN
 refine C_mementoref16_takePlace nl nl ?_
 simp only [cz,A_mementoref16_takePlace,argL,objL,List.length_nil,List.length_cons,Nat.zero_add,zX]
 refine aR 16 ?_
 refine aR 64 ?_
 refine aB 112 ?_
 refine rO [0] [] (cN) ?_
 refine aE ?_
 refine aR 192 ?_
 refine aw_loopK (X:={ p : Nat × List Int × List Nat × Nat // p.1≤m∧p.2.1.length≤p.1∧RestOk n p.2.2.1∧tkP (m - p.1) p.2.1 p.2.2.1 p.2.2.2 = R }) [0,4] (fun p=>[(3,.c (.osl 5000)),(5,.c (.v (.int .u64 p.1.1)))]) [] (fun p=>[(0,Rd p.1.2.2.1 p.1.2.2.2),(5000,.arr 3 1 (p.1.2.1.map nrow) false)]) (fun p=>m - p.1.1) (⟨(0,[],l1,e1),by simp only;omega,by simp,hq,hR⟩) ?_ ?_
 ·skip
  simp only [keepS,keepE,lk_cons,List.cons_append,List.nil_append,simprocAttr]
  refine (Le.own 3 5000 3 1 rfl rfl (by decide)).trans ?_
  simp only [setS_cons,setE_cons,setE_nil,simprocAttr]
  refine Le.lit [] [] _ _ ?_ ?_ ?_ ?_
  ·simp only [zL,simprocAttr]
  ·simp only [zL,simprocAttr]
   all_goals (try ((repeat' (((simp [C.isD];done))))))
  ·simp [rlook]
  ·(intro k hk;simp [rlook];omega)
 rintro ⟨⟨i,acc,l2,e2⟩,k1,k2,k3,k4⟩
 simp only [keepS,keepE,lk_cons,List.cons_append,List.nil_append,simprocAttr]
 simp only [zX]
 simp only at k1 k2 k3 k4
 refine aR 240 ?_
 refine aw_cond _ rfl trivial (fun ht=>?_) (fun hf=>?_)
 ·skip
  try simp at ht
  simp only [zX]
  obtain ⟨d,hd⟩ : ∃ d,m - i = d + 1:=⟨m - i - 1,by omega⟩
  obtain rfl : e2 = 0:=by omega
  have k5:=k3.len
  have k6:=k3.num 8 0
  have k7 : (numR 8 l2 0).1≤8:=numR_le
  have cM:=mementoref1_Reader_Num_con l2 0 8 k3.b8 (by omega)
  rw [hd] at k4
  unfold tkP at k4
  rw [if_pos rfl] at k4
  generalize numR 8 l2 0 = q at k4 k6 k7 cM
  obtain ⟨v,l3,e3⟩:=q
  simp only at k4 k6 k7 cM
  refine aB 432 ?_
  refine rO [0] [] (cM) ?_
  refine RG.go fun Q hQ=>?_
  simp (disch:=first | (intros;contradiction) | omega | (simp only [zN];omega)) only [zS,zW,simprocAttr]
  have e6 : acc.map nrow ++ [[.v (.int .i64 (v : Int))]] = (acc ++ [(v : Int)]).map nrow:=by rw [List.map_append];rfl
  repeat refine ⟨by ((simp;omega)),?_⟩
  refine hQ (RG.nil ?_)
  simp only [zX]
  refine aS 576 (fun Q hQ=>by simp (disch:=first | (intros;contradiction) | omega | (simp only [zN];omega)) only [zS,zW,e6,simprocAttr];exact hQ) ?_
  refine ⟨⟨(i + 1,acc ++ [(v : Int)],l3,e3),by simp only;omega,by simp;omega,k6,by simp only;rw [show m - (i + 1) = d by omega];exact k4⟩,?_,by first | omega | (simp only;omega)⟩
  refine Le.lit [] [(5000,512)] _ _ ?_ ?_ ?_ ?_
  ·simp only [zL,simprocAttr]
   all_goals (try ((repeat' (rfl))))
  ·simp only [zL,simprocAttr]
   all_goals (try (exact drows_nrow _))
  ·simp [rlook]
  ·(intro k hk;simp [rlook];omega)
 try simp at hf
 simp only [zX,↓reduceIte]
 have hR2 : R = (acc,l2,e2):=by
  rw [← k4]
  cases hmi : m - i with
  | zero=>rfl
  | succ d=>unfold tkP;rw [if_neg (by omega)]
 rw [hR2]
 refine aR 656 ?_
 refine Fin.objs [] [(1,5000)] (.inr rfl) rfl (by exact trivial) ?_ ?_ (by simp [objL,rlook]) (by (simp [objL,rlook];done))
 ·simp only [zL,simprocAttr]
 ·simp only [zL,simprocAttr]
  all_goals (try (exact drows_nrow _))

def tkI : Nat→List IT→List Nat→Nat→List IT × List Nat × Nat
 | 0,acc,l,e=>(acc,l,e)
 | k + 1,acc,l,e =>
  if e = 0 then tkI k (acc ++ [⟨((numR 256 l e).1 : Int),(lumpR 32 (numR 256 l e).2.1 (numR 256 l e).2.2).1⟩]) (lumpR 32 (numR 256 l e).2.1 (numR 256 l e).2.2).2.1 (lumpR 32 (numR 256 l e).2.1 (numR 256 l e).2.2).2.2
  else (acc,l,e)
def takeI (l : List Nat) (e : Nat) : List IT × List Nat × Nat:=tkI (numR 8 l e).1 [] (numR 8 l e).2.1 (numR 8 l e).2.2

structure ItsOk (n : Nat) (its : List IT) : Prop where
 b8 : byI its
 len : its.length≤8
 d : ∀ x ∈ its,x.d.length≤n

theorem tkI_ok {n : Nat} : ∀ (k : Nat) (acc : List IT) (l : List Nat) (e : Nat),RestOk n l→byI acc→(∀ x ∈ acc,x.d.length≤n)→acc.length + k≤8→ItsOk n (tkI k acc l e).1∧RestOk n (tkI k acc l e).2.1
 | 0,acc,l,e,h1,h2,h3,h4=>⟨⟨h2,by unfold tkI;omega,h3⟩,h1⟩
 | k + 1,acc,l,e,h1,h2,h3,h4=>by
  unfold tkI
  split
  ·have g1:=h1.num 256 e
   have g2:=g1.lump 32 (numR 256 l e).2.2
   have g3:=lumpR_mem (most:=32) (e:=(numR 256 l e).2.2) g1.b8
   have g4:=lumpR_len (most:=32) (l:=(numR 256 l e).2.1) (e:=(numR 256 l e).2.2)
   refine tkI_ok k _ _ _ g2 ?_ ?_ (by simp;omega)
   ·intro x hx
    rcases List.mem_append.1 hx with hx | hx
    ·exact h2 x hx
    ·simp only [List.mem_singleton] at hx;subst hx;exact g3.1
   ·intro x hx
    rcases List.mem_append.1 hx with hx | hx
    ·exact h3 x hx
    ·simp only [List.mem_singleton] at hx;subst hx;have:=g1.len;exact Nat.le_trans g4.1 this
  ·exact ⟨⟨h2,by show acc.length≤8;omega,h3⟩,h1⟩
theorem takeI_ok {n : Nat} {l : List Nat} (e : Nat) (h : RestOk n l) : ItsOk n (takeI l e).1∧RestOk n (takeI l e).2.1:=by
 have : (numR 8 l e).1≤8:=numR_le
 exact tkI_ok _ _ _ _ (h.num 8 e) (fun x hx=>by cases hx) (fun x hx=>by cases hx) (by simpa using this)
theorem tkP_ok {n : Nat} : ∀ (k : Nat) (acc : List Int) (l : List Nat) (e : Nat),RestOk n l→acc.length + k≤256→(tkP k acc l e).1.length≤256∧RestOk n (tkP k acc l e).2.1
 | 0,acc,l,e,h1,h4=>⟨by unfold tkP;simpa using h4,h1⟩
 | k + 1,acc,l,e,h1,h4=>by
  unfold tkP
  split
  ·exact tkP_ok k _ _ _ (h1.num 8 e) (by simp;omega)
  ·exact ⟨by show acc.length≤256;omega,h1⟩
theorem takeP_ok {n : Nat} {l : List Nat} (e : Nat) (h : RestOk n l) : (takeP l e).1.length≤256∧RestOk n (takeP l e).2.1:=by
 have : (numR 256 l e).1≤256:=numR_le
 exact tkP_ok _ _ _ _ (h.num 256 e) (by simpa using this)

theorem TakeItems_con (l : List Nat) (e n : Nat) (hl : RestOk n l) (hn : n≤100000000000000) :
  Con Try.prog 89 [.c (.bp 0 0)] [Rd l e] (.c (.osl 1)) [Rd (takeI l e).2.1 (takeI l e).2.2,.arr 76 2 ((takeI l e).1.map irow) false]:=by
 have h1:=hl.len
 have hq:=hl.num 8 e
 have hm : (numR 8 l e).1≤8:=numR_le
 have cN:=mementoref1_Reader_Num_con l e 8 hl.b8 (by omega)
 generalize hR : takeI l e = R
 unfold takeI at hR
 generalize numR 8 l e = q at hR hq hm cN
 obtain ⟨m,l1,e1⟩:=q
 simp only at hR hq hm cN
 refine C_mementoref13_TakeItems nl nl ?_
 simp only [cz,A_mementoref13_TakeItems,argL,objL,List.length_nil,List.length_cons,Nat.zero_add,zX]
 refine aR 16 ?_
 refine aR 64 ?_
 refine aB 112 ?_
 refine rO [0] [] (cN) ?_
 refine aE ?_
 refine aR 192 ?_
 refine aw_loopK (X:={ p : Nat × List IT × List Nat × Nat // p.1≤m∧p.2.1.length≤p.1∧RestOk n p.2.2.1∧tkI (m - p.1) p.2.1 p.2.2.1 p.2.2.2 = R }) [0,4] (fun p=>[(3,.c (.osl 5000)),(5,.c (.v (.int .u64 p.1.1)))]) [] (fun p=>[(0,Rd p.1.2.2.1 p.1.2.2.2),(5000,.arr 76 2 (p.1.2.1.map irow) false)]) (fun p=>m - p.1.1) (⟨(0,[],l1,e1),by simp only;omega,by simp,hq,hR⟩) ?_ ?_
 ·skip
  simp only [keepS,keepE,lk_cons,List.cons_append,List.nil_append,simprocAttr]
  refine (Le.own 3 5000 76 2 rfl rfl (by decide)).trans ?_
  simp only [setS_cons,setE_cons,setE_nil,simprocAttr]
  refine Le.lit [] [] _ _ ?_ ?_ ?_ ?_
  ·simp only [zL,simprocAttr]
  ·simp only [zL,simprocAttr]
   all_goals (try ((repeat' (((simp [C.isD];done))))))
  ·simp [rlook]
  ·(intro k hk;simp [rlook];omega)
 rintro ⟨⟨i,acc,l2,e2⟩,k1,k2,k3,k4⟩
 simp only [keepS,keepE,lk_cons,List.cons_append,List.nil_append,simprocAttr]
 simp only [zX]
 simp only at k1 k2 k3 k4
 refine aR 240 ?_
 refine aw_cond _ rfl trivial (fun ht=>?_) (fun hf=>?_)
 ·skip
  try simp at ht
  simp only [zX]
  obtain ⟨d,hd⟩ : ∃ d,m - i = d + 1:=⟨m - i - 1,by omega⟩
  obtain rfl : e2 = 0:=by omega
  have k5:=k3.len
  have k6:=k3.num 256 0
  have k7 : (numR 256 l2 0).1≤256:=numR_le
  have cM:=mementoref1_Reader_Num_con l2 0 256 k3.b8 (by omega)
  rw [hd] at k4
  unfold tkI at k4
  rw [if_pos rfl] at k4
  generalize numR 256 l2 0 = q at k4 k6 k7 cM
  obtain ⟨v,l3,e3⟩:=q
  simp only at k4 k6 k7 cM
  have k8:=k6.len
  have k9:=k6.lump 32 e3
  have ka:=lumpR_len (most:=32) (l:=l3) (e:=e3)
  have cL:=mementoref1_Reader_Lump_con l3 e3 32 k6.b8 (by omega) (by omega)
  generalize lumpR 32 l3 e3 = q at k4 k9 ka cL
  obtain ⟨bs,l4,e4⟩:=q
  simp only at k4 k9 ka cL
  refine aB 432 ?_
  refine rO [0] [] (cM) ?_
  refine aEs (fun Q hQ=>by simp (disch:=first | (intros;contradiction) | omega | (simp only [zN];omega)) only [zS,zW,simprocAttr];exact hQ) ?_
  refine aB 528 ?_
  refine rO [0] [] (cL) ?_
  refine RG.go fun Q hQ=>?_
  simp (disch:=intros;contradiction) only [zS,zW,simprocAttr]
  repeat refine ⟨by (first | exact ⟨by (intro q hq;obtain ⟨_,_,rfl⟩:=List.mem_map.1 hq;rfl),by omega⟩ | (simp;omega)),?_⟩
  refine hQ (RG.nil ?_)
  simp only [zX]
  refine aS 704 (fun Q hQ=>by simp (disch:=first | (intros;contradiction) | omega | (simp only [zN];omega)) only [zS,zW,simprocAttr];exact hQ) ?_
  refine ⟨⟨(i + 1,acc ++ [⟨(v : Int),bs⟩],l4,e4),by simp only;omega,by simp;omega,k9,by simp only;rw [show m - (i + 1) = d by omega];exact k4⟩,?_,by first | omega | (simp only;omega)⟩
  refine (Le.tell [592] 640 76 2 _ ((acc ++ [(⟨(v : Int),bs⟩ : IT)]).map irow) false rfl (by rw [List.map_append];refine tell_app ?_ _;exact ⟨⟨.inl rfl,.inr (.inr ⟨_,_,_,_,rfl,rfl,rfl,drows_brow _⟩),trivial⟩,trivial⟩)).trans ?_
  refine Le.lit [] [(5000,640)] _ _ ?_ ?_ ?_ ?_
  ·simp only [zL,simprocAttr]
   all_goals (try ((repeat' (rfl))))
  ·simp only [zL,simprocAttr]
   all_goals (try ((repeat' ((exact drows_irow _)))))
  ·simp [rlook]
  ·(intro k hk;simp [rlook];omega)
 try simp at hf
 simp only [zX,↓reduceIte]
 have hR2 : R = (acc,l2,e2):=by
  rw [← k4]
  cases hmi : m - i with
  | zero=>rfl
  | succ d=>unfold tkI;rw [if_neg (by omega)]
 rw [hR2]
 refine aR 784 ?_
 refine Fin.objs [] [(1,5000)] (.inr rfl) rfl (by exact trivial) ?_ ?_ (by simp [objL,rlook]) (by (simp [objL,rlook];done))
 ·simp only [zL,simprocAttr]
 ·simp only [zL,simprocAttr]
  all_goals (try ((repeat' ((exact drows_irow _)))))

abbrev NR:=Nat × List Nat × Nat
def rc10 (a b c d e f g h : Nat) (p : List Int × List Nat × Nat) : CMD × List Nat × Nat:=(⟨a,b,c,d,e,p.1,f,g,h,(takeI p.2.1 p.2.2).1⟩,(takeI p.2.1 p.2.2).2)
def rc9 (a b c d e f g : Nat) (q : NR) : CMD × List Nat × Nat:=rc10 a b c d e f g q.1 (takeP q.2.1 q.2.2)
def rc8 (a b c d e f : Nat) (q : NR) : CMD × List Nat × Nat:=rc9 a b c d e f q.1 (numR 1099511627776 q.2.1 q.2.2)
def rc7 (a b c d e : Nat) (q : NR) : CMD × List Nat × Nat:=rc8 a b c d e q.1 (numR 1099511627776 q.2.1 q.2.2)
def rc6 (a b c d : Nat) (q : NR) : CMD × List Nat × Nat:=rc7 a b c d q.1 (numR 1099511627776 q.2.1 q.2.2)
def rc5 (a b c : Nat) (q : NR) : CMD × List Nat × Nat:=rc6 a b c q.1 (numR 1099511627776 q.2.1 q.2.2)
def rc4 (a b : Nat) (q : NR) : CMD × List Nat × Nat:=rc5 a b q.1 (numR 1099511627776 q.2.1 q.2.2)
def rc3 (a : Nat) (q : NR) : CMD × List Nat × Nat:=rc4 a q.1 (numR 1099511627776 q.2.1 q.2.2)
def rc2 (q : NR) : CMD × List Nat × Nat:=rc3 q.1 (numR 8 q.2.1 q.2.2)
def rawC (l : List Nat) : CMD × List Nat × Nat:=rc2 (numR 8 l 0)
def zeroC : CMD:=⟨0,0,0,0,0,[],0,0,0,[]⟩
def readC (l : List Nat) : CMD × Int:=if (rawC l).2.2≠0∨cmdR (rawC l).1 = false∨cmdB (rawC l).1≠l then (zeroC,20) else ((rawC l).1,0)

theorem rc10_ok {n a b c d e f g h : Nat} (p : List Int × List Nat × Nat) (h1 : p.1.length≤256) (h2 : RestOk n p.2.1) : (rc10 a b c d e f g h p).1.place.length≤256∧ItsOk n (rc10 a b c d e f g h p).1.items :=
 ⟨h1,(takeI_ok _ h2).1⟩
theorem rawC_ok {n : Nat} {l : List Nat} (h : RestOk n l) : (rawC l).1.place.length≤256∧ItsOk n (rawC l).1.items:=by
 unfold rawC
 have h:=h.num 8 0
 generalize numR 8 l 0 = q at h
 unfold rc2
 have h:=h.num 8 q.2.2
 generalize numR 8 q.2.1 q.2.2 = q1 at h
 unfold rc3
 have h:=h.num 1099511627776 q1.2.2
 generalize numR 1099511627776 q1.2.1 q1.2.2 = q2 at h
 unfold rc4
 have h:=h.num 1099511627776 q2.2.2
 generalize numR 1099511627776 q2.2.1 q2.2.2 = q3 at h
 unfold rc5
 have h:=h.num 1099511627776 q3.2.2
 generalize numR 1099511627776 q3.2.1 q3.2.2 = q4 at h
 unfold rc6
 have h:=h.num 1099511627776 q4.2.2
 generalize numR 1099511627776 q4.2.1 q4.2.2 = q5 at h
 unfold rc7
 have h:=h.num 1099511627776 q5.2.2
 generalize numR 1099511627776 q5.2.1 q5.2.2 = q6 at h
 unfold rc8
 have h:=h.num 1099511627776 q6.2.2
 generalize numR 1099511627776 q6.2.1 q6.2.2 = q7 at h
 unfold rc9
 obtain ⟨k1,k2⟩:=takeP_ok q7.2.2 h
 exact rc10_ok _ k1 k2
theorem num7_by (n : Nat) : ∀ c ∈ num7 n,c < 256:=by
 induction n using Nat.strongRecOn with
 | _ n ih =>
  intro c hc
  unfold num7 at hc
  split at hc
  ·simp at hc;omega
  ·rcases List.mem_cons.1 hc with rfl | hc
   ·omega
   ·exact ih (n / 128) (by omega) c hc
theorem putS_by (l : List Nat) : ∀ c ∈ putS l,c < 256:=by
 intro c hc
 unfold putS at hc
 obtain ⟨n,_,hc⟩:=List.mem_flatMap.1 hc
 exact num7_by n c hc
theorem cmdB_by (c : CMD) (h : byI c.items) : ∀ x ∈ cmdB c,x < 256:=by
 intro x hx
 unfold cmdB placeB itemsB itsB numsL at hx
 simp only [List.mem_append] at hx
 rcases hx with (hx | hx | hx) | hx | hx
 ·exact putS_by _ _ hx
 ·exact putS_by _ _ hx
 ·exact putS_by _ _ hx
 ·exact putS_by _ _ hx
 ·obtain ⟨y,hy,hx⟩:=List.mem_flatMap.1 hx
  unfold itB at hx
  simp only [List.mem_append] at hx
  rcases hx with hx | hx | hx
  ·exact putS_by _ _ hx
  ·exact num7_by _ _ hx
  ·exact h y hy x hx
end Go.Abs

namespace Go.Abs
open Go Go.Proofs
set_option maxRecDepth 100000
set_option linter.unusedSimpArgs false
set_option maxHeartbeats 8000000

theorem readC_no {l : List Nat} (h : (rawC l).2.2≠0∨cmdR (rawC l).1 = false∨cmdB (rawC l).1≠l) : readC l = (zeroC,20):=by unfold readC;rw [if_pos h]
theorem readC_yes {l : List Nat} (h : ¬ ((rawC l).2.2≠0∨cmdR (rawC l).1 = false∨cmdB (rawC l).1≠l)) : readC l = ((rawC l).1,0):=by unfold readC;rw [if_neg h]

theorem ReadCmd_con (l : List Nat) (h8 : ∀ c ∈ l,c < 256) (hn : l.length≤1000000) :
  Con Try.prog 75 [.c (.sl (l.map brow))] [] (.tup [.agg (cmdC (readC l).1),I (readC l).2]) []:=by
 have hok:=rawC_ok (n:=1000000) (l:=l) ⟨h8,hn⟩
 have hr : RestOk 1000000 l:=⟨h8,hn⟩
 obtain ⟨R,hR⟩ : ∃ R,R = rawC l:=⟨_,rfl⟩
 have hno:=readC_no (l:=l)
 have hyes:=readC_yes (l:=l)
 rw [← hR] at hok hno hyes
 unfold rawC at hR
 have c1:=mementoref1_Reader_Num_con l 0 8 hr.b8 (by have:=hr.len;omega)
 have g1:=hr.num 8 0
 have k1 : (numR 8 l 0).1≤8:=numR_le
 generalize numR 8 l 0 = q at hR c1 g1 k1
 obtain ⟨a1,l1,e1⟩:=q
 simp only at c1 g1 k1
 unfold rc2 at hR
 simp only at hR
 have c2:=mementoref1_Reader_Num_con l1 e1 8 g1.b8 (by have:=g1.len;omega)
 have g2:=g1.num 8 e1
 have k2 : (numR 8 l1 e1).1≤8:=numR_le
 generalize numR 8 l1 e1 = q at hR c2 g2 k2
 obtain ⟨a2,l2,e2⟩:=q
 simp only at c2 g2 k2
 unfold rc3 at hR
 simp only at hR
 have c3:=mementoref1_Reader_Num_con l2 e2 1099511627776 g2.b8 (by have:=g2.len;omega)
 have g3:=g2.num 1099511627776 e2
 have k3 : (numR 1099511627776 l2 e2).1≤1099511627776:=numR_le
 generalize numR 1099511627776 l2 e2 = q at hR c3 g3 k3
 obtain ⟨a3,l3,e3⟩:=q
 simp only at c3 g3 k3
 unfold rc4 at hR
 simp only at hR
 have c4:=mementoref1_Reader_Num_con l3 e3 1099511627776 g3.b8 (by have:=g3.len;omega)
 have g4:=g3.num 1099511627776 e3
 have k4 : (numR 1099511627776 l3 e3).1≤1099511627776:=numR_le
 generalize numR 1099511627776 l3 e3 = q at hR c4 g4 k4
 obtain ⟨a4,l4,e4⟩:=q
 simp only at c4 g4 k4
 unfold rc5 at hR
 simp only at hR
 have c5:=mementoref1_Reader_Num_con l4 e4 1099511627776 g4.b8 (by have:=g4.len;omega)
 have g5:=g4.num 1099511627776 e4
 have k5 : (numR 1099511627776 l4 e4).1≤1099511627776:=numR_le
 generalize numR 1099511627776 l4 e4 = q at hR c5 g5 k5
 obtain ⟨a5,l5,e5⟩:=q
 simp only at c5 g5 k5
 unfold rc6 at hR
 simp only at hR
 have c6:=mementoref1_Reader_Num_con l5 e5 1099511627776 g5.b8 (by have:=g5.len;omega)
 have g6:=g5.num 1099511627776 e5
 have k6 : (numR 1099511627776 l5 e5).1≤1099511627776:=numR_le
 generalize numR 1099511627776 l5 e5 = q at hR c6 g6 k6
 obtain ⟨a6,l6,e6⟩:=q
 simp only at c6 g6 k6
 unfold rc7 at hR
 simp only at hR
 have c7:=mementoref1_Reader_Num_con l6 e6 1099511627776 g6.b8 (by have:=g6.len;omega)
 have g7:=g6.num 1099511627776 e6
 have k7 : (numR 1099511627776 l6 e6).1≤1099511627776:=numR_le
 generalize numR 1099511627776 l6 e6 = q at hR c7 g7 k7
 obtain ⟨a7,l7,e7⟩:=q
 simp only at c7 g7 k7
 unfold rc8 at hR
 simp only at hR
 have c8:=mementoref1_Reader_Num_con l7 e7 1099511627776 g7.b8 (by have:=g7.len;omega)
 have g8:=g7.num 1099511627776 e7
 have k8 : (numR 1099511627776 l7 e7).1≤1099511627776:=numR_le
 generalize numR 1099511627776 l7 e7 = q at hR c8 g8 k8
 obtain ⟨a8,l8,e8⟩:=q
 simp only at c8 g8 k8
 unfold rc9 at hR
 simp only at hR
 have cP:=takePlace_con l8 e8 1000000 g8 (by omega)
 have gP:=takeP_ok e8 g8
 generalize takeP l8 e8 = q at hR cP gP
 obtain ⟨pl,l9,e9⟩:=q
 simp only at cP gP
 unfold rc10 at hR
 simp only at hR
 have cI:=TakeItems_con l9 e9 1000000 gP.2 (by omega)
 have gI:=takeI_ok e9 gP.2
 generalize takeI l9 e9 = q at hR cI gI
 obtain ⟨its,l10,e10⟩:=q
 simp only at cI gI hR
 subst hR
 obtain ⟨hpl,hi1,hi2,hi3⟩:=hok
 simp only at hpl hi1 hi2 hi3 hno hyes
 have cC:=PutCmd_con ⟨a1,a2,a3,a4,a5,pl,a6,a7,a8,its⟩ (by simp only;omega) (by simp only;omega) (fun x hx=>hi3 x hx)
 have hby : ∀ c ∈ (if cmdR ⟨a1,a2,a3,a4,a5,pl,a6,a7,a8,its⟩ = true then cmdB ⟨a1,a2,a3,a4,a5,pl,a6,a7,a8,its⟩ else []),c < 256:=by
  split
  ·exact cmdB_by _ hi1
  ·simp
 have hs:=str_eq _ l hby h8
 refine C_mementoref16_ReadCmd nl nl ?_
 simp only [cz,A_mementoref16_ReadCmd,argL,objL,List.length_nil,zX]
 refine aR 16 ?_
 refine aR 80 ?_
 refine aR 176 ?_
 refine aB 224 ?_
 refine rO [112] [] (c1) ?_
 refine aEs (fun Q hQ=>by simp (disch:=first | (intros;contradiction) | omega | (simp only [zN];omega)) only [zS,zW,simprocAttr];exact hQ) ?_
 refine aB 336 ?_
 refine rO [112] [] (c2) ?_
 refine aEs (fun Q hQ=>by simp (disch:=first | (intros;contradiction) | omega | (simp only [zN];omega)) only [zS,zW,simprocAttr];exact hQ) ?_
 refine aB 448 ?_
 refine rO [112] [] (c3) ?_
 refine aEs (fun Q hQ=>by simp (disch:=first | (intros;contradiction) | omega | (simp only [zN];omega)) only [zS,zW,simprocAttr];exact hQ) ?_
 refine aB 560 ?_
 refine rO [112] [] (c4) ?_
 refine aEs (fun Q hQ=>by simp (disch:=first | (intros;contradiction) | omega | (simp only [zN];omega)) only [zS,zW,simprocAttr];exact hQ) ?_
 refine aB 672 ?_
 refine rO [112] [] (c5) ?_
 refine aEs (fun Q hQ=>by simp (disch:=first | (intros;contradiction) | omega | (simp only [zN];omega)) only [zS,zW,simprocAttr];exact hQ) ?_
 refine aB 784 ?_
 refine rO [112] [] (c6) ?_
 refine aEs (fun Q hQ=>by simp (disch:=first | (intros;contradiction) | omega | (simp only [zN];omega)) only [zS,zW,simprocAttr];exact hQ) ?_
 refine aB 896 ?_
 refine rO [112] [] (c7) ?_
 refine aEs (fun Q hQ=>by simp (disch:=first | (intros;contradiction) | omega | (simp only [zN];omega)) only [zS,zW,simprocAttr];exact hQ) ?_
 refine aB 1008 ?_
 refine rO [112] [] (c8) ?_
 refine aEs (fun Q hQ=>by simp (disch:=first | (intros;contradiction) | omega | (simp only [zN];omega)) only [zS,zW,simprocAttr];exact hQ) ?_
 refine aB 1120 ?_
 refine rO [112] [] (cP) ?_
 refine aE ?_
 refine aB 1216 ?_
 refine rO [112] [] (cI) ?_
 refine aE ?_
 refine aB 1312 ?_
 refine rO [] [1136,1232] (cC) ?_
 refine aE ?_
 refine aw_reg 1456 (RG.go fun Q hQ=>?_)
 simp (disch:=intros;contradiction) only [zS,hs,simprocAttr]
 repeat refine ⟨by (first | exact fun h=>⟨isByteRow_brow _,h⟩ | (simp;done)),?_⟩
 refine hQ (RG.nil ?_)
 simp only [zX]
 refine aw_cond _ rfl trivial (fun ht=>?_) (fun hf=>?_)
 ·skip
  try simp at ht
  simp only [zX]
  rw [hno (by
   rcases ht with (h | h) | h
   ·exact .inl (by omega)
   ·refine .inr (.inl ?_)
    cases hc : cmdR ⟨a1,a2,a3,a4,a5,pl,a6,a7,a8,its⟩ with
    | false=>rfl
    | true=>simp [hc] at h
   ·cases hc : cmdR ⟨a1,a2,a3,a4,a5,pl,a6,a7,a8,its⟩ with
    | false=>exact .inr (.inl rfl)
    | true=>refine .inr (.inr ?_);simpa [hc] using h)]
  refine aR 1744 ?_
  refine Fin.data [] (.inr rfl) rfl (by (exact ⟨trivial,trivial⟩)) ?_
  simp only [zL,simprocAttr]
  all_goals ((repeat' (first | exact trivial | rfl | refine ⟨?_,?_⟩)))
 try simp at hf
 simp only [zX]
 obtain ⟨⟨hf1,hf2⟩,hf3⟩:=hf
 rw [if_pos hf2] at hf3
 rw [hyes (by
  rintro (h | h | h)
  ·exact h hf1
  ·rw [hf2] at h;cases h
  ·exact h hf3)]
 refine aR 1824 ?_
 refine Fin.data [1136,1232] (.inr rfl) rfl (by (exact ⟨trivial,trivial⟩)) ?_
 simp only [zL,simprocAttr]
 all_goals ((repeat' (first | exact trivial | rfl | (refine ⟨⟨_,_,rfl⟩,?_⟩;(first | exact drows_nrow _ | exact drows_irow _)) | refine ⟨?_,?_⟩)))

end Go.Abs

namespace Go.Abs
open Go Go.Proofs
set_option maxRecDepth 100000
set_option linter.unusedSimpArgs false
set_option maxHeartbeats 4000000

theorem drows_vol (l : List VOL) : isDRows (l.map volC):=by
 intro r hr c hc
 obtain ⟨p,_,rfl⟩:=List.mem_map.1 hr
 exact volC_pure p c hc
abbrev MB (L : List VOL) : Ent:=.box [.sl (L.map volC)]

def idxV (id : Int) : List VOL→Nat→Int
 | [],_=>-1
 | v :: l,i=>if v.id = id then i else idxV id l (i + 1)
theorem idxV_cases (id : Int) : ∀ (l : List VOL) (i : Nat),(idxV id l i = -1∧∀ v ∈ l,v.id≠id)∨∃ (k : Nat) (hk : k < l.length),idxV id l i = ((i + k : Nat) : Int)∧l[k].id = id
 | [],i=>.inl ⟨rfl,fun v hv=>by cases hv⟩
 | v :: l,i=>by
  unfold idxV
  split
  ·rename_i h;exact .inr ⟨0,by simp,rfl,h⟩
  ·rename_i h
   rcases idxV_cases id l (i + 1) with ⟨h1,h2⟩ | ⟨k,hk,h1,h2⟩
   ·refine .inl ⟨h1,fun w hw=>?_⟩
    rcases List.mem_cons.1 hw with rfl | hw
    ·exact h
    ·exact h2 w hw
   ·exact .inr ⟨k + 1,by simpa using hk,by rw [h1,show i + 1 + k = i + (k + 1) by omega],by simpa using h2⟩

theorem find_con (L : List VOL) (id : Int) (hL : L.length≤1000000) : Con Try.prog 70 [.c (.bp 0 0),I id] [MB L] (I (idxV id L 0)) [MB L]:=by
 generalize hR : idxV id L 0 = R
 refine C_mementoref16_Machine_find nl nl ?_
 simp only [cz,A_mementoref16_Machine_find,argL,objL,List.length_nil,List.length_cons,Nat.zero_add,zX]
 refine aR 16 ?_
 refine aR 64 ?_
 refine aw_loopK (X:={ i : Nat // i≤L.length∧idxV id (L.drop i) i = R }) [0,1] (fun i=>[(5,I i.1)]) [0] (fun i=>[]) (fun i=>L.length - i.1) (⟨0,by omega,hR⟩) ?_ ?_
 ·skip
  simp only [keepS,keepE,Option.getD_some,lk_cons,lkE_cons,List.cons_append,List.nil_append,simprocAttr]
  refine Le.lit [] [] _ _ ?_ ?_ ?_ ?_
  ·simp only [zL,simprocAttr]
  ·simp only [zL,↓reduceIte]
  ·simp [rlook]
  ·(intro k hk;simp [rlook];omega)
 rintro ⟨i,hi,hr⟩
 simp only [keepS,keepE,Option.getD_some,lk_cons,lkE_cons,List.cons_append,List.nil_append,simprocAttr]
 simp only [zX]
 refine aS 112 (fun Q hQ=>by simp (disch:=intros;contradiction) only [zS,zW,simprocAttr];exact hQ) ?_
 refine aw_cond _ rfl trivial (fun ht=>?_) (fun hf=>?_)
 ·skip
  try simp at ht
  simp only [zX]
  have h1 : i < L.length:=by omega
  rw [drop_get h1] at hr
  unfold idxV at hr
  refine aS 256 (fun Q hQ=>by simp (disch:=first | (intros;contradiction) | omega | (simp only [zN];omega)) only [zS,zW,volC,vC,simprocAttr];repeat refine ⟨by (omega),?_⟩;exact hQ) ?_
  refine aw_cond _ rfl trivial (fun ht=>?_) (fun hf=>?_)
  ·skip
   try simp at ht
   simp only [zX]
   rw [if_pos ht] at hr
   refine aR 448 ?_
   rw [← hr]
   refine Fin.objs [] [] (.inr rfl) rfl (by exact trivial) ?_ ?_ (by simp [objL,rlook]) (by (simp [objL,rlook];done))
   ·simp only [zL,simprocAttr]
   ·simp only [zL,↓reduceIte]
  try simp at hf
  simp only [zX]
  rw [if_neg hf] at hr
  refine aS 512 (fun Q hQ=>by simp (disch:=first | (intros;contradiction) | omega | (simp only [zN];omega)) only [zS,zW,simprocAttr];exact hQ) ?_
  refine ⟨⟨i + 1,h1,hr⟩,?_,by first | omega | (simp only;omega)⟩
  refine Le.lit [] [] _ _ ?_ ?_ ?_ ?_
  ·simp only [zL,simprocAttr]
   all_goals (try ((repeat' (rfl))))
  ·simp only [zL,↓reduceIte]
  ·simp [rlook]
  ·(intro k hk;simp [rlook];omega)
 try simp at hf
 simp only [zX,↓reduceIte]
 have hr' : R = -1:=by rw [← hr,List.drop_of_length_le (by omega)];rfl
 refine aR 592 ?_
 rw [hr']
 refine Fin.objs [] [] (.inr rfl) rfl (by exact trivial) ?_ ?_ (by simp [objL,rlook]) (by (simp [objL,rlook];done))
 ·simp only [zL,simprocAttr]
 ·simp only [zL,↓reduceIte]

def volM (L : List VOL) (id : Int) : VOL × Bool:=if idxV id L 0 < 0 then (zeroV,false) else (L.getD (idxV id L 0).toNat zeroV,true)
theorem MVolume_con (L : List VOL) (id : Int) (hL : L.length≤1000000) : Con Try.prog 52 [.c (.bp 0 0),I id] [MB L] (.tup [.agg (volC (volM L id).1),B (volM L id).2]) [MB L]:=by
 have cF:=find_con L id hL
 rcases idxV_cases id L 0 with ⟨h1,_⟩ | ⟨k,hk,h1,_⟩
 ·rw [show volM L id = (zeroV,false) from by unfold volM;rw [h1,if_pos (by decide)]]
  rw [h1] at cF
  refine C_mementoref16_Machine_Volume nl nl ?_
  simp only [cz,A_mementoref16_Machine_Volume,argL,objL,List.length_nil,List.length_cons,Nat.zero_add,zX]
  refine aR 16 ?_
  refine aB 80 ?_
  refine rO [0] [] (cF) ?_
  refine aE ?_
  refine aR 176 ?_
  refine aT ?_
  refine aR 240 ?_
  refine Fin.objs [] [] (.inr rfl) rfl (by exact ⟨trivial,trivial⟩) ?_ ?_ (by simp [objL,rlook]) (by (simp [objL,rlook];done))
  ·simp only [zL,simprocAttr]
   all_goals ((repeat' (first | exact trivial | rfl | refine ⟨?_,?_⟩)))
  ·simp only [zL,↓reduceIte]

 ·rw [Nat.zero_add] at h1
  rw [show volM L id = (L[k],true) from by unfold volM;rw [h1,if_neg (by omega),Int.toNat_natCast,List.getD_eq_getElem?_getD,List.getElem?_eq_getElem hk];rfl]
  rw [h1] at cF
  refine C_mementoref16_Machine_Volume nl nl ?_
  simp only [cz,A_mementoref16_Machine_Volume,argL,objL,List.length_nil,List.length_cons,Nat.zero_add,zX]
  refine aR 16 ?_
  refine aB 80 ?_
  refine rO [0] [] (cF) ?_
  refine aE ?_
  refine aR 176 ?_
  refine aF ?_
  refine aS 240 (fun Q hQ=>by simp (disch:=first | (intros;contradiction) | omega | (simp only [zN];omega)) only [zS,zW,vC_eq,simprocAttr];repeat refine ⟨by (omega),?_⟩;exact hQ) ?_
  refine Fin.objs [] [] (.inr rfl) rfl (by exact ⟨trivial,trivial⟩) ?_ ?_ (by simp [objL,rlook]) (by (simp [objL,rlook];done))
  ·simp only [zL,simprocAttr]
   all_goals ((repeat' (first | exact trivial | rfl | refine ⟨?_,?_⟩)))
  ·simp only [zL,↓reduceIte]

def insM (v : VOL) (L : List VOL) : List VOL:=L.takeWhile (fun w=>decide (w.id < v.id)) ++ v :: L.dropWhile (fun w=>decide (w.id < v.id))
structure RP where
 e : Int
 len : Int
 floor : Int
 next : Int
def appM (L : List VOL) (d : List Nat) : List VOL × RP :=
  if (readC d).2≠0 then (L,⟨20,0,0,0⟩)
  else if (readC d).1.kind = 1 then
    (if 0≤idxV (readC d).1.vol L 0 then (L,⟨29,0,0,0⟩)
     else if (newR (readC d).1).2≠0 then (L,⟨(newR (readC d).1).2,0,0,0⟩)
     else (insM (newR (readC d).1).1 L,⟨0,0,0,0⟩))
  else if idxV (readC d).1.vol L 0 < 0 then (L,⟨28,0,0,0⟩)
  else (L.set (idxV (readC d).1.vol L 0).toNat (doV (L.getD (idxV (readC d).1.vol L 0).toNat zeroV) (readC d).1).v,
    ⟨(doV (L.getD (idxV (readC d).1.vol L 0).toNat zeroV) (readC d).1).e,(doV (L.getD (idxV (readC d).1.vol L 0).toNat zeroV) (readC d).1).len,(doV (L.getD (idxV (readC d).1.vol L 0).toNat zeroV) (readC d).1).floor,(doV (L.getD (idxV (readC d).1.vol L 0).toNat zeroV) (readC d).1).next⟩)

theorem readC_ok {d : List Nat} {c : CMD} {n : Nat} (hd : RestOk n d) (h : readC d = (c,0)) : cmdR c = true∧byI c.items∧c.place.length≤256∧c.items.length≤8∧∀ x ∈ c.items,x.d.length≤n:=by
 unfold readC at h
 split at h
 ·cases h
 ·rename_i hn
  cases h
  obtain ⟨h1,h2,h3,h4⟩:=rawC_ok hd
  refine ⟨?_,h2,h1,h3,h4⟩
  cases hc : cmdR (rawC d).1 with
  | true=>rfl
  | false=>exact absurd (.inr (.inl hc)) hn
end Go.Abs

namespace Go.Abs
open Go Go.Proofs
set_option maxRecDepth 100000
set_option linter.unusedSimpArgs false
set_option maxHeartbeats 4000000

theorem while_ofV {p : VOL→Bool} : ∀ {l : List VOL} {k : Nat},(l.take k).all p = true→(∀ h : k < l.length,p l[k] = false)→l.takeWhile p = l.take k∧l.dropWhile p = l.drop k
 | [],k,_,_=>by simp
 | x :: l,0,_,h=>by
  have:=h (by simp)
  simp only [List.getElem_cons_zero] at this
  simp [this]
 | x :: l,k + 1,h1,h2=>by
  simp only [List.take_succ_cons,List.all_cons,Bool.and_eq_true] at h1
  have:=while_ofV (l:=l) (k:=k) h1.2 (fun h=>by have:=h2 (by simpa using h);simpa using this)
  simp [h1.1,this.1,this.2]

theorem newR_err (c : CMD) : (newR c).2 = 0∨(newR c).2 = 23:=by unfold newR;split <;> simp

abbrev rpC (r : RP) : SV:=.agg (repC r.e r.len r.floor r.next [])

theorem cmdC_pure (c : CMD) : (SV.agg (cmdC c)).pureD:=by
 intro x hx
 simp only [cmdC,cC,List.mem_cons,List.not_mem_nil,or_false] at hx
 rcases hx with rfl | rfl | rfl | rfl | rfl | rfl | rfl | rfl | rfl | rfl <;> rfl
theorem repC_pure (a b c d : Int) : (SV.agg (repC a b c d [])).pureD:=by
 intro x hx
 simp only [repC,List.mem_cons,List.not_mem_nil,or_false] at hx
 rcases hx with rfl | rfl | rfl | rfl | rfl <;> rfl
theorem doR_pure (d : DO) : (doR d).pureD:=by
 intro s hs
 simp only [List.mem_cons,List.not_mem_nil,or_false] at hs
 rcases hs with rfl | rfl
 ·exact volC_pure _
 ·exact repC_pure _ _ _ _

theorem Apply_con (L : List VOL) (d : List Nat) (n : Nat) (hL : L.length≤1000000) (hg : ∀ v ∈ L,Vgood v n) (hn : n≤50000) (h8 : ∀ c ∈ d,c < 256) (hd : d.length≤1000000) :
  Con Try.prog 54 [.c (.bp 0 0),.c (.sl (d.map brow))] [MB L] (rpC (appM L d).2) [MB (appM L d).1]:=by
 have cR:=ReadCmd_con d h8 hd
 have hok:=fun c h=>readC_ok (d:=d) (c:=c) (n:=1000000) ⟨h8,hd⟩ h
 obtain ⟨Z,hZ⟩ : ∃ Z,Z = appM L d:=⟨_,rfl⟩
 rw [← hZ]
 unfold appM at hZ
 generalize readC d = q at cR hok hZ
 obtain ⟨c,e⟩:=q
 simp only at cR hZ
 by_cases he : e≠0
 ·rw [if_pos he] at hZ
  subst hZ
  refine C_mementoref16_Machine_Apply nl nl ?_
  simp only [cz,A_mementoref16_Machine_Apply,argL,objL,List.length_nil,List.length_cons,Nat.zero_add,zX]
  refine aR 16 ?_
  refine aB 64 ?_
  refine rC [] (cR) ?_ (hs:=(by exact .inr ⟨pureTA (fun x hx=>cmdC_pure _ x hx),trivial⟩))
  refine aEs (fun Q hQ=>by simp (disch:=intros;contradiction) only [zS,cmdC,cC,simprocAttr];exact hQ) ?_
  refine aR 224 ?_
  refine aw_cond _ rfl trivial (fun ht=>?_) (fun hf=>by simp at hf;omega)
  simp only [zX]
  refine aR 288 ?_
  refine Fin.objs [] [] (.inr rfl) rfl (by exact ⟨trivial,trivial⟩) ?_ ?_ (by simp [objL,rlook]) (by (simp [objL,rlook];done))
  ·simp only [zL]
   all_goals ((repeat' (first | exact trivial | rfl | refine ⟨?_,?_⟩)))
  ·simp only [zL,↓reduceIte]

 rw [if_neg he] at hZ
 obtain rfl : e = 0:=by omega
 obtain ⟨k1,k2,k3,k4,k5⟩:=hok c rfl
 have cF:=find_con L c.vol hL
 by_cases hk : c.kind = 1
 ·rw [if_pos hk] at hZ
  rcases idxV_cases c.vol L 0 with ⟨h1,h2⟩ | ⟨k,hkl,h1,h2⟩
  ·rw [h1] at hZ cF
   rw [if_neg (by decide)] at hZ
   have cN:=mementoref16_New_con c (by omega)
   rcases newR_err c with h3 | h3
   ·rw [if_neg (by omega)] at hZ
    have h4 : newR c = (newV c,0):=by
     unfold newR at h3 ⊢
     split at h3
     ·rename_i h;rw [if_pos h]
     ·cases h3
    rw [h4] at cN hZ
    simp only at cN hZ
    subst hZ
    refine C_mementoref16_Machine_Apply nl nl ?_
    simp only [cz,A_mementoref16_Machine_Apply,argL,objL,List.length_nil,List.length_cons,Nat.zero_add,zX]
    refine aR 16 ?_
    refine aB 64 ?_
    refine rC [] (cR) ?_ (hs:=(by exact .inr ⟨pureTA (fun x hx=>cmdC_pure _ x hx),trivial⟩))
    refine aEs (fun Q hQ=>by simp (disch:=intros;contradiction) only [zS,cmdC,cC,simprocAttr];exact hQ) ?_
    refine aR 224 ?_
    refine aF ?_
    refine aB 288 ?_
    refine rO [0] [] (cF) ?_
    refine aE ?_
    refine aS 400 (fun Q hQ=>by simp (disch:=intros;contradiction) only [zS,zW,simprocAttr];repeat refine ⟨by (exact ⟨by (intro q hq;obtain ⟨_,_,rfl⟩:=List.mem_map.1 hq;rfl),by omega⟩),?_⟩;exact hQ) ?_
    refine aR 528 ?_
    refine aw_cond _ rfl trivial (fun ht=>?_) (fun hf=>by simp at hf;omega)
    simp only [zX]
    refine aR 608 ?_
    refine aF ?_
    refine aB 672 ?_
    refine rC [] (cN) ?_ (hs:=(by exact .inr ⟨pureTA (fun x hx=>volC_pure _ x hx),trivial⟩))
    refine aEs (fun Q hQ=>by simp (disch:=intros;contradiction) only [zS,vC_eq,simprocAttr];exact hQ) ?_
    refine aR 832 ?_
    refine aF ?_
    refine aR 896 ?_
    refine aw_loopK (X:={ i : Nat // i≤L.length∧(L.take i).all (fun w=>decide (w.id < c.vol)) = true }) [0,4,5,9] (fun i=>[(7,I i.1),(8,.c (.sl (L.map volC)))]) [0,16,144,752] (fun i=>[]) (fun i=>L.length - i.1) (⟨0,by omega,rfl⟩) ?_ ?_
    ·skip
     simp only [keepS,keepE,Option.getD_some,lk_cons,lkE_cons,List.cons_append,List.nil_append,simprocAttr]
     refine Le.lit [464] [] _ _ ?_ ?_ ?_ ?_
     ·simp only [zL,simprocAttr]
      all_goals (try ((repeat' ((refine ⟨⟨_,_,rfl⟩,?_⟩;(exact drows_vol _))))))
     ·simp only [zL,simprocAttr]
     ·simp [rlook]
     ·(intro k hk;simp [rlook];omega)
    rintro ⟨i,hi,ha⟩
    simp only [keepS,keepE,Option.getD_some,lk_cons,lkE_cons,List.cons_append,List.nil_append,simprocAttr]
    simp only [zX]
    by_cases hil : i < L.length
    ·skip
     refine aSD 944 (fun Q hQ=>by simp (disch:=first | (intros;contradiction) | omega | (simp only [zN];omega)) only [zS,zW,vC_eq,simprocAttr];repeat refine ⟨by ((simp;done)),?_⟩;exact hQ) ?_
     refine aw_cond _ rfl trivial (fun ht=>?_) (fun hf=>?_)
     ·skip
      try simp at ht
      simp only [zX]
      refine aS 1200 (fun Q hQ=>by simp (disch:=first | (intros;contradiction) | omega | (simp only [zN];omega)) only [zS,zW,simprocAttr];exact hQ) ?_
      refine ⟨⟨i + 1,by omega,by rw [all_succ hil,ha,Bool.true_and];simp;exact ht.2⟩,?_,by first | omega | (simp only;omega)⟩
      refine Le.lit [] [] _ _ ?_ ?_ ?_ ?_
      ·simp only [zL,simprocAttr]
       all_goals (try ((repeat' (rfl))))
      ·simp only [zL,simprocAttr]
      ·simp [rlook]
      ·(intro k hk;simp [rlook];omega)
     try simp at hf
     simp only [zX,↓reduceIte]
     have hw:=while_ofV (p:=fun w=>decide (w.id < c.vol)) ha (fun h=>by simp;exact hf h)
     have hI : insM (newV c) L = L.take i ++ newV c :: L.drop i:=by unfold insM;rw [← hw.1,← hw.2];rfl
     have hM : (L.take i ++ newV c :: L.drop i).map volC = (L.take i).map volC ++ [volC (newV c)] ++ (L.drop i).map volC:=by simp
     have hdr:=drows_vol (L.take i ++ newV c :: L.drop i)
     rw [hI]
     rw [hM,vC_eq (newV c)] at hdr
     refine aw_draw 1280 (RG.go fun Q hQ=>?_)
     simp (disch:=intros;contradiction) only [zS,zW,simprocAttr]
     repeat refine ⟨by (first | exact ⟨by (intro q hq;obtain ⟨_,_,rfl⟩:=List.mem_map.1 hq;rfl),by omega⟩ | (simp;omega) | (refine ⟨?_,?_⟩ <;> (repeat' (first | omega | (intro q hq;obtain ⟨_,_,rfl⟩:=List.mem_map.1 hq;rfl) | refine ⟨?_,?_⟩)))),?_⟩
     refine hQ (RG.nil ⟨by decide +kernel,?_⟩)
     simp only [zX]
     refine aR 1552 ?_
     rw [show MB (L.take i ++ newV c :: L.drop i) = .box [.sl ((L.take i ++ newV c :: L.drop i).map volC)] from rfl,hM,vC_eq (newV c)]
     refine Fin.objs [1456] [] (.inr rfl) rfl (by exact ⟨trivial,trivial⟩) ?_ ?_ (by simp [objL,rlook]) (by (simp [objL,rlook];done))
     ·simp only [zL,simprocAttr]
      all_goals ((repeat' (first | exact trivial | rfl | refine ⟨?_,?_⟩)))
     ·simp only [zL,simprocAttr]
      all_goals (try ((repeat' (first | (first | assumption | (simp [C.isD];done)) | refine ⟨?_,?_⟩))))
    have hw:=while_ofV (p:=fun w=>decide (w.id < c.vol)) ha (fun h=>absurd h hil)
    have hI : insM (newV c) L = L.take i ++ newV c :: L.drop i:=by unfold insM;rw [← hw.1,← hw.2];rfl
    have hM : (L.take i ++ newV c :: L.drop i).map volC = (L.take i).map volC ++ [volC (newV c)] ++ (L.drop i).map volC:=by simp
    have hdr:=drows_vol (L.take i ++ newV c :: L.drop i)
    rw [hI]
    rw [hM,vC_eq (newV c)] at hdr
    refine aw_draw 1616 (RG.go fun Q hQ=>?_)
    simp (disch:=first | (intros;contradiction) | omega | (simp only [zN];omega)) only [zS,zW,simprocAttr]
    repeat refine ⟨by ((simp;omega)),?_⟩
    refine hQ (RG.nil ⟨by decide +kernel,?_⟩)
    simp only [zX]
    refine aw_cond _ rfl trivial (fun ht=>by simp at ht) (fun hf=>?_)
    simp only [zX,↓reduceIte]
    refine aw_draw 1872 (RG.go fun Q hQ=>?_)
    simp (disch:=intros;contradiction) only [zS,zW,simprocAttr]
    repeat refine ⟨by (first | exact ⟨by (intro q hq;obtain ⟨_,_,rfl⟩:=List.mem_map.1 hq;rfl),by omega⟩ | (simp;omega) | (refine ⟨?_,?_⟩ <;> (repeat' (first | omega | (intro q hq;obtain ⟨_,_,rfl⟩:=List.mem_map.1 hq;rfl) | refine ⟨?_,?_⟩)))),?_⟩
    refine hQ (RG.nil ⟨by decide +kernel,?_⟩)
    simp only [zX]
    refine aR 2144 ?_
    rw [show MB (L.take i ++ newV c :: L.drop i) = .box [.sl ((L.take i ++ newV c :: L.drop i).map volC)] from rfl,hM,vC_eq (newV c)]
    refine Fin.objs [2048] [] (.inr rfl) rfl (by exact ⟨trivial,trivial⟩) ?_ ?_ (by simp [objL,rlook]) (by (simp [objL,rlook];done))
    ·simp only [zL,simprocAttr]
     all_goals ((repeat' (first | exact trivial | rfl | refine ⟨?_,?_⟩)))
    ·simp only [zL,simprocAttr]
     all_goals (try ((repeat' (first | (first | assumption | (simp [C.isD];done)) | refine ⟨?_,?_⟩))))

   ·rw [if_pos (by omega)] at hZ
    have h4 : newR c = (zeroV,23):=by
     unfold newR at h3 ⊢
     split at h3
     ·cases h3
     ·rename_i h;rw [if_neg h]
    rw [h4] at cN hZ
    simp only at cN hZ
    subst hZ
    refine C_mementoref16_Machine_Apply nl nl ?_
    simp only [cz,A_mementoref16_Machine_Apply,argL,objL,List.length_nil,List.length_cons,Nat.zero_add,zX]
    refine aR 16 ?_
    refine aB 64 ?_
    refine rC [] (cR) ?_ (hs:=(by exact .inr ⟨pureTA (fun x hx=>cmdC_pure _ x hx),trivial⟩))
    refine aEs (fun Q hQ=>by simp (disch:=intros;contradiction) only [zS,cmdC,cC,simprocAttr];exact hQ) ?_
    refine aR 224 ?_
    refine aF ?_
    refine aB 288 ?_
    refine rO [0] [] (cF) ?_
    refine aE ?_
    refine aS 400 (fun Q hQ=>by simp (disch:=intros;contradiction) only [zS,zW,simprocAttr];repeat refine ⟨by (exact ⟨by (intro q hq;obtain ⟨_,_,rfl⟩:=List.mem_map.1 hq;rfl),by omega⟩),?_⟩;exact hQ) ?_
    refine aR 528 ?_
    refine aw_cond _ rfl trivial (fun ht=>?_) (fun hf=>by simp at hf;omega)
    simp only [zX]
    refine aR 608 ?_
    refine aF ?_
    refine aB 672 ?_
    refine rC [] (cN) ?_ (hs:=(by exact .inr ⟨pureTA (fun x hx=>volC_pure _ x hx),trivial⟩))
    refine aEs (fun Q hQ=>by simp (disch:=intros;contradiction) only [zS,vC_eq,simprocAttr];exact hQ) ?_
    refine aR 832 ?_
    refine aT ?_
    refine aR 896 ?_
    refine Fin.objs [] [] (.inr rfl) rfl (by exact ⟨trivial,trivial⟩) ?_ ?_ (by simp [objL,rlook]) (by (simp [objL,rlook];done))
    ·simp only [zL]
     all_goals ((repeat' (first | exact trivial | rfl | refine ⟨?_,?_⟩)))
    ·simp only [zL,↓reduceIte]

  ·rw [h1] at hZ cF
   rw [if_pos (by omega)] at hZ
   subst hZ
   refine C_mementoref16_Machine_Apply nl nl ?_
   simp only [cz,A_mementoref16_Machine_Apply,argL,objL,List.length_nil,List.length_cons,Nat.zero_add,zX]
   refine aR 16 ?_
   refine aB 64 ?_
   refine rC [] (cR) ?_ (hs:=(by exact .inr ⟨pureTA (fun x hx=>cmdC_pure _ x hx),trivial⟩))
   refine aEs (fun Q hQ=>by simp (disch:=intros;contradiction) only [zS,cmdC,cC,simprocAttr];exact hQ) ?_
   refine aR 224 ?_
   refine aF ?_
   refine aB 288 ?_
   refine rO [0] [] (cF) ?_
   refine aE ?_
   refine aS 400 (fun Q hQ=>by simp (disch:=intros;contradiction) only [zS,zW,simprocAttr];repeat refine ⟨by (exact ⟨by (intro q hq;obtain ⟨_,_,rfl⟩:=List.mem_map.1 hq;rfl),by omega⟩),?_⟩;exact hQ) ?_
   refine aR 528 ?_
   refine aw_cond _ rfl trivial (fun ht=>?_) (fun hf=>by simp at hf;omega)
   simp only [zX]
   refine aR 608 ?_
   refine aT ?_
   refine aR 672 ?_
   refine Fin.objs [] [] (.inr rfl) rfl (by exact ⟨trivial,trivial⟩) ?_ ?_ (by simp [objL,rlook]) (by (simp [objL,rlook];done))
   ·simp only [zL]
    all_goals ((repeat' (first | exact trivial | rfl | refine ⟨?_,?_⟩)))
   ·simp only [zL,↓reduceIte]

 rw [if_neg hk] at hZ
 rcases idxV_cases c.vol L 0 with ⟨h1,h2⟩ | ⟨k,hkl,h1,h2⟩
 ·rw [h1] at hZ cF
  rw [if_pos (by decide)] at hZ
  subst hZ
  refine C_mementoref16_Machine_Apply nl nl ?_
  simp only [cz,A_mementoref16_Machine_Apply,argL,objL,List.length_nil,List.length_cons,Nat.zero_add,zX]
  refine aR 16 ?_
  refine aB 64 ?_
  refine rC [] (cR) ?_ (hs:=(by exact .inr ⟨pureTA (fun x hx=>cmdC_pure _ x hx),trivial⟩))
  refine aEs (fun Q hQ=>by simp (disch:=intros;contradiction) only [zS,cmdC,cC,simprocAttr];exact hQ) ?_
  refine aR 224 ?_
  refine aF ?_
  refine aB 288 ?_
  refine rO [0] [] (cF) ?_
  refine aE ?_
  refine aS 400 (fun Q hQ=>by simp (disch:=intros;contradiction) only [zS,zW,simprocAttr];repeat refine ⟨by (exact ⟨by (intro q hq;obtain ⟨_,_,rfl⟩:=List.mem_map.1 hq;rfl),by omega⟩),?_⟩;exact hQ) ?_
  refine aR 528 ?_
  refine aw_cond _ rfl trivial (fun ht=>by simp at ht;omega) (fun hf=>?_)
  simp only [zX]
  refine aR 608 ?_
  refine aT ?_
  refine aR 672 ?_
  refine Fin.objs [] [] (.inr rfl) rfl (by exact ⟨trivial,trivial⟩) ?_ ?_ (by simp [objL,rlook]) (by (simp [objL,rlook];done))
  ·simp only [zL]
   all_goals ((repeat' (first | exact trivial | rfl | refine ⟨?_,?_⟩)))
  ·simp only [zL,↓reduceIte]

 ·rw [Nat.zero_add] at h1
  rw [h1] at hZ cF
  rw [if_neg (by omega)] at hZ
  rw [Int.toNat_natCast,List.getD_eq_getElem?_getD,List.getElem?_eq_getElem hkl,Option.getD_some] at hZ
  have hgk:=hg _ (List.getElem_mem hkl)
  have cD:=mementoref16_Do_con L[k] c (hgk.ok hn) hgk.next (by omega) (fun x hx=>k5 x hx)
  generalize doV L[k] c = D at hZ cD
  subst hZ
  have hM : (L.set k D.v).map volC = (L.map volC).set k (volC D.v):=List.map_set
  have hdr:=drows_vol (L.set k D.v)
  rw [hM,vC_eq D.v] at hdr
  refine C_mementoref16_Machine_Apply nl nl ?_
  simp only [cz,A_mementoref16_Machine_Apply,argL,objL,List.length_nil,List.length_cons,Nat.zero_add,zX]
  refine aR 16 ?_
  refine aB 64 ?_
  refine rC [] (cR) ?_ (hs:=(by exact .inr ⟨pureTA (fun x hx=>cmdC_pure _ x hx),trivial⟩))
  refine aEs (fun Q hQ=>by simp (disch:=intros;contradiction) only [zS,cmdC,cC,simprocAttr];exact hQ) ?_
  refine aR 224 ?_
  refine aF ?_
  refine aB 288 ?_
  refine rO [0] [] (cF) ?_
  refine aE ?_
  refine aS 400 (fun Q hQ=>by simp (disch:=intros;contradiction) only [zS,zW,simprocAttr];repeat refine ⟨by (exact ⟨by (intro q hq;obtain ⟨_,_,rfl⟩:=List.mem_map.1 hq;rfl),by omega⟩),?_⟩;exact hQ) ?_
  refine aR 528 ?_
  refine aw_cond _ rfl trivial (fun ht=>by simp at ht;omega) (fun hf=>?_)
  simp only [zX]
  refine aR 608 ?_
  refine aF ?_
  refine aw_draw 672 (RG.go fun Q hQ=>?_)
  simp (disch:=first | (intros;contradiction) | omega | (simp only [zN];omega)) only [zS,zW,vC_eq,simprocAttr]
  repeat refine ⟨by (omega),?_⟩
  refine hQ ?_
  refine rC [] (cD) ?_ (hs:=(by exact .inr ⟨doR_pure _,trivial⟩))
  refine aEDs (fun Q hQ=>by simp (disch:=intros;contradiction) only [zS,vC_eq,repC,simprocAttr];exact hQ) ?_
  refine aw_reg 912 (RG.go fun Q hQ=>?_)
  simp (disch:=first | (intros;contradiction) | omega | (simp only [zN];omega)) only [zS,zW,vC_eq,simprocAttr]
  repeat refine ⟨by (omega),?_⟩
  refine hQ (RG.nil ?_)
  simp only [zX]
  refine aR 1024 ?_
  rw [show MB (L.set k D.v) = .box [.sl ((L.set k D.v).map volC)] from rfl,hM,vC_eq D.v]
  refine aR 1136 ?_
  refine Fin.objs [464] [] (.inr rfl) rfl (by exact ⟨trivial,trivial⟩) ?_ ?_ (by simp [objL,rlook]) (by (simp [objL,rlook];done))
  ·simp only [zL,simprocAttr]
   all_goals ((repeat' (first | exact trivial | rfl | refine ⟨?_,?_⟩)))
  ·simp only [zL,simprocAttr]
   all_goals (try ((repeat' (first | (first | assumption | (simp [C.isD];done)) | refine ⟨?_,?_⟩))))

end Go.Abs

namespace Go.Abs
open Go Go.Proofs
set_option maxRecDepth 100000
set_option linter.unusedSimpArgs false
set_option maxHeartbeats 4000000

theorem appM_good {L : List VOL} {d : List Nat} {n : Nat} (hg : ∀ v ∈ L,Vgood v n) (h8 : ∀ c ∈ d,c < 256) : (∀ v ∈ (appM L d).1,Vgood v (n + 1))∧(appM L d).1.length≤L.length + 1:=by
 have hm : ∀ v ∈ L,Vgood v (n + 1):=fun v hv=>(hg v hv).mono (Nat.le_succ n)
 have hR:=fun c h=>readC_ok (d:=d) (c:=c) (n:=d.length) ⟨h8,Nat.le_refl _⟩ h
 unfold appM
 generalize readC d = q at hR
 obtain ⟨c,e⟩:=q
 simp only
 split
 ·exact ⟨hm,Nat.le_succ _⟩
 rename_i he
 obtain rfl : e = 0:=by omega
 obtain ⟨k1,k2,k3,k4,k5⟩:=hR c rfl
 split
 ·split
  ·exact ⟨hm,Nat.le_succ _⟩
  split
  ·exact ⟨hm,Nat.le_succ _⟩
  ·rename_i h
   have hs : shapeV (newV c) = true:=by
    unfold newR at h
    split at h
    ·assumption
    ·exact absurd (by decide) h
   have h4 : newR c = (newV c,0):=new_of hs
   rw [h4]
   simp only
   refine ⟨fun v hv=>?_,?_⟩
   ·unfold insM at hv
    rcases List.mem_append.1 hv with hv | hv
    ·exact hm v ((List.takeWhile_prefix _).subset hv)
    ·rcases List.mem_cons.1 hv with rfl | hv
     ·exact (Vgood.new hs).mono (Nat.zero_le _)
     ·exact hm v ((List.dropWhile_suffix _).subset hv)
   ·unfold insM
    have:=congrArg List.length (List.takeWhile_append_dropWhile (p:=fun w : VOL=>decide (w.id < (newV c).id)) (l:=L))
    simp only [List.length_append,List.length_cons] at this ⊢
    omega
 split
 ·exact ⟨hm,Nat.le_succ _⟩
 ·rename_i h
  rcases idxV_cases c.vol L 0 with ⟨h1,h2⟩ | ⟨k,hkl,h1,h2⟩
  ·rw [h1] at h;exact absurd (by decide) h
  ·rw [h1,Nat.zero_add,Int.toNat_natCast,List.getD_eq_getElem?_getD,List.getElem?_eq_getElem hkl,Option.getD_some]
   refine ⟨fun v hv=>?_,by simp⟩
   rcases List.mem_or_eq_of_mem_set hv with hv | rfl
   ·exact hm v hv
   ·exact (hg _ (List.getElem_mem hkl)).doV k2

theorem itsB_len2 (m : Nat) (hm : m≤1000000) : ∀ (l : List IT),(∀ x ∈ l,x.d.length≤m)→(itsB l).length≤l.length * (m + 20)
 | [],_=>by simp [itsB]
 | x :: l,h=>by
  have h3:=h x (by simp)
  have h1:=itB_len x (by omega)
  have h2:=itsB_len2 m hm l fun y hy=>h y (by simp [hy])
  have : itsB (x :: l) = itB x ++ itsB l:=rfl
  rw [this,List.length_append,List.length_cons,Nat.add_mul,Nat.one_mul];omega
theorem cmdB_len {c : CMD} {m : Nat} (hm : m≤1000) (hp : c.place.length≤1000) (hi : c.items.length≤8) (hd : ∀ x ∈ c.items,x.d.length≤m) : (cmdB c).length≤1000000:=by
 have e1:=numsL_len [c.kind,c.vol,c.blocks,c.size,c.per,c.total,c.at',c.index]
 have e2:=numsL_len c.place
 have e3:=putS1_len c.place.length
 have e4:=itsB_len2 m (by omega) c.items hd
 have e5:=putS1_len c.items.length
 have e6 : c.items.length * (m + 20)≤8 * 1020:=Nat.mul_le_mul hi (by omega)
 unfold cmdB placeB itemsB
 simp only [List.length_append,List.length_cons,List.length_nil] at e1 ⊢
 omega

structure Csmall (c : CMD) : Prop where
 b8 : byI c.items
 place : c.place.length≤1000
 items : c.items.length≤8
 data : ∀ x ∈ c.items,x.d.length≤200

theorem itsF_len (b s : Nat) : ∀ (l : List Nat) (acc : List IT),acc.length≤8→(∀ x ∈ acc,x.d.length = s)→(itsF b s l acc).length≤8∧∀ x ∈ itsF b s l acc,x.d.length = s
 | [],acc,h,h2=>⟨h,h2⟩
 | c :: l,acc,h,h2=>by
  unfold itsF
  split
  ·refine itsF_len b s l _ ?_ ?_
   ·unfold itsStep;split
    ·exact h
    ·simp;omega
   ·unfold itsStep;split
    ·exact h2
    ·intro x hx
     rcases List.mem_append.1 hx with hx | hx
     ·exact h2 x hx
     ·simp only [List.mem_singleton] at hx;subst hx;exact dataN_len _ _
  ·exact ⟨h,h2⟩
theorem itsF_by (b s : Nat) : ∀ (l : List Nat) (acc : List IT),byI acc→byI (itsF b s l acc)
 | [],acc,h=>h
 | c :: l,acc,h=>by
  unfold itsF
  split
  ·refine itsF_by b s l _ ?_
   unfold itsStep
   split
   ·exact h
   ·intro x hx
    rcases List.mem_append.1 hx with hx | hx
    ·exact h x hx
    ·simp only [List.mem_singleton] at hx;subst hx;exact dataN_by _ _
  ·exact h
theorem Csmall.its (k v : Int) (t i : Int) (b s : Nat) (l : List Nat) (hs : s≤200) : Csmall ⟨k,v,0,0,0,[],0,t,i,itsN b s l⟩:=by
 have h:=itsF_len b s l [] (by simp) (fun x hx=>(by cases hx))
 exact ⟨itsF_by b s l [] (fun x hx=>(by cases hx)),by simp,h.1,fun x hx=>by rw [h.2 x hx];exact hs⟩
theorem Csmall.no (k v : Int) (t i : Int) : Csmall ⟨k,v,0,0,0,[],0,t,i,[]⟩:=⟨fun x hx=>(by cases hx),by simp,by simp,fun x hx=>(by cases hx)⟩
theorem cmdV_small (v : VOL) (B S L w a b c : Nat) (hS : S≤200) : Csmall (cmdV v B S L w a b c):=by
 unfold cmdV
 split
 ·exact .its _ _ _ _ _ _ _ hS
 unfold cmd0
 split
 ·exact .its _ _ _ _ _ _ _ hS
 split
 ·exact .no _ _ _ _
 split
 ·exact .no _ _ _ _
 split
 ·exact .no _ _ _ _
 split
 ·exact .no _ _ _ _
 split
 ·exact .its _ _ _ _ _ _ _ hS
 ·exact .no _ _ _ _
theorem createC_small (vol blocks size per total : Nat) (h : total < 1000) : Csmall (createC vol blocks size per total):=by
 have:=(shape_lims (createC_shape vol blocks size per total h)).2.2.2.2.2.2
 refine ⟨fun x hx=>(by cases hx),?_,by simp [createC],fun x hx=>(by cases hx)⟩
 have h2 : (createC vol blocks size per total).place.length≤512:=this
 omega

def totN (c : Nat) : Nat:=if c % 4 = 0 then c / 4 % 3 + 1 else 0
theorem Cmd_new (w a b c : Nat) (hw : w < 256) (ha : a < 256) (hb : b < 256) (hc : c < 256) :
  Con Try.prog 17 [.agg (volC zeroV),B false,.c (.v (.int .u8 w)),.c (.v (.int .u8 a)),.c (.v (.int .u8 b)),.c (.v (.int .u8 c))] [] (.agg (cmdC (createC 0 a b c (totN c)))) []:=by
 have ht : totN c < 1000:=by unfold totN;split <;> omega
 have cC:=Create_con 0 a b c (totN c) (by omega) ha hb hc ht
 have e1 : (c : Int) % 4 = ((c % 4 : Nat) : Int):=by omega
 have e2 : ((c / 4 : Nat) : Int) % 3 = ((c / 4 % 3 : Nat) : Int):=by omega
 have e3 : (c : Int) / 4 = ((c / 4 : Nat) : Int):=by omega
 have e4 : (c : Int).tdiv 4 = ((c / 4 : Nat) : Int):=by rw [Int.tdiv_eq_ediv_of_nonneg (by omega)];omega
 have e5 : IntKind.u8.wrap 0 = 0:=by decide
 have hdr : (SV.agg (cmdC (createC 0 a b c (totN c)))).pureD:=cmdC_pure _
 refine C_mementoseat_Cmd nl nl ?_
 simp only [cz,A_mementoseat_Cmd,argL,objL,List.length_nil,Nat.zero_add,zX,simprocAttr]
 refine aS 16 (fun Q hQ=>by simp (disch:=intros;contradiction) only [zS,vC_eq,zeroV,simprocAttr];exact hQ) ?_
 refine aR 80 ?_
 refine aT ?_
 refine aw_reg 144 (RG.go fun Q hQ=>?_)
 simp (disch:=intros;contradiction) only [zS,simprocAttr]
 refine hQ (RG.nil ?_)
 simp only [zY]
 refine aw_joinS (Y:=Unit) [3,4,5,6,12] (fun y=>[(13,I (totN c))]) [16,32] (fun y=>[]) (by (repeat' (first | exact cl_fin | refine cl_then ?_ ?_))) ?_ ?_
 ·skip
  simp only [zX]
  refine aw_reg 192 (RG.go fun Q hQ=>?_)
  simp (disch:=first | (intros;contradiction) | omega | (simp only [zN];omega)) only [zS,zW,e1,simprocAttr]
  repeat refine ⟨by (omega),?_⟩
  refine hQ (RG.nil ?_)
  simp only [zX]
  refine aw_cond _ rfl trivial (fun ht=>?_) (fun hf=>?_)
  ·skip
   try simp at ht
   have e6 : ((c / 4 % 3 : Nat) : Int) + 1 = (totN c : Int):=by unfold totN;rw [if_pos (by omega)];rfl
   refine aw_reg 272 (RG.go fun Q hQ=>?_)
   simp (disch:=first | (intros;contradiction) | omega | (simp only [zN];omega)) only [zS,zW,e2,e3,e6,simprocAttr]
   repeat refine ⟨by (omega),?_⟩
   refine hQ (RG.nil ?_)
   simp only [zX]
   refine ⟨(),?_⟩
   simp only [keepS,keepE,Option.getD_some,lk_cons,lkE_cons,List.cons_append,List.nil_append,simprocAttr]
   refine Le.lit [] [] _ _ ?_ ?_ ?_ ?_
   ·simp only [zL,simprocAttr]
   ·simp only [zL,simprocAttr]
   ·simp [rlook]
   ·(simp;done)
  try simp at hf
  simp only [zX]
  have e6 : totN c = 0:=by unfold totN;rw [if_neg (by omega)]
  refine ⟨(),?_⟩
  simp only [keepS,keepE,Option.getD_some,lk_cons,lkE_cons,List.cons_append,List.nil_append,simprocAttr]
  refine Le.lit [] [] _ _ ?_ ?_ ?_ ?_
  ·simp only [zL,simprocAttr]
   all_goals (rw [e6];rfl;skip)
  ·simp only [zL,simprocAttr]
  ·simp [rlook]
  ·(simp;done)
 rintro y
 simp only [keepS,keepE,Option.getD_some,lk_cons,lkE_cons,List.cons_append,List.nil_append,simprocAttr]
 simp only [zX]
 refine aBs 400 (fun Q hQ=>by simp (disch:=intros;contradiction) only [zS,e5,simprocAttr];exact hQ) ?_
 refine rC [] (cC) ?_ (hs:=(by exact .inr ⟨hdr,trivial⟩))
 refine aEs (fun Q hQ=>by simp (disch:=intros;contradiction) only [zS,cmdC,simprocAttr];repeat refine ⟨by ((simp;done)),?_⟩;exact hQ) ?_
 refine Fin.data [] (.inr rfl) rfl (by (exact ⟨trivial,trivial⟩)) ?_
 simp only [zL]
 all_goals ((repeat' (first | exact trivial | rfl | refine ⟨?_,?_⟩)))

end Go.Abs

namespace Go.Abs
open Go Go.Proofs
set_option maxRecDepth 100000
set_option linter.unusedSimpArgs false
set_option maxHeartbeats 8000000

def putB (c : CMD) : List Nat:=if cmdR c = true then cmdB c else []
def putE (c : CMD) : Int:=if cmdR c = true then 0 else 23
theorem PutB_con (c : CMD) (h : Csmall c) : Con Try.prog 53 [.agg (cmdC c)] [] (.tup [.c (.sl ((putB c).map brow)),I (putE c)]) [] :=
 PutCmd_con c (by have:=h.place;omega) (by have:=h.items;omega) (fun x hx=>by have:=h.data x hx;omega)
def seatC (L : List VOL) (w a b c : Nat) : CMD :=
 if (volM L 0).2 = true then cmdV (volM L 0).1 (volM L 0).1.blocks.toNat (volM L 0).1.size.toNat (volM L 0).1.ws.length w a b c else createC 0 a b c (totN c)
def seatS (L : List VOL) (w a b c : Nat) : List VOL:=(appM L (putB (seatC L w a b c))).1
def seatN (l : List Nat) : Nat→List VOL
 | 0=>[]
 | k + 1=>seatS (seatN l k) (l.getD (4 * k) 0) (l.getD (4 * k + 1) 0) (l.getD (4 * k + 2) 0) (l.getD (4 * k + 3) 0)
def vol0 : VOL:=newV (createC 0 3 1 1 0)
def seatV (l : List Nat) : VOL:=(seatN l (l.length / 4)).headD vol0

theorem volM_cases (L : List VOL) (id : Int) (n : Nat) (hg : ∀ v ∈ L,Vgood v n) : ((volM L id).2 = true∧Vgood (volM L id).1 n)∨((volM L id).2 = false∧(volM L id).1 = zeroV):=by
 rcases idxV_cases id L 0 with ⟨h1,h2⟩ | ⟨k,hk,h1,h2⟩
 ·right
  have : volM L id = (zeroV,false):=by unfold volM;rw [h1,if_pos (by decide)]
  rw [this];exact ⟨rfl,rfl⟩
 ·left
  have : volM L id = (L[k],true):=by
   unfold volM;rw [h1,Nat.zero_add,if_neg (by omega),Int.toNat_natCast,List.getD_eq_getElem?_getD,List.getElem?_eq_getElem hk];rfl
  rw [this];exact ⟨rfl,hg _ (List.getElem_mem hk)⟩

theorem seatC_small (L : List VOL) (n : Nat) (hg : ∀ v ∈ L,Vgood v n) (w a b c : Nat) : Csmall (seatC L w a b c):=by
 unfold seatC
 rcases volM_cases L 0 n hg with ⟨h1,h2⟩ | ⟨h1,h2⟩
 ·rw [if_pos h1]
  exact cmdV_small _ _ _ _ _ _ _ _ (by have:=(shape_lims (rightV_iff.1 h2.right).1).2.2.1;omega)
 ·rw [if_neg (by simp [h1])]
  exact createC_small _ _ _ _ _ (by unfold totN;split <;> omega)

theorem putB_ok {c : CMD} (h : Csmall c) : (∀ x ∈ putB c,x < 256)∧(putB c).length≤1000000:=by
 unfold putB
 split
 ·exact ⟨cmdB_by _ h.b8,cmdB_len (m:=200) (by omega) h.place h.items h.data⟩
 ·simp
theorem seatB_ok {L : List VOL} {n : Nat} (hg : ∀ v ∈ L,Vgood v n) (w a b c : Nat) :
  (∀ x ∈ putB (seatC L w a b c),x < 256)∧(putB (seatC L w a b c)).length≤1000000:=putB_ok (seatC_small L n hg w a b c)

theorem Cmd_any (L : List VOL) (n : Nat) (hg : ∀ v ∈ L,Vgood v n) (hn : n≤50000) (w a b c : Nat) (hw : w < 256) (ha : a < 256) (hb : b < 256) (hc : c < 256) :
  Con Try.prog 17 [.agg (volC (volM L 0).1),B (volM L 0).2,.c (.v (.int .u8 w)),.c (.v (.int .u8 a)),.c (.v (.int .u8 b)),.c (.v (.int .u8 c))] [] (.agg (cmdC (seatC L w a b c))) []:=by
 unfold seatC
 rcases volM_cases L 0 n hg with ⟨h1,h2⟩ | ⟨h1,h2⟩
 ·rw [if_pos h1,h1];exact Cmd_there _ n h2 hn w a b c hw ha hb hc
 ·rw [if_neg (by simp [h1]),h1,h2];exact Cmd_new w a b c hw ha hb hc

theorem seatN_good (l : List Nat) : ∀ k,(∀ v ∈ seatN l k,Vgood v k)∧(seatN l k).length≤k
 | 0=>⟨fun v hv=>(by cases hv),Nat.le_refl _⟩
 | k + 1=>by
  have h:=seatN_good l k
  have h2:=appM_good h.1 (seatB_ok h.1 (l.getD (4 * k) 0) (l.getD (4 * k + 1) 0) (l.getD (4 * k + 2) 0) (l.getD (4 * k + 3) 0)).1
  exact ⟨h2.1,Nat.le_trans h2.2 (by omega)⟩

theorem seatV_good (l : List Nat) : Vgood (seatV l) (l.length / 4):=by
 have h:=(seatN_good l (l.length / 4)).1
 unfold seatV
 cases hs : seatN l (l.length / 4) with
 | nil=>exact (Vgood.new (createC_shape 0 3 1 1 0 (by omega))).mono (Nat.zero_le _)
 | cons v r=>rw [hs] at h;exact h v (by simp)

theorem getD_lt {l : List Nat} {i : Nat} (h : i < l.length) : l.getD i 0 = l[i]:=by rw [List.getD_eq_getElem?_getD,List.getElem?_eq_getElem h];rfl

theorem Volume_con (l : List Nat) (h8 : ∀ c ∈ l,c < 256) (hl : l.length≤10000) : Con Try.prog 28 [.c (.sl (l.map brow))] [] (.agg (volC (seatV l))) []:=by
 have cC:=Create_con 0 3 1 1 0 (by omega) (by omega) (by omega) (by omega) (by omega)
 have hsh:=createC_shape 0 3 1 1 0 (by omega)
 have hpl:=(shape_lims hsh).2.2.2.2.2.2
 have hN:=mementoref16_New_con (createC 0 3 1 1 0) (by have : (createC 0 3 1 1 0).place.length≤512:=hpl;omega)
 rw [new_of hsh] at hN
 obtain ⟨N,hN4⟩ : ∃ N,N = l.length / 4:=⟨_,rfl⟩
 have hV : seatV l = (seatN l N).headD vol0:=by rw [hN4];rfl
 obtain ⟨R,hR⟩ : ∃ R,R = seatN l N:=⟨_,rfl⟩
 rw [hV,← hR]
 refine C_mementoseat_Volume nl nl ?_
 simp only [cz,A_mementoseat_Volume,argL,objL,List.length_nil,zX]
 refine aR 16 ?_
 refine aR 64 ?_
 refine aR 144 ?_
 refine aw_loopK (X:={ p : Nat × Nat × List VOL // p.1≤N∧p.2.1 = 4 * p.1∧p.2.2 = seatN l p.1 }) [0,2,3] (fun p=>[(4,I p.1.2.1)]) [16] (fun p=>[(80,MB p.1.2.2)]) (fun p=>N - p.1.1) (⟨(0,0,[]),by simp,by simp,rfl⟩) ?_ ?_
 ·skip
  simp only [keepS,keepE,Option.getD_some,lk_cons,lkE_cons,List.cons_append,List.nil_append,simprocAttr]
  refine Le.lit [] [] _ _ ?_ ?_ ?_ ?_
  ·simp only [zL,simprocAttr]
  ·simp only [zL,simprocAttr]
  ·simp [rlook]
  ·(simp;done)
 rintro ⟨⟨k,i,L⟩,hk,hik,hLs⟩
 simp only [keepS,keepE,Option.getD_some,lk_cons,lkE_cons,List.cons_append,List.nil_append,simprocAttr]
 simp only [zX]
 simp only at hk hik hLs
 have hGd:=(seatN_good l k).1
 have hL:=(seatN_good l k).2
 rw [← hLs] at hGd hL
 refine aS 192 (fun Q hQ=>by simp (disch:=first | (intros;contradiction) | omega | (simp only [zN];omega)) only [zS,zW,simprocAttr];exact hQ) ?_
 refine aw_cond _ rfl trivial (fun ht=>?_) (fun hf=>?_)
 ·skip
  try simp at ht
  simp only [zX]
  have h3 : i + 3 < l.length:=by omega
  obtain ⟨i1,hi1⟩ : ∃ i1,i1 = i + 1:=⟨_,rfl⟩
  obtain ⟨i2,hi2⟩ : ∃ i2,i2 = i + 2:=⟨_,rfl⟩
  obtain ⟨i3,hi3⟩ : ∃ i3,i3 = i + 3:=⟨_,rfl⟩
  obtain ⟨i4,hi4⟩ : ∃ i4,i4 = i + 4:=⟨_,rfl⟩
  have b0 : i < l.length:=by omega
  have b1 : i1 < l.length:=by omega
  have b2 : i2 < l.length:=by omega
  have b3 : i3 < l.length:=by omega
  have hs : seatN l (k + 1) = seatS L l[i] l[i1] l[i2] l[i3]:=by
   rw [seatN,← hLs,← hik,← hi1,← hi2,← hi3,getD_lt b0,getD_lt b1,getD_lt b2,getD_lt b3]
  have t0:=h8 _ (List.getElem_mem b0)
  have t1:=h8 _ (List.getElem_mem b1)
  have t2:=h8 _ (List.getElem_mem b2)
  have t3:=h8 _ (List.getElem_mem b3)
  have cM:=MVolume_con L 0 (by omega)
  have cD:=Cmd_any L k hGd (by omega) l[i] l[i1] l[i2] l[i3] t0 t1 t2 t3
  have hB:=seatB_ok hGd l[i] l[i1] l[i2] l[i3]
  have hsm:=seatC_small L k hGd l[i] l[i1] l[i2] l[i3]
  unfold seatS at hs
  have cA:=Apply_con L _ k (by omega) hGd (by omega) hB.1 hB.2
  generalize seatC L l[i] l[i1] l[i2] l[i3] = C0 at cD hB hsm cA hs
  have cP:=PutB_con C0 hsm
  generalize putB C0 = bs at cA hs hB cP
  generalize appM L bs = Z at cA hs
  obtain ⟨L2,rp⟩:=Z
  simp only at cA hs
  have hs2 : seatN l (k + 1) = L2∧True:=⟨hs,trivial⟩
  clear hs
  generalize volM L 0 = V0 at cM cD
  obtain ⟨v0,b0⟩:=V0
  simp only at cM cD
  have e1 : (i : Int) + 1 = (i1 : Int):=by omega
  have e2 : (i : Int) + 2 = (i2 : Int):=by omega
  have e3 : (i : Int) + 3 = (i3 : Int):=by omega
  have e4 : (i : Int) + 4 = (i4 : Int):=by omega
  refine aBs 304 (fun Q hQ=>by simp (disch:=intros;contradiction) only [zS,e3,simprocAttr];exact hQ) ?_
  refine rO [80] [] (cM) ?_
  refine aEs (fun Q hQ=>by simp (disch:=intros;contradiction) only [zS,vC_eq,simprocAttr];exact hQ) ?_
  refine aw_draw 464 (RG.go fun Q hQ=>?_)
  simp (disch:=first | (intros;contradiction) | omega | (simp only [zN];omega)) only [zS,zW,brow,e1,e2,e3,simprocAttr]
  repeat refine ⟨by (omega),?_⟩
  refine hQ ?_
  refine rC [] (cD) ?_ (hs:=(by exact .inr ⟨cmdC_pure _,trivial⟩))
  refine aM ?_
  refine rC [] (cP) ?_ (hs:=(by exact .inr ⟨pureTC,trivial⟩))
  refine aED ?_
  refine aB 944 ?_
  refine rO [80] [] (cA) ?_
  refine aE ?_
  refine aS 1024 (fun Q hQ=>by simp (disch:=first | (intros;contradiction) | omega | (simp only [zN];omega)) only [zS,zW,e4,simprocAttr];exact hQ) ?_
  refine ⟨⟨(k + 1,i4,L2),by simp only;omega,by simp only;omega,by simp only;rw [hs2.1]⟩,?_,by first | omega | (simp only;omega)⟩
  refine Le.lit [] [] _ _ ?_ ?_ ?_ ?_
  ·simp only [zL,simprocAttr]
  ·simp only [zL,simprocAttr]
   all_goals (trivial;skip)
  ·simp [rlook]
  ·(simp;done)
 try simp at hf
 simp only [zX,↓reduceIte]
 have hkN : k = N:=by omega
 have hLR : L = R:=by rw [hLs,hR,hkN]
 by_cases hn : L = []
 ·skip
  refine aS 1104 (fun Q hQ=>by simp (disch:=intros;contradiction) only [zS,zW,simprocAttr];exact hQ) ?_
  refine aw_cond _ rfl trivial (fun ht=>?_) (fun hf=>by rw [hn] at hf;simp at hf)
  simp only [zX]
  refine aBs 1232 (fun Q hQ=>by simp (disch:=intros;contradiction) only [zS,↓reduceIte];exact hQ) ?_
  refine rC [] (cC) ?_ (hs:=(by exact .inr ⟨cmdC_pure _,trivial⟩))
  refine aM ?_
  refine rC [] (hN) ?_ (hs:=(by exact .inr ⟨pureTA (fun c hc=>volC_pure _ c hc),trivial⟩))
  refine aEs (fun Q hQ=>by simp (disch:=intros;contradiction) only [zS,vC_eq,simprocAttr];exact hQ) ?_
  rw [show R.headD vol0 = newV (createC 0 3 1 1 0) from by rw [← hLR,hn];rfl]
  refine aR 1392 ?_
  refine Fin.data [] (.inr rfl) rfl (by (exact ⟨trivial,trivial⟩)) ?_
  simp only [zL]
  all_goals ((repeat' (first | exact trivial | rfl | refine ⟨?_,?_⟩)))
 obtain ⟨v,r,hvr⟩:=List.exists_cons_of_ne_nil hn
 subst hvr
 refine aS 1456 (fun Q hQ=>by simp (disch:=intros;contradiction) only [zS,zW,vC_eq,simprocAttr];exact hQ) ?_
 refine aw_cond _ rfl trivial (fun ht=>by simp at ht;omega) (fun hf=>?_)
 simp only [zX]
 refine aS 1584 (fun Q hQ=>by simp (disch:=intros;contradiction) only [zS,zW,vC_eq,simprocAttr];repeat refine ⟨by (omega),?_⟩;exact hQ) ?_
 rw [show R.headD vol0 = v from by rw [← hLR];rfl]
 refine Fin.data [] (.inr rfl) rfl (by (exact ⟨trivial,trivial⟩)) ?_
 simp only [zL]
 all_goals ((repeat' (first | exact trivial | rfl | refine ⟨?_,?_⟩)))

end Go.Abs

namespace Go.Abs
open Go Go.Proofs
set_option maxRecDepth 100000
set_option linter.unusedSimpArgs false
set_option maxHeartbeats 8000000

theorem pin_ok {v : VOL} (h : v.hid = false) {t : Int} (h1 : v.floor≤t) (h2 : t≤lenV v) (c : CMD) (hk : c.kind = 4) (ht : c.at' = t) : doV v c = done { v with pins:=insP t v.pins }:=by
 unfold doV
 rw [if_neg (by omega),if_neg (by omega),if_pos hk,ht]
 unfold doPin
 rw [if_neg (by simp [h]),if_neg (by omega),if_neg (by omega)]
theorem lowL_perm {n : Int} {l m : List Int} (h : l.Perm m) : lowL n l = lowL n m:=by
 induction h generalizing n with
 | nil=>rfl
 | cons x _ ih=>exact ih
 | swap x y l=>show lowL (min (min n y) x) l = lowL (min (min n x) y) l;congr 1;omega
 | trans _ _ h1 h2=>exact h1.trans h2
theorem insP_perm {t : Int} {l : List Int} (hs : l.Pairwise (·≤·)) : (insP t l).Perm (t :: l):=by
 rw [← insP_eq hs]
 exact (isort_perm _).trans (List.perm_append_comm (l₂:=[t]))
theorem lowL_cons (n t : Int) (l : List Int) : lowL n (t :: l) = min t (lowL n l):=by
 have key : ∀ (l : List Int) (n m : Int),lowL (min n m) l = min m (lowL n l):=by
  intro l
  induction l with
  | nil=>intro n m;show min n m = min m n;omega
  | cons x l ih=>intro n m;show lowL (min (min n m) x) l = min m (lowL (min n x) l);rw [show min (min n m) x = min (min n x) m by omega,ih]
 exact key l n t
theorem lowL_ins {n t : Int} {l : List Int} (hs : l.Pairwise (·≤·)) : lowL n (insP t l) = min t (lowL n l):=by
 rw [lowL_perm (insP_perm hs),lowL_cons]

end Go.Abs

namespace Go.Abs
open Go Go.Proofs
set_option maxRecDepth 100000
set_option linter.unusedSimpArgs false
set_option maxHeartbeats 4000000

def hRow (F i : Nat) (h : List IT) : List C:=if h = [] then [.v (.slice none 0 0)] else [.osl (F + i)]
def hRows (F : Nat) (H : List (List IT)) : List (List C):=H.mapIdx fun i h=>hRow F i h
def hEnt (T' : TypeId) (h : List IT) : Option Ent:=if h = [] then none else some (.arr T' 2 (h.map irow) false)
def hEnts (T' : TypeId) (H : List (List IT)) : List (Option Ent):=H.map (hEnt T')

theorem hRows_len (F : Nat) (H : List (List IT)) : (hRows F H).length = H.length:=by simp [hRows]
theorem hRows_get (F : Nat) (H : List (List IT)) (i : Nat) : (hRows F H)[i]? = H[i]?.map (hRow F i):=by simp [hRows,List.getElem?_mapIdx]
theorem hEnts_get (T' : TypeId) (H : List (List IT)) (i : Nat) : (hEnts T' H)[i]? = H[i]?.map (hEnt T'):=by simp [hEnts]

theorem TrL.of {α β : Type} {S : α→β→Prop} : ∀ {xs : List α} {ys : List β},xs.length = ys.length→(∀ (i : Nat) x y,xs[i]? = some x→ys[i]? = some y→S x y)→TrL S xs ys
 | [],[],_,_=>trivial
 | x :: xs,y :: ys,h,hh=>⟨hh 0 x y rfl rfl,TrL.of (by simpa using h) fun i a b h1 h2=>hh (i + 1) a b (by simpa using h1) (by simpa using h2)⟩

def okSV (A : Nat) (r' : EL) : SV→Prop
 | .c (.v _)=>True
 | .c (.sl _)=>True
 | .c (.osl k)=>k = A∨lkE r' k≠none
 | .c (.bp k _)=>lkE r' k≠none
 | _=>False
def okE : Ent→Prop
 | .box cs=>∀ c ∈ cs,c.isD = true
 | .arr _ _ rows _=>isDRows rows
 | _=>False

theorem allL_of {α : Type} {p : α→Prop} : ∀ {l : List α},(∀ x ∈ l,p x)→allL p l
 | [],_=>trivial
 | x :: l,h=>⟨h x (by simp),allL_of fun y hy=>h y (by simp [hy])⟩
theorem okSV.wk {A : Nat} {r' : EL} {σ : Nat→Option Ent} {ρ : Nat→Nat} {dom : Nat→Prop} {s : SV} (h : okSV A r' s) (hA : ρ A = A∧dom A) (hr : ∀ k,lkE r' k≠none→ρ k = k∧dom k) : WkSV σ ρ dom s s:=by
 cases s with
 | c x =>
  cases x <;> first | (exact h.elim;done) | skip
  ·exact (rfl : _ = _)
  ·exact (rfl : _ = _)
  ·have h' : _ = A∨lkE r' _≠none:=h
   rcases h' with rfl | h'
   ·exact hA
   ·exact hr _ h'
  ·exact ⟨(hr _ h).1,rfl,(hr _ h).2⟩
 | _=>exact h.elim
theorem okE.wk {σ : Nat→Option Ent} {ρ : Nat→Nat} {dom : Nat→Prop} {e : Ent} (h : okE e) : WkEnt2 σ ρ dom e e:=by
 cases e with
 | box cs =>
  refine TrL.of rfl fun i x y h1 h2=>?_
  rw [h1] at h2;cases h2
  have:=h x (List.mem_of_getElem? h1)
  cases x <;> first | (cases this;done) | exact (rfl : _ = _)
 | arr E s rows f=>exact ⟨rfl,rfl,rfl,.inl rfl,.inl ⟨rfl,h⟩⟩
 | _=>exact h.elim
theorem arr.wk {σ : Nat→Option Ent} {ρ : Nat→Nat} {dom : Nat→Prop} {T' : TypeId} {h : List IT} : WkEnt2 σ ρ dom (.arr T' 2 (h.map irow) false) (.arr T' 2 (h.map irow) false) :=
 ⟨rfl,rfl,rfl,.inl rfl,.inl ⟨rfl,drows_irow _⟩⟩

theorem hEnt_some {T' : TypeId} {h : List IT} {e : Ent} (hh : hEnt T' h = some e) : h≠[]∧e = .arr T' 2 (h.map irow) false:=by
 unfold hEnt at hh
 split at hh
 ·cases hh
 ·rename_i h1;cases hh;exact ⟨h1,rfl⟩

theorem lkE_key {r : EL} {k : Nat} (h : lkE r k≠none) : ∃ e,(k,e) ∈ r:=by
 cases hk : lkE r k with
 | none=>exact absurd hk h
 | some e=>exact ⟨e,lkE_mem hk⟩

section
variable {F A : Nat} {T T' : TypeId} {l l' : SL} {H : List (List IT)} {r r' : EL}

theorem Le.hSame (hAF : A < F) (hs : allL (fun p : Nat × SV=>p.2 = lk .dead l p.1∧okSV A r' p.2) l')
  (he : allL (fun p : Nat × Ent=>(p.1≠A∧p.1 < F)∧lkE r p.1 = some p.2∧okE p.2) r') :
  Le 0 (mkSt l (Abs.famG F A T (hRows F H) (hEnts T' H) r)) (mkSt l' (Abs.famG F A T (hRows F H) (hEnts T' H) r')):=by
 have hkey : ∀ k,lkE r' k≠none→k≠A∧k < F:=fun k hk=>by
  obtain ⟨e,hm⟩:=lkE_key hk
  exact (allL_mem he _ hm).1
 have hdA : lkE (Abs.famG F A T (hRows F H) (hEnts T' H) r') A≠none:=by rw [lkG_A];simp
 have hdr : ∀ k,lkE r' k≠none→lkE (Abs.famG F A T (hRows F H) (hEnts T' H) r') k≠none:=fun k hk=>by rw [lkG_lt (hkey k hk).1 (hkey k hk).2];exact hk
 refine Le.famG id rfl ?_ ⟨_,lkG_A,rfl,rfl,rfl,.inl rfl,.inr ?_⟩ (fun i e' hi=>⟨e',lkG_b (by omega) hi,?_⟩) ?_ (fun k k' _ _ h=>h)
 ·have : ∀ p ∈ l',WkSV (lkE (Abs.famG F A T (hRows F H) (hEnts T' H) r)) id (fun k=>lkE (Abs.famG F A T (hRows F H) (hEnts T' H) r') k≠none) p.2 (lk .dead l p.1):=fun p hp=>by
   obtain ⟨h1,h2⟩:=allL_mem hs p hp
   rw [← h1]
   exact h2.wk ⟨rfl,hdA⟩ fun k hk=>⟨rfl,hdr k hk⟩
  exact allL_of this
 ·refine TrL.of rfl fun i x y h1 h2=>?_
  rw [h1] at h2;cases h2
  rw [hRows_get] at h1
  cases hH : H[i]? with
  | none=>rw [hH] at h1;cases h1
  | some h =>
   rw [hH] at h1
   simp only [Option.map_some,Option.some.injEq] at h1
   subst h1
   unfold hRow
   split
   ·exact ⟨rfl,trivial⟩
   ·rename_i hne
    refine ⟨⟨rfl,?_⟩,trivial⟩
    show lkE (Abs.famG F A T (hRows F H) (hEnts T' H) r') (F + i)≠none
    rw [lkG_b (F:=F) (b:=i) (e:=.arr T' 2 (h.map irow) false) (by omega) (by rw [hEnts_get,hH];simp [hEnt,hne])];simp
 ·rw [hEnts_get] at hi
  cases hH : H[i]? with
  | none=>rw [hH] at hi;cases hi
  | some h =>
   rw [hH] at hi
   simp only [Option.map_some,Option.some.injEq] at hi
   obtain ⟨_,rfl⟩:=hEnt_some hi
   exact arr.wk
 ·have : ∀ p ∈ r',∃ e,lkE (Abs.famG F A T (hRows F H) (hEnts T' H) r) (id p.1) = some e∧WkEnt2 (lkE (Abs.famG F A T (hRows F H) (hEnts T' H) r)) id (fun k=>lkE (Abs.famG F A T (hRows F H) (hEnts T' H) r') k≠none) p.2 e:=fun p hp=>by
   obtain ⟨h1,h2,h3⟩:=allL_mem he p hp
   exact ⟨p.2,by rw [show id p.1 = p.1 from rfl,lkG_lt h1.1 h1.2];exact h2,h3.wk⟩
  exact allL_of this

theorem Le.hClose {b fr : Nat} {h' : List IT} {xs : List (Option Ent)} (hAF : A < F) (hf : fr≠A∧fr < F) (hb : b < H.length) (hne : h'≠[]) (hxs : ∀ i,i≠b→xs[i]? = (hEnts T' H)[i]?)
  (hr : lkE r fr = some (.arr T' 2 (h'.map irow) false))
  (hs : allL (fun p : Nat × SV=>p.2 = lk .dead l p.1∧okSV A r' p.2) l')
  (he : allL (fun p : Nat × Ent=>(p.1≠A∧p.1 < F∧p.1≠fr)∧lkE r p.1 = some p.2∧okE p.2) r') :
  Le 0 (mkSt l (Abs.famG F A T ((hRows F H).set b [.osl fr]) xs r)) (mkSt l' (Abs.famG F A T (hRows F (H.set b h')) (hEnts T' (H.set b h')) r')):=by
 obtain ⟨ρ,hρ⟩ : ∃ ρ : Nat→Nat,ρ = fun k=>if k = F + b then fr else k:=⟨_,rfl⟩
 have hρb : ρ (F + b) = fr:=by rw [hρ];simp
 have hρn : ∀ k,k≠F + b→ρ k = k:=fun k hk=>by rw [hρ];simp [hk]
 have hkey : ∀ k,lkE r' k≠none→k≠A∧k < F∧k≠fr:=fun k hk=>by
  obtain ⟨e,hm⟩:=lkE_key hk
  exact (allL_mem he _ hm).1
 have hdA : lkE (Abs.famG F A T (hRows F (H.set b h')) (hEnts T' (H.set b h')) r') A≠none:=by rw [lkG_A];simp
 have hdr : ∀ k,lkE r' k≠none→lkE (Abs.famG F A T (hRows F (H.set b h')) (hEnts T' (H.set b h')) r') k≠none:=fun k hk=>by rw [lkG_lt (hkey k hk).1 (hkey k hk).2.1];exact hk
 have hdi : ∀ i h,(H.set b h')[i]? = some h→h≠[]→lkE (Abs.famG F A T (hRows F (H.set b h')) (hEnts T' (H.set b h')) r') (F + i)≠none:=fun i h hH hne=>by
  rw [lkG_b (F:=F) (b:=i) (e:=.arr T' 2 (h.map irow) false) (by omega) (by rw [hEnts_get,hH];simp [hEnt,hne])];simp
 have hdfr : lkE (Abs.famG F A T (hRows F (H.set b h')) (hEnts T' (H.set b h')) r') fr = none:=by
  rw [lkG_lt hf.1 hf.2]
  cases hk : lkE r' fr with
  | none=>rfl
  | some e=>exact absurd rfl (hkey fr (by rw [hk];simp)).2.2
 refine Le.famG ρ rfl ?_ ⟨.arr T 1 ((hRows F H).set b [.osl fr]) false,by rw [hρn A (by omega)];exact lkG_A,rfl,rfl,by simp [hRows_len],.inl rfl,.inr ?_⟩ (fun i e' hi=>?_) ?_ (fun k k' hk hk' h=>?_)
 ·have : ∀ p ∈ l',WkSV (lkE (Abs.famG F A T ((hRows F H).set b [.osl fr]) xs r)) ρ (fun k=>lkE (Abs.famG F A T (hRows F (H.set b h')) (hEnts T' (H.set b h')) r') k≠none) p.2 (lk .dead l p.1):=fun p hp=>by
   obtain ⟨h1,h2⟩:=allL_mem hs p hp
   rw [← h1]
   exact h2.wk ⟨hρn A (by omega),hdA⟩ fun k hk=>⟨hρn k (by have:=(hkey k hk).2.1;omega),hdr k hk⟩
  exact allL_of this
 ·refine TrL.of (by simp [hRows_len]) fun i x y h1 h2=>?_
  rw [hRows_get] at h1
  by_cases hib : i = b
  ·subst hib
   rw [List.getElem?_set_self hb] at h1
   rw [List.getElem?_set_self (by rw [hRows_len];exact hb)] at h2
   simp only [Option.map_some,Option.some.injEq] at h1 h2
   subst h1;subst h2
   unfold hRow
   rw [if_neg hne]
   exact ⟨⟨hρb,hdi i h' (List.getElem?_set_self hb) hne⟩,trivial⟩
  ·rw [List.getElem?_set_ne (by omega)] at h1 h2
   rw [hRows_get] at h2
   cases hH : H[i]? with
   | none=>rw [hH] at h1;cases h1
   | some h =>
    rw [hH] at h1 h2
    simp only [Option.map_some,Option.some.injEq] at h1 h2
    subst h1;subst h2
    unfold hRow
    split
    ·exact ⟨rfl,trivial⟩
    ·rename_i hn
     exact ⟨⟨hρn _ (by omega),hdi i h (by rw [List.getElem?_set_ne (by omega)];exact hH) hn⟩,trivial⟩
 ·rw [hEnts_get] at hi
  by_cases hib : i = b
  ·subst hib
   rw [List.getElem?_set_self hb] at hi
   simp only [Option.map_some,Option.some.injEq] at hi
   obtain ⟨_,rfl⟩:=hEnt_some hi
   exact ⟨_,by rw [hρb,lkG_lt hf.1 hf.2];exact hr,arr.wk⟩
  ·rw [List.getElem?_set_ne (by omega)] at hi
   have hi2 : xs[i]? = some (some e'):=by rw [hxs i hib,hEnts_get];exact hi
   cases hH : H[i]? with
   | none=>rw [hH] at hi;cases hi
   | some h =>
    rw [hH] at hi
    simp only [Option.map_some,Option.some.injEq] at hi
    obtain ⟨_,rfl⟩:=hEnt_some hi
    exact ⟨_,by rw [hρn _ (by omega)];exact lkG_b (by omega) hi2,arr.wk⟩
 ·have : ∀ p ∈ r',∃ e,lkE (Abs.famG F A T ((hRows F H).set b [.osl fr]) xs r) (ρ p.1) = some e∧WkEnt2 (lkE (Abs.famG F A T ((hRows F H).set b [.osl fr]) xs r)) ρ (fun k=>lkE (Abs.famG F A T (hRows F (H.set b h')) (hEnts T' (H.set b h')) r') k≠none) p.2 e:=fun p hp=>by
   obtain ⟨h1,h2,h3⟩:=allL_mem he p hp
   exact ⟨p.2,by rw [hρn _ (by omega),lkG_lt h1.1 h1.2.1];exact h2,h3.wk⟩
  exact allL_of this
 ·by_cases h1 : k = F + b
  ·by_cases h2 : k' = F + b
   ·rw [h1,h2]
   ·rw [h1,hρb,hρn k' h2] at h
    rw [← h] at hk';exact absurd hdfr hk'
  ·by_cases h2 : k' = F + b
   ·rw [h2,hρb,hρn k h1] at h
    rw [h] at hk;exact absurd hdfr hk
   ·rwa [hρn k h1,hρn k' h2] at h
end
end Go.Abs

namespace Go.Abs
open Go Go.Proofs
set_option maxRecDepth 100000
set_option linter.unusedSimpArgs false
set_option maxHeartbeats 4000000

def fzE : Ent→Ent
 | .arr E s rows _=>.arr E s rows true
 | e=>e
theorem lkE_frzE (id : Nat) (es : EL) (k : Nat) : lkE (frzE id es) k = if k = id then (lkE es k).map fzE else lkE es k:=by
 unfold frzE
 split
 ·rename_i E s rows f h
  rw [lkE_setE,upd_apply]
  split
  ·rename_i hk;rw [hk,h];rfl
  ·rfl
 ·rename_i h
  split
  ·rename_i hk
   subst hk
   cases he : lkE es k with
   | none=>rfl
   | some e=>cases e <;> first | rfl | exact absurd he (h _ _ _ _)
  ·rfl
theorem fzE_two (e : Ent) : fzE (fzE e) = fzE e:=by cases e <;> rfl
theorem lkE_frzEs : ∀ (ids : List Nat) (es : EL) (k : Nat),lkE (frzEs ids es) k = if k ∈ ids then (lkE es k).map fzE else lkE es k
 | [],es,k=>by simp [frzEs]
 | id :: r,es,k=>by
  rw [frzEs,lkE_frzEs r,lkE_frzE]
  by_cases h1 : k = id
  ·subst h1
   simp only [if_true,List.mem_cons,true_or]
   split
   ·rw [Option.map_map];congr 1;funext e;exact fzE_two e
   ·rfl
  ·simp only [List.mem_cons,h1,false_or,if_false]

theorem hRows_nil (F n : Nat) : hRows F (List.replicate n []) = List.replicate n [.v (.slice none 0 0)]:=by
 apply List.ext_getElem?
 intro i
 rw [hRows_get]
 by_cases h : i < n
 ·simp [h,hRow]
 ·simp [h]
theorem hEnts_nil (T' : TypeId) (n i : Nat) (e : Ent) : (hEnts T' (List.replicate n []))[i]?≠some (some e):=by
 rw [hEnts_get]
 by_cases h : i < n
 ·simp [h,hEnt]
 ·simp [h]

section
variable {F A : Nat} {T T' : TypeId} {l l' : SL} {H : List (List IT)} {r r' es : EL}

theorem Le.hInit {n : Nat} (hAF : A < F) (hA : lkE es A = some (.arr T 1 (List.replicate n [.v (.slice none 0 0)]) false))
  (hs : allL (fun p : Nat × SV=>p.2 = lk .dead l p.1∧okSV A r' p.2) l')
  (he : allL (fun p : Nat × Ent=>(p.1≠A∧p.1 < F)∧lkE es p.1 = some p.2∧okE p.2) r') :
  Le 0 (mkSt l es) (mkSt l' (Abs.famG F A T (hRows F (List.replicate n [])) (hEnts T' (List.replicate n [])) r')):=by
 have hkey : ∀ k,lkE r' k≠none→k≠A∧k < F:=fun k hk=>by
  obtain ⟨e,hm⟩:=lkE_key hk
  exact (allL_mem he _ hm).1
 have hdA : lkE (Abs.famG F A T (hRows F (List.replicate n [])) (hEnts T' (List.replicate n [])) r') A≠none:=by rw [lkG_A];simp
 have hdr : ∀ k,lkE r' k≠none→lkE (Abs.famG F A T (hRows F (List.replicate n [])) (hEnts T' (List.replicate n [])) r') k≠none:=fun k hk=>by rw [lkG_lt (hkey k hk).1 (hkey k hk).2];exact hk
 refine Le.famG id rfl ?_ ⟨_,hA,rfl,rfl,by rw [hRows_nil],.inl rfl,.inl ⟨by rw [hRows_nil],?_⟩⟩ (fun i e' hi=>absurd hi (hEnts_nil T' n i e')) ?_ (fun k k' _ _ h=>h)
 ·have : ∀ p ∈ l',WkSV (lkE es) id (fun k=>lkE (Abs.famG F A T (hRows F (List.replicate n [])) (hEnts T' (List.replicate n [])) r') k≠none) p.2 (lk .dead l p.1):=fun p hp=>by
   obtain ⟨h1,h2⟩:=allL_mem hs p hp
   rw [← h1]
   exact h2.wk ⟨rfl,hdA⟩ fun k hk=>⟨rfl,hdr k hk⟩
  exact allL_of this
 ·rw [hRows_nil]
  intro q hq c hc
  rw [List.eq_of_mem_replicate hq] at hc
  simp only [List.mem_singleton] at hc
  subst hc;rfl
 ·have : ∀ p ∈ r',∃ e,lkE es (id p.1) = some e∧WkEnt2 (lkE es) id (fun k=>lkE (Abs.famG F A T (hRows F (List.replicate n [])) (hEnts T' (List.replicate n [])) r') k≠none) p.2 e:=fun p hp=>by
   obtain ⟨h1,h2,h3⟩:=allL_mem he p hp
   exact ⟨p.2,h2,h3.wk⟩
  exact allL_of this

def hData (H : List (List IT)) : List (List C):=H.map fun h=>[.sl (h.map irow)]
theorem hData_d (H : List (List IT)) : isDRows (hData H):=by
 intro q hq c hc
 obtain ⟨h,_,rfl⟩:=List.mem_map.1 hq
 simp only [List.mem_singleton] at hc
 subst hc;rfl

theorem Le.hDone (hAF : A < F)
  (hs : allL (fun p : Nat × SV=>p.2 = lk .dead l p.1∧okSV A r' p.2) l')
  (he : allL (fun p : Nat × Ent=>(p.1≠A∧p.1 < F)∧lkE r p.1 = some p.2∧okE p.2) r') :
  Le 0 (mkSt l (Abs.famG F A T (hRows F H) (hEnts T' H) r)) (mkSt l' ((A,.arr T 1 (hData H) false) :: r')):=by
 obtain ⟨ids,hids⟩ : ∃ ids,ids = (List.range H.length).map (F + ·):=⟨_,rfl⟩
 have hmem : ∀ k,k ∈ ids ↔ F≤k∧k < F + H.length:=fun k=>by
  rw [hids,List.mem_map]
  constructor
  ·rintro ⟨i,hi,rfl⟩;rw [List.mem_range] at hi;omega
  ·rintro ⟨h1,h2⟩;exact ⟨k - F,List.mem_range.2 (by omega),by omega⟩
 have h1:=Le.frzEs (n:=0) (l:=lk .dead l) ids (Abs.famG F A T (hRows F H) (hEnts T' H) r)
 refine Le.trans h1 ?_
 have hkey : ∀ k,lkE r' k≠none→k≠A∧k < F:=fun k hk=>by
  obtain ⟨e,hm⟩:=lkE_key hk
  exact (allL_mem he _ hm).1
 have hlt : ∀ k,k < F→lkE (Abs.frzEs ids (Abs.famG F A T (hRows F H) (hEnts T' H) r)) k = lkE (Abs.famG F A T (hRows F H) (hEnts T' H) r) k:=fun k hk=>by
  rw [lkE_frzEs,if_neg (by rw [hmem];omega)]
 have hfam : ∀ i h,H[i]? = some h→h≠[]→lkE (Abs.frzEs ids (Abs.famG F A T (hRows F H) (hEnts T' H) r)) (F + i) = some (.arr T' 2 (h.map irow) true):=fun i h hH hne=>by
  have hi : i < H.length:=by
   rcases Nat.lt_or_ge i H.length with h' | h'
   ·exact h'
   ·rw [List.getElem?_eq_none h'] at hH;cases hH
  rw [lkE_frzEs,if_pos (by rw [hmem];omega),lkG_b (F:=F) (b:=i) (e:=.arr T' 2 (h.map irow) false) (by omega) (by rw [hEnts_get,hH];simp [hEnt,hne])]
  rfl
 have hdA : lkE ((A,Ent.arr T 1 (hData H) false) :: r') A≠none:=by simp [lkE]
 have hdr : ∀ k,lkE r' k≠none→lkE ((A,Ent.arr T 1 (hData H) false) :: r') k≠none:=fun k hk=>by
  show (if k = A then _ else lkE r' k)≠none
  rw [if_neg (hkey k hk).1];exact hk
 refine Le.weaken2 (st:={ sl:=lk .dead l,σ:=lkE (Abs.frzEs ids (Abs.famG F A T (hRows F H) (hEnts T' H) r)) }) id (fun t=>?_) (fun k e' hk=>?_) (fun k k' _ _ _ _ h=>h) fun k hk=>absurd hk (Nat.not_lt_zero k)
 ·rcases lk_cases (l:=l') t with h | h
  ·show WkSV _ _ _ (lk .dead l' t) _
   rw [h]
   show WkSV _ _ _ _ (lk .dead l t)
   cases lk .dead l t <;> trivial
  ·obtain ⟨h3,h4⟩:=allL_mem hs (t,lk .dead l' t) h
   show WkSV _ _ _ (lk .dead l' t) (lk .dead l t)
   have h3' : lk .dead l' t = lk .dead l t:=h3
   rw [← h3']
   exact okSV.wk h4 ⟨rfl,hdA⟩ fun k hk=>⟨rfl,hdr k hk⟩
 ·have hk' : (if k = A then some (Ent.arr T 1 (hData H) false) else lkE r' k) = some e':=hk
  split at hk'
  ·rename_i hkA
   cases hk'
   refine ⟨.arr T 1 (hRows F H) false,?_,rfl,rfl,by simp [hData,hRows_len],.inl rfl,.inr ?_⟩
   ·show lkE (Abs.frzEs ids (Abs.famG F A T (hRows F H) (hEnts T' H) r)) k = _
    rw [hkA,hlt A hAF,lkG_A]
   ·refine TrL.of (by simp [hData,hRows_len]) fun i x y g1 g2=>?_
    rw [hRows_get] at g2
    unfold hData at g1
    rw [List.getElem?_map] at g1
    cases hH : H[i]? with
    | none=>rw [hH] at g1;cases g1
    | some h =>
     rw [hH] at g1 g2
     simp only [Option.map_some,Option.some.injEq] at g1 g2
     subst g1;subst g2
     unfold hRow
     split
     ·rename_i hn;subst hn;exact ⟨⟨rfl,rfl⟩,trivial⟩
     ·rename_i hn
      exact ⟨⟨⟨_,_,hfam i h hH hn⟩,drows_irow _⟩,trivial⟩
  ·rename_i hkA
   obtain ⟨h3,h4,h5⟩:=allL_mem he (k,e') (lkE_mem hk')
   exact ⟨e',by show lkE (Abs.frzEs ids (Abs.famG F A T (hRows F H) (hEnts T' H) r)) k = _;rw [hlt k h3.2,lkG_lt h3.1 h3.2];exact h4,okE.wk h5⟩
end
end Go.Abs

namespace Go.Abs
open Go Go.Proofs
set_option maxRecDepth 100000
set_option linter.unusedSimpArgs false
set_option maxHeartbeats 8000000

def hStep (s : Int) (H : List (List IT)) (x : IT) : List (List IT):=if 0≤x.b∧x.b < H.length then H.set x.b.toNat (H.getD x.b.toNat [] ++ [⟨s,x.d⟩]) else H
def hW (H : List (List IT)) (w : WR) : List (List IT):=w.its.foldl (hStep w.s) H
def hAll (n : Nat) (ws : List WR) : List (List IT):=ws.foldl hW (List.replicate n [])

def HOk (k : Int) (m : Nat) (H : List (List IT)) : Prop:=∀ h ∈ H,h.length≤m∧rise h∧∀ x ∈ h,x.b≤k∧x.d.length≤1000000
theorem rise_snoc : ∀ {l : List IT} {x : IT},rise l→(∀ y ∈ l,y.b≤x.b)→rise (l ++ [x])
 | [],x,_,_=>⟨fun y hy=>(by cases hy),trivial⟩
 | y :: l,x,h,hx=>by
  refine ⟨fun z hz=>?_,rise_snoc h.2 fun z hz=>hx z (by simp [hz])⟩
  rcases List.mem_append.1 hz with hz | hz
  ·exact h.1 z hz
  ·simp only [List.mem_singleton] at hz;subst hz;exact hx y (by simp)
theorem hStep_len (s : Int) (H : List (List IT)) (x : IT) : (hStep s H x).length = H.length:=by unfold hStep;split <;> simp
theorem HOk.step {k s : Int} {m : Nat} {H : List (List IT)} (h : HOk k m H) (hks : k≤s) {x : IT} (hd : x.d.length≤1000000) : HOk s (m + 1) (hStep s H x):=by
 have h0 : ∀ g ∈ H,g.length≤m + 1∧rise g∧∀ y ∈ g,y.b≤s∧y.d.length≤1000000:=fun g hg=>by
  obtain ⟨h1,h2,h3⟩:=h g hg
  exact ⟨by omega,h2,fun y hy=>⟨by have:=(h3 y hy).1;omega,(h3 y hy).2⟩⟩
 unfold hStep
 split
 ·rename_i hb
  intro g hg
  rcases List.mem_or_eq_of_mem_set hg with hg | rfl
  ·exact h0 g hg
  ·have hi : x.b.toNat < H.length:=by omega
   rw [List.getD_eq_getElem?_getD,List.getElem?_eq_getElem hi,Option.getD_some]
   obtain ⟨h1,h2,h3⟩:=h _ (List.getElem_mem hi)
   refine ⟨by simp;omega,rise_snoc h2 fun y hy=>by have:=(h3 y hy).1;simp only;omega,fun y hy=>?_⟩
   rcases List.mem_append.1 hy with hy | hy
   ·exact ⟨by have:=(h3 y hy).1;omega,(h3 y hy).2⟩
   ·simp only [List.mem_singleton] at hy;subst hy;exact ⟨Int.le_refl _,hd⟩
 ·exact h0

def atF (size : Nat) (t : Int) (h : List IT) : List Nat:=if 0 < behN t h then (h.take (behN t h)).getLast?.elim [] (·.d) else List.replicate size 0
def outF (size : Nat) (t : Int) (q : Nat) (H : List (List IT)) : List (List C):=H.mapIdx fun i h=>if i < q then bodyR (atF size t h) else [.v (.slice none 0 0)]
theorem outF_d {size : Nat} {t : Int} {q : Nat} (H : List (List IT)) : isDRows (outF size t q H):=by
 intro r hr c hc
 obtain ⟨i,hi,rfl⟩:=List.mem_mapIdx.1 hr
 split at hc
 ·simp only [bodyR,List.mem_singleton] at hc;subst hc;rfl
 ·simp only [List.mem_singleton] at hc;subst hc;rfl
theorem outF_len (size : Nat) (t : Int) (q : Nat) (H : List (List IT)) : (outF size t q H).length = H.length:=by simp [outF]
theorem outF_zero (size : Nat) (t : Int) (H : List (List IT)) : outF size t 0 H = List.replicate H.length [.v (.slice none 0 0)]:=by
 unfold outF
 apply List.ext_getElem?
 intro i
 rw [List.getElem?_mapIdx,List.getElem?_replicate]
 by_cases h : i < H.length
 ·rw [if_pos h,List.getElem?_eq_getElem h];rfl
 ·rw [if_neg h,List.getElem?_eq_none (by omega)];rfl
theorem outF_set (size : Nat) (t : Int) (q : Nat) (H : List (List IT)) (hq : q < H.length) : (outF size t q H).set q (bodyR (atF size t H[q])) = outF size t (q + 1) H:=by
 apply List.ext_getElem?
 intro i
 by_cases h : i = q
 ·subst h
  rw [List.getElem?_set_self (by rw [outF_len];exact hq)]
  simp [outF,List.getElem?_mapIdx,List.getElem?_eq_getElem hq]
 ·rw [List.getElem?_set_ne (by omega)]
  simp only [outF,List.getElem?_mapIdx]
  cases H[i]? with
  | none=>rfl
  | some x =>
   simp only [Option.map_some,Option.some.injEq]
   by_cases h2 : i < q
   ·rw [if_pos h2,if_pos (by omega)]
   ·rw [if_neg h2,if_neg (by omega)]
theorem outF_all (size : Nat) (t : Int) (H : List (List IT)) : outF size t H.length H = H.map fun h=>bodyR (atF size t h):=by
 apply List.ext_getElem?
 intro i
 simp only [outF,List.getElem?_mapIdx,List.getElem?_map]
 cases hi : H[i]? with
 | none=>rfl
 | some x =>
  have : i < H.length:=by
   rcases Nat.lt_or_ge i H.length with h | h
   ·exact h
   ·rw [List.getElem?_eq_none h] at hi;cases hi
  simp [this]
theorem hData_get {H : List (List IT)} {q : Nat} (hq : q < H.length) : (hData H)[q]? = some [.sl (H[q].map irow)]:=by simp [hData,List.getElem?_eq_getElem hq]
theorem hData_len (H : List (List IT)) : (hData H).length = H.length:=by simp [hData]
theorem HOk.mono {k k' : Int} {m m' : Nat} {H : List (List IT)} (h : HOk k m H) (h1 : k≤k') (h2 : m≤m') : HOk k' m' H:=fun g hg=>by
 obtain ⟨a,b,c⟩:=h g hg
 exact ⟨by omega,b,fun x hx=>⟨by have:=(c x hx).1;omega,(c x hx).2⟩⟩
theorem wsR_at {b s : Int} : ∀ {l : List WR} {k i : Nat} (hi : i < l.length),wsR b s k l = true→l[i].s = ((k + i : Nat) : Int) + 1∧itemsR b s l[i].its = true
 | w :: l,k,0,_,h=>by
  simp only [wsR,Bool.and_eq_true,decide_eq_true_eq] at h
  exact ⟨by simpa using h.1.1,h.1.2⟩
 | w :: l,k,i + 1,hi,h=>by
  simp only [wsR,Bool.and_eq_true] at h
  have:=wsR_at (l:=l) (k:=k + 1) (i:=i) (by simpa using hi) h.2
  rw [show k + 1 + i = k + (i + 1) by omega] at this
  simpa using this

theorem volume_State_con (v : VOL) (t : Int) (hg : ∃ n,n≤50000∧Vgood v n) (h1 : ¬ t < v.floor) (h2 : ¬ lenV v < t) :
  Con Try.prog 35 [.agg (volC v),I t] [] (.tup [.c (.sl ((hAll v.blocks.toNat v.ws).map fun h=>bodyR (atF v.size.toNat t h))),I 0]) []:=by
 obtain ⟨nG,hnG,hG⟩:=hg
 have cL:=volume_Len_con v
 have cT:=volume_time_con v t (lenV v)
 rw [show timeE v.floor t (lenV v) = 0 from by unfold timeE;rw [if_neg h1,if_neg h2]] at cT
 obtain ⟨r1,r2,r3,r4,r5,r6,r7,r8⟩:=rightV_iff.1 hG.right
 obtain ⟨s1,s2,s3,s4,s5,s6,s7⟩:=shape_lims r1
 have hwl:=hG.ws
 obtain ⟨n,hn⟩ : ∃ n : Nat,v.blocks = n:=⟨v.blocks.toNat,by omega⟩
 rw [show v.blocks.toNat = n by omega]
 have hmx : (if v.blocks < 0 then 0 else v.blocks) = (n : Int):=by rw [if_neg (by omega)];exact hn
 have hmx2 : (if (0 : Int) > v.blocks then 0 else v.blocks) = (n : Int):=by rw [if_neg (by omega)];exact hn
 refine C_volume_State nl nl ?_
 simp only [cz,A_volume_State,argL,objL,List.length_nil,Nat.zero_add,zX]
 refine aS 16 (fun Q hQ=>by simp (disch:=intros;contradiction) only [zS,vC_eq,simprocAttr];exact hQ) ?_
 refine aBD 96 ?_
 refine rC [] (cL) ?_
 refine aM ?_
 refine rC [] (cT) ?_
 refine aED ?_
 refine aR 224 ?_
 refine aF ?_
 refine aS 288 (fun Q hQ=>by simp (disch:=intros;contradiction) only [zS,zW,hmx,simprocAttr];repeat refine ⟨by (omega),?_⟩;exact hQ) ?_
 refine aS 400 (fun Q hQ=>by simp (disch:=intros;contradiction) only [zS,zW,simprocAttr];exact hQ) ?_
 refine aw_loopK (X:={ x : Nat × List (List IT) // x.1≤v.ws.length∧x.2.length = n∧HOk x.1 (x.1 * 8) x.2∧(v.ws.drop x.1).foldl hW x.2 = hAll n v.ws }) [1,2,7,29,30] (fun x=>[(31,I x.1.1)]) [] (fun x=>famG 100000 336 103 (hRows 100000 x.1.2) (hEnts 105 x.1.2) [(16,.box (volC v))]) (fun x=>v.ws.length - x.1.1) (⟨(0,List.replicate n []),by simp only;omega,by simp,fun h hh=>by rw [List.eq_of_mem_replicate hh];exact ⟨by simp,trivial,fun x hx=>(by cases hx)⟩,rfl⟩) ?_ ?_
 ·skip
  simp only [keepS,keepE,lk_cons,List.cons_append,List.nil_append,simprocAttr]
  simp only [List.append_nil];exact Le.hInit (by decide) (by simp [lkE]) (by simp [allL,okSV,lk,lkE]) ⟨⟨⟨by simp,by simp⟩,rfl,volC_pure v⟩,trivial⟩
 rintro ⟨⟨i,H⟩,hi,hHn,hok,hfo⟩
 simp only [keepS,keepE,lk_cons,List.cons_append,List.nil_append,simprocAttr]
 simp only [zX]
 simp only at hi hHn hok hfo
 simp only [List.append_nil]
 have hrl : (hRows 100000 H).length = n:=by rw [hRows_len];exact hHn
 refine aS 496 (fun Q hQ=>by simp (disch:=intros;contradiction) only [zS,vC_eq,simprocAttr];exact hQ) ?_
 refine aw_cond _ rfl trivial (fun ht=>?_) (fun hf=>?_)
 ·skip
  try simp at ht
  simp only [zX]
  have hiw : i < v.ws.length:=by omega
  obtain ⟨hws,hwi⟩:=wsR_at hiw r8
  rw [Nat.zero_add] at hws
  have hwl8:=itemsR_len hwi
  have hwm:=itemsR_mem hwi
  rw [drop_get hiw,List.foldl_cons] at hfo
  obtain ⟨w,hw⟩ : ∃ w,w = v.ws[i]:=⟨_,rfl⟩
  rw [← hw] at hws hwi hwl8 hwm hfo
  have hw' : v.ws[i] = w:=hw.symm
  refine aS 544 (fun Q hQ=>by simp (disch:=first | (intros;contradiction) | omega | (simp only [zN];omega)) only [zS,zW,lkG_lt,setG_lt,wrow,wrC,hw',simprocAttr];repeat refine ⟨by (omega),?_⟩;exact hQ) ?_
  refine aS 640 (fun Q hQ=>by simp (disch:=first | (intros;contradiction) | omega | (simp only [zN];omega)) only [zS,zW,lkG_lt,simprocAttr];exact hQ) ?_
  refine aw_loopK (X:={ x : Nat × List (List IT) // x.1≤w.its.length∧x.2.length = n∧HOk (i + 1 : Nat) (i * 8 + x.1) x.2∧(w.its.drop x.1).foldl (hStep w.s) x.2 = hW H w }) [1,2,7,9,29,30,31,36,37] (fun x=>[(38,I x.1.1)]) [] (fun x=>famG 100000 336 103 (hRows 100000 x.1.2) (hEnts 105 x.1.2) [(16,.box (volC v)),(576,.box (wrC w.s w.its))]) (fun x=>w.its.length - x.1.1) (⟨(0,H),by simp only;omega,hHn,hok.mono (by omega) (by omega),rfl⟩) ?_ ?_
  ·skip
   simp only [keepS,keepE,lk_cons,List.cons_append,List.nil_append,simprocAttr]
   simp only [List.append_nil];exact Le.hSame (by decide) (by simp [allL,okSV,lk,lkE]) ⟨⟨⟨by simp,by simp⟩,rfl,volC_pure v⟩,⟨⟨by simp,by simp⟩,rfl,by intro c hc;simp [wrC] at hc;rcases hc with rfl | rfl <;> rfl⟩,trivial⟩
  rintro ⟨⟨j,H1⟩,hj,hH1,hok1,hf1⟩
  simp only [keepS,keepE,lk_cons,List.cons_append,List.nil_append,simprocAttr]
  simp only [zX]
  simp only at hj hH1 hok1 hf1
  simp only [List.append_nil]
  have hrl1 : (hRows 100000 H1).length = n:=by rw [hRows_len];exact hH1
  refine aS 736 (fun Q hQ=>by simp (disch:=intros;contradiction) only [zS,vC_eq,wrC,simprocAttr];exact hQ) ?_
  refine aw_cond _ rfl trivial (fun ht=>?_) (fun hf=>?_)
  ·skip
   try simp at ht
   simp only [zX]
   have hjl : j < w.its.length:=by omega
   obtain ⟨hx1,hx2,hx3⟩:=hwm _ (List.getElem_mem hjl)
   obtain ⟨x,hx⟩ : ∃ x,x = w.its[j]:=⟨_,rfl⟩
   have hx' : w.its[j] = x:=hx.symm
   rw [hx'] at hx1 hx2 hx3
   obtain ⟨b,hb⟩ : ∃ b : Nat,x.b = b:=⟨x.b.toNat,by omega⟩
   have hbH : b < H1.length:=by omega
   rw [drop_get hjl,List.foldl_cons,hx'] at hf1
   have hst : hStep w.s H1 x = H1.set b (H1[b] ++ [⟨w.s,x.d⟩]):=by
    unfold hStep
    rw [if_pos ⟨hx1,by omega⟩,hb,Int.toNat_natCast,List.getD_eq_getElem?_getD,List.getElem?_eq_getElem hbH];rfl
   have hok2:=hok1.step (s:=w.s) (by rw [hws];omega) (x:=x) (by omega)
   have hsl:=hStep_len w.s H1 x
   rw [hst] at hf1 hok2 hsl
   refine aS 784 (fun Q hQ=>by simp (disch:=first | (intros;contradiction) | omega | (simp only [zN];omega)) only [zS,zW,lkG_lt,setG_lt,irow,itC,hx',hb,simprocAttr];repeat refine ⟨by (omega),?_⟩;exact hQ) ?_
   refine aS 880 (fun Q hQ=>by simp (disch:=first | (intros;contradiction) | omega | (simp only [zN];omega)) only [zS,lkG_lt,lkG_A,simprocAttr];exact hQ) ?_
   refine aw_cond _ rfl trivial (fun ht=>?_) (fun hf=>by simp [hrl1] at hf;omega)
   by_cases hne : H1[b] = []
   ·skip
    have hrow : (hRows 100000 H1)[b]? = some [.v (.slice none 0 0)]:=by rw [hRows_get,List.getElem?_eq_getElem hbH];simp [hRow,hne]
    refine aw_draw 1072 (RG.go fun Q hQ=>?_)
    simp (disch:=first | (intros;contradiction) | omega | (simp only [zN];omega)) only [zS,zW,lkG_lt,lkG_A,setG_lt,setG_A,hrl1,hrow,simprocAttr]
    repeat refine ⟨by (first | omega | (simp;done)),?_⟩
    refine hQ (RG.nil ⟨by decide +kernel,?_⟩)
    simp only [zX]
    refine aS 1376 (fun Q hQ=>by simp (disch:=first | (intros;contradiction) | omega | (simp only [zN];omega)) only [zS,zW,simprocAttr];exact hQ) ?_
    refine ⟨⟨(j + 1,H1.set b (H1[b] ++ [⟨w.s,x.d⟩])),hjl,by simp only [List.length_set];exact hH1,by simp only;exact hok2.mono (by rw [hws];omega) (by omega),hf1⟩,?_,by first | omega | (simp only;omega)⟩
    simp only [];exact Le.hClose (fr:=1296) (by omega) ⟨by omega,by omega⟩ hbH (by simp) (fun i _=>rfl) (by simp [lkE,hne,irow,itC,hws]) (by simp [allL,okSV,lk,lkE]) ⟨⟨⟨by simp,by simp,by simp⟩,rfl,volC_pure v⟩,⟨⟨by simp,by simp,by simp⟩,rfl,by intro c hc;simp [wrC] at hc;rcases hc with rfl | rfl <;> rfl⟩,trivial⟩
   have hrow : (hRows 100000 H1)[b]? = some [.osl (100000 + b)]:=by rw [hRows_get,List.getElem?_eq_getElem hbH];simp [hRow,hne]
   have hent : (hEnts 105 H1)[b]? = some (some (.arr 105 2 (H1[b].map irow) false)):=by rw [hEnts_get,List.getElem?_eq_getElem hbH];simp [hEnt,hne]
   have hlk : ∀ r,lkE (famG 100000 336 103 (hRows 100000 H1) (hEnts 105 H1) r) (100000 + b) = some (.arr 105 2 (H1[b].map irow) false):=fun r=>lkG_b (by omega) hent
   have hse : ∀ r e,setE (100000 + b) e (famG 100000 336 103 (hRows 100000 H1) (hEnts 105 H1) r) = famG 100000 336 103 (hRows 100000 H1) ((hEnts 105 H1).set b (some e)) r:=fun r e=>setG_b (by omega) hent
   have hlen:=(hok1 _ (List.getElem_mem hbH)).1
   refine aw_draw 1440 (RG.go fun Q hQ=>?_)
   simp (disch:=first | (intros;contradiction) | omega | (simp only [zN];omega)) only [zS,zW,lkG_lt,lkG_A,setG_lt,setG_A,hrl1,hrow,hlk,hse,simprocAttr]
   repeat refine ⟨by (first | omega | (simp;omega)),?_⟩
   refine hQ (RG.nil ⟨by refine drawOk_nswp (100000 + b) 99999 ?_;simp (disch:=omega) only [List.map_reverse,List.map_cons,List.map_nil,nswp_self,nswp_ne];decide +kernel,?_⟩)
   simp only [zX]
   refine aS 1744 (fun Q hQ=>by simp (disch:=first | (intros;contradiction) | omega | (simp only [zN];omega)) only [zS,zW,simprocAttr];exact hQ) ?_
   refine ⟨⟨(j + 1,H1.set b (H1[b] ++ [⟨w.s,x.d⟩])),hjl,by simp only [List.length_set];exact hH1,by simp only;exact hok2.mono (by rw [hws];omega) (by omega),hf1⟩,?_,by first | omega | (simp only;omega)⟩
   simp only [];exact Le.hClose (fr:=1664) (by omega) ⟨by omega,by omega⟩ hbH (by simp) (fun i hi=>by rw [List.getElem?_set_ne (by omega)]) (by simp [lkE,irow,itC,hws]) (by simp [allL,okSV,lk,lkE]) ⟨⟨⟨by simp,by simp,by simp⟩,rfl,volC_pure v⟩,⟨⟨by simp,by simp,by simp⟩,rfl,by intro c hc;simp [wrC] at hc;rcases hc with rfl | rfl <;> rfl⟩,trivial⟩
  try simp at hf
  simp only [zX,↓reduceIte]
  have hjj : j = w.its.length:=by omega
  rw [hjj,List.drop_length,List.foldl_nil] at hf1
  rw [hjj] at hok1
  rw [← hf1] at hfo
  refine aS 1808 (fun Q hQ=>by simp (disch:=first | (intros;contradiction) | omega | (simp only [zN];omega)) only [zS,zW,simprocAttr];exact hQ) ?_
  refine ⟨⟨(i + 1,H1),by simp only;omega,hH1,hok1.mono (by simp only;omega) (by simp only;omega),hfo⟩,?_,by first | omega | (simp only;omega)⟩
  (try simp only []);exact Le.hSame (by decide) (by simp [allL,okSV,lk,lkE]) ⟨⟨⟨by simp,by simp⟩,rfl,volC_pure v⟩,trivial⟩
 try simp at hf
 simp only [zX,↓reduceIte]
 have hii : i = v.ws.length:=by omega
 rw [hii,List.drop_length,List.foldl_nil] at hfo
 rw [hii] at hok
 rw [← hfo]
 obtain ⟨sz,hsz⟩ : ∃ sz : Nat,v.size = sz:=⟨v.size.toNat,by omega⟩
 rw [show v.size.toNat = sz by omega]
 have hsx : (if v.size < 0 then 0 else v.size) = (sz : Int):=by rw [if_neg (by omega)];exact hsz
 have hsx2 : (if (0 : Int) > v.size then 0 else v.size) = (sz : Int):=by rw [if_neg (by omega)];exact hsz
 refine aS 1872 (fun Q hQ=>by simp (disch:=first | (intros;contradiction) | omega | (simp only [zN];omega)) only [zS,zW,lkG_lt,lkG_A,setG_lt,hrl,simprocAttr];repeat refine ⟨by (omega),?_⟩;exact hQ) ?_
 refine aS 1968 (fun Q hQ=>by simp (disch:=intros;contradiction) only [zS,lkG_A,hrl,simprocAttr];exact hQ) ?_
 refine aw_loopK (X:={ q : Nat // q≤n }) [1,2,7,12,74] (fun q=>[(75,I q.1)]) [] (fun q=>[(336,.arr 103 1 (hData H) false),(1904,.arr 43 1 (outF sz t q.1 H) false),(16,.box (volC v))]) (fun q=>n - q.1) (⟨0,by omega⟩) ?_ ?_
 ·skip
  simp only [keepS,keepE,lk_cons,List.cons_append,List.nil_append,simprocAttr]
  (try simp only [famG_app,List.append_nil]);exact Le.hDone (by decide) (by simp [allL,okSV,lk,lkE]) ⟨⟨⟨by simp,by simp⟩,by simp [lkE,outF_zero,hHn],outF_d _⟩,⟨⟨by simp,by simp⟩,rfl,volC_pure v⟩,trivial⟩
 rintro ⟨q,hq⟩
 simp only [keepS,keepE,lk_cons,List.cons_append,List.nil_append,simprocAttr]
 simp only [zX]
 refine aS 2048 (fun Q hQ=>by simp (disch:=intros;contradiction) only [zS,vC_eq,simprocAttr];exact hQ) ?_
 refine aw_cond _ rfl trivial (fun ht=>?_) (fun hf=>?_)
 ·skip
  try simp at ht
  simp only [zX]
  have hqn : q < n:=by omega
  have hqH : q < H.length:=by omega
  have hdq:=hData_get hqH
  have hdl:=hData_len H
  have hol:=outF_len sz t q H
  obtain ⟨a1,a2,a3⟩:=hok _ (List.getElem_mem hqH)
  have cA:=hist_At_con H[q] t (by omega) a2 fun x hx=>(a3 x hx).2
  refine aR 2096 ?_
  refine aw_reg 2160 (RG.go fun Q hQ=>?_)
  simp (disch:=intros;contradiction) only [zS,zW,hdq,hdl,hHn,simprocAttr]
  repeat refine ⟨by (omega),?_⟩
  refine hQ ?_
  refine rC [] (cA) ?_ (hs:=(by exact .inr ⟨pureTB,trivial⟩))
  refine RG.go fun Q hQ=>?_
  simp (disch:=intros;contradiction) only [zS,simprocAttr]
  refine hQ (RG.nil ?_)
  simp only [zY]
  refine aw_joinS (Y:=Unit) [1,2,7,12,13,74,75] (fun u=>[(14,.c (.sl ((atF sz t H[q]).map brow)))]) [336,1904,16] (fun u=>[]) (by (repeat' (first | exact cl_fin | refine cl_then ?_ ?_ | refine cl_block ?_ | refine cl_loop ?_))) ?_ ?_
  ·skip
   simp only [zX]
   refine aR 2368 ?_
   refine aw_cond _ rfl trivial (fun ht=>?_) (fun hf=>?_)
   ·skip
    try simp at ht
    have hno : ¬ 0 < behN t H[q]:=by simpa using ht
    refine aS 2432 (fun Q hQ=>by simp (disch:=intros;contradiction) only [zS,zW,hsx,simprocAttr];repeat refine ⟨by (omega),?_⟩;exact hQ) ?_
    refine ⟨(),?_⟩
    simp only [keepS,keepE,Option.getD_some,lk_cons,lkE_cons,List.cons_append,List.nil_append,simprocAttr]
    refine Le.lit [2480] [] _ _ ?_ ?_ ?_ ?_
    ·simp only [zL,simprocAttr]
     all_goals (exact ⟨⟨_,_,by unfold atF;rw [if_neg hno,List.map_replicate];rfl⟩,drows_brow _⟩;skip)
    ·simp only [zL,simprocAttr]
     all_goals (try ((repeat' (first | (first | exact outF_d _ | exact hData_d _) | refine ⟨?_,?_⟩))))
    ·simp [rlook]
    ·(simp;done)
   try simp at hf
   simp only [zX]
   have hye : 0 < behN t H[q]:=by simpa using hf
   refine ⟨(),?_⟩
   simp only [keepS,keepE,Option.getD_some,lk_cons,lkE_cons,List.cons_append,List.nil_append,simprocAttr]
   refine Le.lit [] [] _ _ ?_ ?_ ?_ ?_
   ·simp only [zL,simprocAttr]
    all_goals ((unfold atF;rw [if_pos hye]);skip)
   ·simp only [zL,simprocAttr]
    all_goals (try ((repeat' (first | (first | exact outF_d _ | exact hData_d _) | refine ⟨?_,?_⟩))))
   ·simp [rlook]
   ·(simp;done)
  rintro u
  simp only [keepS,keepE,Option.getD_some,lk_cons,lkE_cons,List.cons_append,List.nil_append,simprocAttr]
  have hset : (outF sz t q H).set q (C.sl (List.map brow (atF sz t H[q])) :: List.drop 1 ((outF sz t q H)[q]?.getD [])) = outF sz t (q + 1) H:=by
   have:=outF_set sz t q H hqH
   rw [← this]
   congr 1
   simp [outF,List.getElem?_eq_getElem hqH,bodyR]
  refine aw_reg 2544 (RG.go fun Q hQ=>?_)
  simp (disch:=intros;contradiction) only [zS,zW,hol,hHn,hset,simprocAttr]
  repeat refine ⟨by (omega),?_⟩
  refine hQ (RG.nil ?_)
  simp only [zX]
  refine aS 2656 (fun Q hQ=>by simp (disch:=first | (intros;contradiction) | omega | (simp only [zN];omega)) only [zS,zW,simprocAttr];exact hQ) ?_
  refine ⟨⟨q + 1,hqn⟩,?_,by first | omega | (simp only;omega)⟩
  refine Le.lit [] [] _ _ ?_ ?_ ?_ ?_
  ·simp only [zL,simprocAttr]
   all_goals (try ((repeat' (rfl))))
  ·simp only [zL,simprocAttr]
   all_goals (exact ⟨hData_d _,outF_d _,rfl,rfl,rfl,rfl,rfl,rfl,rfl,rfl,rfl,rfl,rfl,trivial⟩;skip)
  ·simp [rlook]
  ·(simp;done)
 try simp at hf
 simp only [zX,↓reduceIte]
 have hqq : q = n:=by omega
 refine aR 2720 ?_
 refine Fin.data [1904] (.inr rfl) rfl (by (exact trivial)) ?_
 simp only [zL,simprocAttr]
 all_goals (rw [← outF_all,hHn,hqq];exact ⟨⟨_,_,rfl⟩,outF_d _⟩)

end Go.Abs

namespace Go.Abs
open Go Go.Proofs
set_option maxRecDepth 100000
set_option linter.unusedSimpArgs false
set_option maxHeartbeats 8000000

def rStep (R : List (List Nat)) (x : IT) : List (List Nat):=R.set x.b.toNat x.d
def rW (R : List (List Nat)) (w : WR) : List (List Nat):=w.its.foldl rStep R
def zB (v : VOL) : List (List Nat):=List.replicate v.blocks.toNat (List.replicate v.size.toNat 0)
def bodV (v : VOL) (t : Int) : List (List Nat):=(v.ws.take t.toNat).foldl rW (zB v)
def bodE (v : VOL) (t : Int) : List (List Nat):=if timeE v.floor t (lenV v) = 0 then bodV v t else []

theorem takeW_snoc {α : Type} {p : α→Bool} {x : α} (hx : p x = false) : ∀ l : List α,(l ++ [x]).takeWhile p = l.takeWhile p
 | []=>by simp [hx]
 | y :: l=>by simp only [List.cons_append,List.takeWhile_cons,takeW_snoc hx l]
theorem atF_le {size : Nat} {t : Int} {h : List IT} {x : IT} (hh : ∀ y ∈ h,y.b≤t) (hx : x.b≤t) : atF size t (h ++ [x]) = x.d:=by
 have hb : behN t (h ++ [x]) = (h ++ [x]).length:=by
  unfold behN
  rw [List.takeWhile_append_of_pos (fun y hy=>by simpa using hh y hy)]
  simp [hx]
 unfold atF
 rw [if_pos (by rw [hb];simp),hb,List.take_length]
 simp
theorem atF_gt {size : Nat} {t : Int} {h : List IT} {x : IT} (hx : t < x.b) : atF size t (h ++ [x]) = atF size t h:=by
 have hb : behN t (h ++ [x]) = behN t h:=by
  unfold behN
  rw [takeW_snoc (by simp;omega)]
 unfold atF
 rw [hb,List.take_append_of_le_length (behN_le t h)]
theorem atF_nil {size : Nat} {t : Int} : atF size t [] = List.replicate size 0:=rfl

def Tle (k : Int) (H : List (List IT)) : Prop:=∀ h ∈ H,∀ y ∈ h,y.b≤k
theorem Tle.step {s : Int} {H : List (List IT)} {x : IT} (h : Tle s H) : Tle s (hStep s H x):=by
 unfold hStep
 split
 ·rename_i hb
  intro g hg
  rcases List.mem_or_eq_of_mem_set hg with hg | rfl
  ·exact h g hg
  ·have hi : x.b.toNat < H.length:=by omega
   rw [List.getD_eq_getElem?_getD,List.getElem?_eq_getElem hi,Option.getD_some]
   intro y hy
   rcases List.mem_append.1 hy with hy | hy
   ·exact h _ (List.getElem_mem hi) y hy
   ·simp only [List.mem_singleton] at hy;subst hy;exact Int.le_refl _
 ·exact h

theorem hStep_at {size : Nat} {t s : Int} {H : List (List IT)} {x : IT} (hx : 0≤x.b∧x.b < H.length) (hH : Tle s H) :
  (hStep s H x).map (atF size t) = if s≤t then rStep (H.map (atF size t)) x else H.map (atF size t):=by
 have hi : x.b.toNat < H.length:=by omega
 unfold hStep rStep
 rw [if_pos hx,List.map_set,List.getD_eq_getElem?_getD,List.getElem?_eq_getElem hi,Option.getD_some]
 split
 ·rename_i h
  rw [atF_le (fun y hy=>Int.le_trans (hH _ (List.getElem_mem hi) y hy) h) h]
 ·rename_i h
  rw [atF_gt (by simp only;omega)]
  have e : atF size t H[x.b.toNat] = (H.map (atF size t))[x.b.toNat]'(by simpa using hi):=(List.getElem_map ..).symm
  rw [e,List.set_getElem_self]

theorem hIts_at {size : Nat} {t s : Int} {n : Nat} : ∀ (l : List IT) (H : List (List IT)),(∀ x ∈ l,0≤x.b∧x.b < (n : Int))→H.length = n→Tle s H →
  (l.foldl (hStep s) H).map (atF size t) = (if s≤t then l.foldl rStep (H.map (atF size t)) else H.map (atF size t))∧Tle s (l.foldl (hStep s) H)∧(l.foldl (hStep s) H).length = n
 | [],H,_,h2,h3=>⟨by split <;> rfl,h3,h2⟩
 | x :: l,H,h1,h2,h3=>by
  have hx:=h1 x (by simp)
  obtain ⟨e1,e2,e3⟩:=hIts_at l (hStep s H x) (fun y hy=>h1 y (by simp [hy])) (by rw [hStep_len];exact h2) h3.step
  rw [List.foldl_cons]
  refine ⟨?_,e2,e3⟩
  rw [e1,hStep_at (by rw [h2];exact hx) h3]
  split
  ·rw [List.foldl_cons]
  ·rfl

theorem hWs_at {b s : Int} {size n : Nat} {t : Int} (hb : b = n) : ∀ (l : List WR) (k : Nat) (H : List (List IT)),wsR b s k l = true→H.length = n→Tle k H →
  (l.foldl hW H).map (atF size t) = (l.take (t - k).toNat).foldl rW (H.map (atF size t))
 | [],k,H,_,_,_=>by simp
 | w :: l,k,H,hw,hn,hT=>by
  simp only [wsR,Bool.and_eq_true,decide_eq_true_eq] at hw
  obtain ⟨⟨h1,h2⟩,h3⟩:=hw
  have hit : ∀ x ∈ w.its,0≤x.b∧x.b < (n : Int):=fun x hx=>by
   obtain ⟨a,c,_⟩:=itemsR_mem h2 x hx
   omega
  obtain ⟨e1,e2,e3⟩:=hIts_at (size:=size) (t:=t) (s:=w.s) w.its H hit hn (fun h hh y hy=>by have:=hT h hh y hy;omega)
  rw [List.foldl_cons]
  have hs : w.s = ((k + 1 : Nat) : Int):=by omega
  rw [hWs_at hb l (k + 1) (hW H w) h3 e3 (by rw [← hs];exact e2)]
  show _ = _
  rw [show (hW H w).map (atF size t) = _ from e1]
  by_cases ht : w.s≤t
  ·rw [if_pos ht,show (t - (k : Int)).toNat = (t - ((k + 1 : Nat) : Int)).toNat + 1 by omega,List.take_succ_cons,List.foldl_cons]
   rfl
  ·rw [if_neg ht,show (t - (k : Int)).toNat = 0 by omega,show (t - ((k + 1 : Nat) : Int)).toNat = 0 by omega]
   rfl

theorem hAll_bod {v : VOL} {t : Int} (hr : rightV v = true) : (hAll v.blocks.toNat v.ws).map (fun h=>bodyR (atF v.size.toNat t h)) = (bodV v t).map bodyR:=by
 obtain ⟨r1,r2,r3,r4,r5,r6,r7,r8⟩:=rightV_iff.1 hr
 obtain ⟨s1,s2,s3,s4,s5,s6,s7⟩:=shape_lims r1
 have h:=hWs_at (size:=v.size.toNat) (t:=t) (n:=v.blocks.toNat) (by omega) v.ws 0 (List.replicate v.blocks.toNat []) r8 (by simp) (fun h hh=>by rw [List.eq_of_mem_replicate hh];intro y hy;cases hy)
 have h2 : (hAll v.blocks.toNat v.ws).map (atF v.size.toNat t) = bodV v t:=by
  show (v.ws.foldl hW _).map _ = _
  rw [h]
  unfold bodV zB
  simp [atF_nil]
 rw [← h2,List.map_map]
 rfl

theorem rStep_len (R : List (List Nat)) (x : IT) : (rStep R x).length = R.length:=by simp [rStep]
theorem rIts_len : ∀ (l : List IT) (R : List (List Nat)),(l.foldl rStep R).length = R.length
 | [],R=>rfl
 | x :: l,R=>by rw [List.foldl_cons,rIts_len,rStep_len]
theorem rWs_len : ∀ (l : List WR) (R : List (List Nat)),(l.foldl rW R).length = R.length
 | [],R=>rfl
 | w :: l,R=>by rw [List.foldl_cons,rWs_len];exact rIts_len _ _
theorem bodV_len (v : VOL) (t : Int) : (bodV v t).length = v.blocks.toNat:=by unfold bodV zB;rw [rWs_len];simp
def R8 (R : List (List Nat)) : Prop:=∀ x ∈ R,∀ c ∈ x,c < 256
theorem rIts_8 : ∀ (l : List IT) (R : List (List Nat)),byI l→R8 R→R8 (l.foldl rStep R)
 | [],R,_,h=>h
 | x :: l,R,h1,h2=>by
  rw [List.foldl_cons]
  refine rIts_8 l _ (fun y hy=>h1 y (by simp [hy])) fun y hy=>?_
  rcases List.mem_or_eq_of_mem_set hy with hy | rfl
  ·exact h2 y hy
  ·exact h1 x (by simp)
theorem rWs_8 : ∀ (l : List WR) (R : List (List Nat)),byW l→R8 R→R8 (l.foldl rW R)
 | [],R,_,h=>h
 | w :: l,R,h1,h2=>by
  rw [List.foldl_cons]
  exact rWs_8 l _ (fun y hy=>h1 y (by simp [hy])) (rIts_8 _ _ (h1 w (by simp)) h2)
theorem bodV_8 {v : VOL} (t : Int) (h : byW v.ws) : R8 (bodV v t):=by
 refine rWs_8 _ _ (fun w hw=>h w (List.mem_of_mem_take hw)) fun x hx c hc=>?_
 unfold zB at hx
 rw [List.eq_of_mem_replicate hx] at hc
 rw [List.eq_of_mem_replicate hc];omega
theorem bodE_len {v : VOL} (t : Int) (h : rightV v = true) : (bodE v t).length≤256:=by
 obtain ⟨r1,_⟩:=rightV_iff.1 h
 obtain ⟨s1,s2,_⟩:=shape_lims r1
 unfold bodE
 split
 ·rw [bodV_len];omega
 ·simp

theorem State_con (v : VOL) (t : Int) (hg : ∃ n,n≤50000∧Vgood v n) :
  Con Try.prog 35 [.agg (volC v),I t] [] (.tup [.c (.sl ((bodE v t).map bodyR)),I (timeE v.floor t (lenV v))]) []:=by
 by_cases h0 : timeE v.floor t (lenV v) = 0
 ·have h1:=timeE_of.1 h0
  have h:=volume_State_con v t hg (by omega) (by omega)
  obtain ⟨n,hn,hG⟩:=hg
  rw [hAll_bod hG.right] at h
  unfold bodE
  rw [if_pos h0,h0]
  exact h
 have cL:=volume_Len_con v
 have cT:=volume_time_con v t (lenV v)
 unfold bodE
 rw [if_neg h0]
 obtain ⟨e,he⟩ : ∃ e,e = timeE v.floor t (lenV v):=⟨_,rfl⟩
 rw [← he] at h0 cT ⊢
 refine C_volume_State nl nl ?_
 simp only [cz,A_volume_State,argL,objL,List.length_nil,Nat.zero_add,zX]
 refine aS 16 (fun Q hQ=>by simp (disch:=intros;contradiction) only [zS,vC_eq,simprocAttr];exact hQ) ?_
 refine aBD 96 ?_
 refine rC [] (cL) ?_
 refine aM ?_
 refine rC [] (cT) ?_
 refine aED ?_
 refine aR 224 ?_
 refine aw_cond _ rfl trivial (fun ht=>?_) (fun hf=>by simp at hf;exact (h0 hf).elim)
 simp only [zX]
 refine aR 288 ?_
 refine Fin.data [] (.inr rfl) rfl (by (exact trivial)) ?_
 simp only [zL,simprocAttr]
 all_goals (exact ⟨rfl,trivial⟩)

end Go.Abs

namespace Go.Abs
open Go Go.Proofs
set_option maxRecDepth 100000
set_option linter.unusedSimpArgs false
set_option maxHeartbeats 8000000

theorem VolumePrunes_con (l : List Nat) (at' pin : Nat) (h8 : ∀ c ∈ l,c < 256) (ha : at' < 256) (hp : pin < 256) :
  Con Try.prog 6 [.c (.sl (l.map brow)),.c (.v (.int .u8 at')),.c (.v (.int .u8 pin))] [] (B true) []:=by
 refine C_mementolaw16_VolumePrunes nl nl ?_
 simp only [cz,A_mementolaw16_VolumePrunes,argL,objL,List.length_nil,Nat.zero_add,zX,simprocAttr]
 refine aR 16 ?_
 refine aBs 64 (fun Q hQ=>by simp (disch:=intros;contradiction) only [zS,↓reduceIte];exact hQ) ?_
 refine rC [] (mementolaw16_known_con) ?_
 refine aE ?_
 refine aF ?_
 refine aS 128 (fun Q hQ=>by simp (disch:=intros;contradiction) only [zS,zW,simprocAttr];exact hQ) ?_
 refine aw_cond _ rfl trivial (fun ht=>?_) (fun hf=>?_)
 ·skip
  try simp at ht
  simp only [zX]
  refine aR 208 ?_
  refine Fin.b (.inr rfl) rfl trivial ?_
  rfl
 try simp at hf
 simp only [zX]
 have hl : l.length≤60:=by omega
 have cV:=Volume_con l h8 (by omega)
 have g0:=(seatV_good l).mono (show l.length / 4≤15 by omega)
 generalize seatV l = v at cV g0
 refine aB 256 ?_
 refine rC [] (cV) ?_ (hs:=(by exact .inr ⟨volC_pure _,trivial⟩))
 refine aEs (fun Q hQ=>by simp (disch:=intros;contradiction) only [zS,vC_eq,simprocAttr];exact hQ) ?_
 refine aR 352 ?_
 refine aw_cond _ rfl trivial (fun ht=>?_) (fun hf=>?_)
 ·skip
  try simp at ht
  simp only [zX]
  refine aR 416 ?_
  refine Fin.b (.inr rfl) rfl trivial ?_
  rfl
 try simp at hf
 simp only [zX]
 have hh : v.hid = false:=hf
 obtain ⟨r1,r2,r3,r4,r5,r6,r7,r8⟩:=rightV_iff.1 g0.right
 obtain ⟨p1,p2⟩:=pinsR_iff.1 r7
 have hwl:=g0.ws
 obtain ⟨n,hn⟩ : ∃ n : Int,n = v.ws.length:=⟨_,rfl⟩
 have hln : lenV v = n:=hn.symm
 rw [hln] at r6 p1
 refine aB 464 ?_
 refine rC [] (mementoref16_Len_con v) ?_
 refine RG.go fun Q hQ=>?_
 simp (disch:=intros;contradiction) only [zS,lenV,simprocAttr]
 rw [← hn]
 have q1:=Int.emod_nonneg (pin : Int) (show n - v.floor + 1≠0 by omega)
 have q2:=Int.emod_lt_of_pos (pin : Int) (show 0 < n - v.floor + 1 by omega)
 obtain ⟨t,ht1⟩ : ∃ t,t = v.floor + (pin : Int) % (n - v.floor + 1):=⟨_,rfl⟩
 have hqz : v.floor + (pin : Int) % (n - v.floor + 1) = t:=ht1.symm
 have hq1 : v.floor≤t:=by omega
 have hq2 : t≤n:=by omega
 have hD:=pin_ok (v:=v) hh hq1 (by rw [hln];exact hq2) ⟨4,0,0,0,0,[],0,t,0,[]⟩ rfl rfl
 have cD:=volume_Do_con v ⟨4,0,0,0,0,[],0,t,0,[]⟩ (g0.do (by omega) (by simp) (by simp))
 have g1:=g0.doV (c:=⟨4,0,0,0,0,[],0,t,0,[]⟩) (by intro x hx;cases hx)
 have hlo : lowL n (insP t v.pins) = min t (lowL n v.pins):=lowL_ins p2
 rw [hD] at cD g1
 obtain ⟨P,hP⟩ : ∃ P,P = insP t v.pins:=⟨_,rfl⟩
 rw [← hP] at cD g1 hlo
 have g1 : Vgood { v with pins:=P } 16:=g1
 have hok1:=g1.ok (by omega)
 have cL:=volume_Low_con _ hok1.pins
 obtain ⟨m,hm⟩ : ∃ m,m = lowL n P:=⟨_,rfl⟩
 have hcl : lowV { v with pins:=P } = m:=by unfold lowV;rw [← hn];exact hm.symm
 rw [hcl] at cL
 have hmt : m≤t:=by omega
 have u1:=Int.emod_nonneg (at' : Int) (show n + 2≠0 by omega)
 have u2:=Int.emod_lt_of_pos (at' : Int) (show 0 < n + 2 by omega)
 obtain ⟨u,hu⟩ : ∃ u,u = (at' : Int) % (n + 2):=⟨_,rfl⟩
 have huz : (at' : Int) % (n + 2) = u:=hu.symm
 refine hQ (RG.nil ?_)
 simp only [zX]
 refine aSD 544 (fun Q hQ=>by simp (disch:=first | (intros;contradiction) | omega | (simp only [zN];omega)) only [zS,zW,hqz,simprocAttr];repeat refine ⟨by (omega),?_⟩;exact hQ) ?_
 refine aB 768 ?_
 refine rC [] (cD) ?_ (hs:=(by exact .inr ⟨doR_pure _,trivial⟩))
 refine aEs (fun Q hQ=>by simp (disch:=intros;contradiction) only [zS,vC_eq,lenV,done,repC,simprocAttr];exact hQ) ?_
 refine aB 976 ?_
 refine rG _ _ (cL) ?_
 refine aE ?_
 refine aw_cond _ rfl trivial (fun ht=>by simp at ht;omega) (fun hf=>?_)
 simp only [zX]
 refine aS 1152 (fun Q hQ=>by simp (disch:=first | (intros;contradiction) | omega | (simp only [zN];omega)) only [zS,zW,huz,simprocAttr];repeat refine ⟨by (omega),?_⟩;exact hQ) ?_
 have cD2:=volume_Do_con { v with pins:=P } ⟨3,0,0,0,0,[],0,u,0,[]⟩ (g1.do (by omega) (by simp) (by simp))
 have hD2 : doV { v with pins:=P } ⟨3,0,0,0,0,[],0,u,0,[]⟩ = doPrune { v with pins:=P } u:=rfl
 rw [hD2] at cD2
 have g2:=g1.doV (c:=⟨3,0,0,0,0,[],0,u,0,[]⟩) (by intro x hx;cases hx)
 rw [hD2] at g2
 by_cases hy : v.floor≤u∧u≤m
 ·skip
  have hd : doPrune { v with pins:=P } u = done { v with pins:=P,floor:=u }:=by
   unfold doPrune
   rw [if_neg (by simp [hh]),if_neg (by simp only;omega),if_neg (by rw [hcl];omega)]
  rw [hd] at cD2 g2
  have g2 : Vgood { v with pins:=P,floor:=u } 17:=g2
  have huf : v.floor≤u:=hy.1
  have hum : u≤m:=hy.2
  have g2':=g2.ok (by omega)
  have cS1:=fun s (_ : True)=>State_con v s ⟨15,by omega,g0⟩
  have cS2:=fun s (_ : True)=>State_con { v with pins:=P,floor:=u } s ⟨17,by omega,g2⟩
  refine aB 1280 ?_
  refine rC [] (cD2) ?_ (hs:=(by exact .inr ⟨doR_pure _,trivial⟩))
  refine aEs (fun Q hQ=>by simp (disch:=intros;contradiction) only [zS,vC_eq,lenV,done,repC,simprocAttr];exact hQ) ?_
  refine aBs 1488 (fun Q hQ=>by simp (disch:=intros;contradiction) only [zS,huf,simprocAttr];exact hQ) ?_
  refine rG _ _ (cL) ?_
  refine aEs (fun Q hQ=>by simp (disch:=intros;contradiction) only [zS,hum,simprocAttr];exact hQ) ?_
  refine aR 1696 ?_
  refine aw_cond _ rfl trivial (fun ht=>by simp at ht) (fun hf=>?_)
  simp only [zX]
  refine aR 1808 ?_
  refine aw_cond _ rfl trivial (fun ht=>by simp at ht) (fun hf=>?_)
  simp only [zX]
  refine aR 1872 ?_
  refine aw_loopK (X:={ s : Int // u≤s∧s≤n + 1 }) [7,8,12,13,14] (fun s=>[(16,I s.1)]) [288,1392,1408] (fun s=>[]) (fun s=>(n + 1 - s.1).toNat) (⟨u,by omega,by omega⟩) ?_ ?_
  ·skip
   simp only [keepS,keepE,Option.getD_some,lk_cons,lkE_cons,List.cons_append,List.nil_append,simprocAttr]
   refine Le.lit [] [] _ _ ?_ ?_ ?_ ?_
   ·simp only [zL,simprocAttr]
   ·simp only [zL,simprocAttr]
    all_goals (trivial;skip)
   ·simp [rlook]
   ·(simp;done)
  rintro ⟨s,hs1,hs2⟩
  simp only [keepS,keepE,Option.getD_some,lk_cons,lkE_cons,List.cons_append,List.nil_append,simprocAttr]
  simp only [zX]
  refine aR 1936 ?_
  refine aw_cond _ rfl trivial (fun ht=>?_) (fun hf=>?_)
  ·skip
   try simp at ht
   simp only [zX]
   have e1 : timeE v.floor s (lenV v) = 0:=timeE_of.2 ⟨by omega,by omega⟩
   have e2 : timeE u s (lenV v) = 0:=timeE_of.2 ⟨by omega,by omega⟩
   have c1:=cS1 s trivial
   have c2:=cS2 s trivial
   rw [e1] at c1
   have e3 : timeE u s (lenV { v with pins:=P,floor:=u }) = 0:=e2
   rw [e3] at c2
   have b1 : bodE v s = bodV v s:=by unfold bodE;rw [if_pos e1]
   have b2 : bodE { v with pins:=P,floor:=u } s = bodV v s:=by unfold bodE;rw [if_pos e3];rfl
   rw [b1] at c1
   rw [b2] at c2
   have b8:=bodV_8 s g0.by8
   have bl:=bodE_len s g0.right
   rw [b1] at bl
   have cB:=Bodies_con (bodV v s) (bodV v s) (by omega) b8 b8
   refine aB 2016 ?_
   refine rC [] (c1) ?_ (hs:=(by exact .inr ⟨pureTC,trivial⟩))
   refine aE ?_
   refine aB 2176 ?_
   refine rC [] (c2) ?_ (hs:=(by exact .inr ⟨pureTC,trivial⟩))
   refine aE ?_
   refine aB 2336 ?_
   refine rG _ _ (cB) ?_
   refine aE ?_
   refine aw_cond _ rfl trivial (fun ht=>by simp at ht) (fun hf=>?_)
   simp only [zX]
   refine aS 2560 (fun Q hQ=>by simp (disch:=first | (intros;contradiction) | omega | (simp only [zN];omega)) only [zS,zW,simprocAttr];exact hQ) ?_
   refine ⟨⟨s + 1,by omega,by omega⟩,?_,by first | omega | (simp only;omega)⟩
   refine Le.lit [] [] _ _ ?_ ?_ ?_ ?_
   ·simp only [zL,simprocAttr]
   ·simp only [zL,simprocAttr]
    all_goals (trivial;skip)
   ·simp [rlook]
   ·(simp;done)
  try simp at hf
  simp only [zX,↓reduceIte]
  refine aR 2640 ?_
  refine Fin.b (.inr rfl) rfl trivial ?_
  simp
 have hd : ∃ e,e≠0∧doPrune { v with pins:=P } u = fail { v with pins:=P } e:=by
  unfold doPrune
  rw [if_neg (by simp [hh])]
  by_cases h1 : u < v.floor
  ·exact ⟨30,by omega,by rw [if_pos (by exact h1)]⟩
  ·exact ⟨31,by omega,by rw [if_neg (by exact h1),if_pos (by rw [hcl];omega)]⟩
 obtain ⟨e,he0,hd⟩:=hd
 rw [hd] at cD2
 have cS:=mementoref16_Same_con { v with pins:=P } { v with pins:=P } (g1.ok (by omega)) g1.by8 g1.by8
 refine aB 2848 ?_
 refine rC [] (cD2) ?_ (hs:=(by exact .inr ⟨doR_pure _,trivial⟩))
 refine aEs (fun Q hQ=>by simp (disch:=intros;contradiction) only [zS,vC_eq,repC,fail,simprocAttr];exact hQ) ?_
 by_cases h1 : v.floor≤u
 ·skip
  have h2 : ¬ u≤m:=fun h=>hy ⟨h1,h⟩
  refine aBs 3056 (fun Q hQ=>by simp (disch:=intros;contradiction) only [zS,h1,simprocAttr];exact hQ) ?_
  refine rG _ _ (cL) ?_
  refine aEs (fun Q hQ=>by simp (disch:=intros;contradiction) only [zS,h2,simprocAttr];exact hQ) ?_
  refine aR 3264 ?_
  refine aw_cond _ rfl trivial (fun ht=>by simp [he0] at ht) (fun hf=>?_)
  simp only [zX]
  refine aR 3376 ?_
  refine aw_cond _ rfl trivial (fun ht=>?_) (fun hf=>by simp [] at hf)
  simp only [zX]
  refine aB 3440 ?_
  refine rC [] (cS) ?_
  refine aE ?_
  refine Fin.b (.inr rfl) rfl trivial ?_
  simp
 refine aBs 3536 (fun Q hQ=>by simp (disch:=intros;contradiction) only [zS,h1,simprocAttr];exact hQ) ?_
 refine RG.callg (res:=.dead) _ _ [] rfl (fun hg=>by simp at hg) ?_
 refine RG.go fun Q hQ=>?_
 simp (disch:=intros;contradiction) only [zS,simprocAttr]
 repeat refine ⟨by ((simp;done)),?_⟩
 refine hQ (RG.nil ?_)
 simp only [zX]
 refine aR 3744 ?_
 refine aw_cond _ rfl trivial (fun ht=>by simp [he0] at ht) (fun hf=>?_)
 simp only [zX]
 refine aR 3856 ?_
 refine aw_cond _ rfl trivial (fun ht=>?_) (fun hf=>by simp [] at hf)
 simp only [zX]
 refine aB 3920 ?_
 refine rC [] (cS) ?_
 refine aE ?_
 refine Fin.b (.inr rfl) rfl trivial ?_
 simp

theorem VolumePrunes_law (l : List Nat) (hl : (∀ c ∈ l,c < 256)∧l.length≤9223372036854775807) (a : Nat) (ha : a < 256) (p : Nat) (hp : p < 256) :
  Con Try.prog 6 [.c (.sl (l.map brow)),.c (.v (.int .u8 a)),.c (.v (.int .u8 p))] [] (B true) []:=VolumePrunes_con l a p hl.1 ha hp

end Go.Abs

