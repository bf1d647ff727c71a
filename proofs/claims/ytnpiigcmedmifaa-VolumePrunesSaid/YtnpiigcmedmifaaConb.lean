/- What the functions that the law comes to do, part 2. No condition. -/
import Derived.Test.YtnpiigcmedmifaaCona
set_option linter.unusedVariables false
set_option linter.unusedSimpArgs false
set_option linter.unnecessarySimpa false
namespace Go.Abs
open Go Go.Proofs
set_option maxRecDepth 100000
set_option linter.unusedSimpArgs false
set_option maxHeartbeats 4000000

theorem heapB_len (f hi : Nat) : ∀ (n : Nat) (l : List Int),(∀ m r,m.length = l.length→(sift f hi m r).length = l.length)→(heapB f hi n l).length = l.length
 | 0,l,_=>rfl
 | n + 1,l,h=>by
  unfold heapB
  rw [heapB_len f hi n _ (fun m r hm=>by rw [h l n rfl] at hm ⊢;exact h m r hm),h l n rfl]
theorem sift_len (f hi : Nat) : ∀ (n : Nat) (l : List Int) (r : Nat),hi - r≤n→(sift f hi l r).length = l.length
 | n,l,r,hn=>by
  rw [sift]
  split
  ·rename_i h
   have:=(bigC_is f hi l r h.1).2.1
   match n with
   | 0=>omega
   | n + 1 =>
    rw [sift_len f hi n _ _ (by have:=(bigC_is f hi l r h.1).1;omega),swp_len]
  ·rfl

theorem heapSort64_con (a b : Nat) (l : List Int) (hl : l.length≤1000000) (hab : a < b) (hb : b≤l.length) :
  Con Try.prog 93 [.c (.osl 0),I a,I b] [arrI 2 l] (.tup []) [arrI 2 (srt a b l)]:=by
 rw [← heapS_eq hab hb]
 unfold heapS
 obtain ⟨n,hn⟩ : ∃ n,n = b - a:=⟨_,rfl⟩
 rw [← hn]
 have e1 : (b : Int) - a = (n : Int):=by omega
 have e2 : ((n : Int) - 1) / 2 = (((n - 1) / 2 + 1 : Nat) : Int) - 1:=by omega
 obtain ⟨H,hH⟩ : ∃ H,H = heapB a n ((n - 1) / 2 + 1) l:=⟨_,rfl⟩
 have hHl : H.length = l.length:=by rw [hH,heapB_len];intro m r hm;rw [sift_len a n _ m r (Nat.le_refl _),hm]
 rw [← hH]
 refine C_slices_heapSortOrdered_int64 nl nl ?_
 simp only [cz,A_slices_heapSortOrdered_int64,argL,objL,List.length_nil,List.length_cons,Nat.zero_add,zX,simprocAttr]
 refine aR 16 ?_
 refine aR 80 ?_
 refine aS 128 (fun Q hQ=>by simp (disch:=first | (intros;contradiction) | omega | (simp only [zN];omega)) only [zS,zW,e1,simprocAttr];exact hQ) ?_
 refine aw_reg 224 (RG.go fun Q hQ=>?_)
 simp (disch:=first | (intros;contradiction) | omega | (simp only [zN];omega)) only [zS,zW,e2,simprocAttr]
 repeat refine ⟨by (omega),?_⟩
 refine hQ (RG.nil ?_)
 simp only [zX]
 refine aw_loopK (X:={ p : Nat × List Int // p.2.length = l.length∧heapB a n p.1 p.2 = H∧p.1≤n }) [0,6,7,8] (fun p=>[(9,I ((p.1.1 : Int) - 1))]) [] (fun p=>[(0,arrI 2 p.1.2)]) (fun p=>p.1.1) (⟨((n - 1) / 2 + 1,l),rfl,hH.symm,by simp only;omega⟩) ?_ ?_
 ·skip
  simp only [keepS,keepE,lk_cons,List.cons_append,List.nil_append,simprocAttr]
  refine Le.lit [] [] _ _ ?_ ?_ ?_ ?_
  ·simp only [zL,simprocAttr]
  ·simp only [zL,simprocAttr]
   all_goals (try (exact drows_nrow _))
  ·simp [rlook]
  ·(intro k hk;simp [rlook];omega)
 rintro ⟨⟨k,m⟩,h1,h2,h3⟩
 simp only [keepS,keepE,lk_cons,List.cons_append,List.nil_append,simprocAttr]
 simp only [zX]
 simp only at h1 h2 h3
 refine aR 320 ?_
 refine aw_cond _ rfl trivial (fun ht=>?_) (fun hf=>?_)
 ·skip
  try simp at ht
  simp only [zX]
  obtain ⟨j,rfl⟩ : ∃ j,k = j + 1:=⟨k - 1,by omega⟩
  have e3 : ((j + 1 : Nat) : Int) - 1 = j:=by omega
  refine aBs 384 (fun Q hQ=>by simp (disch:=intros;contradiction) only [zS,e3,simprocAttr];exact hQ) ?_
  refine rO [0] [] (siftDown64_con a n j m (by omega) (by omega) (by omega)) ?_
  refine aE ?_
  refine aS 496 (fun Q hQ=>by simp (disch:=first | (intros;contradiction) | omega | (simp only [zN];omega)) only [zS,zW,simprocAttr];exact hQ) ?_
  refine ⟨⟨(j,sift a n m j),by simp only;rw [sift_len a n _ m j (Nat.le_refl _)];exact h1,h2,by simp only;omega⟩,?_,by first | omega | (simp only;omega)⟩
  refine Le.lit [] [] _ _ ?_ ?_ ?_ ?_
  ·simp only [zL,simprocAttr]
  ·simp only [zL,simprocAttr]
   all_goals (try (exact drows_nrow _))
  ·simp [rlook]
  ·(intro k hk;simp [rlook];omega)
 try simp at hf
 simp only [zX,↓reduceIte]
 obtain rfl : k = 0:=by omega
 have h2' : m = H:=h2
 subst h2'
 refine aS 576 (fun Q hQ=>by simp (disch:=first | (intros;contradiction) | omega | (simp only [zN];omega)) only [zS,zW,simprocAttr];exact hQ) ?_
 refine aw_loopK (X:={ p : Nat × List Int // p.2.length = l.length∧heapP a p.1 p.2 = heapP a n m∧p.1≤n }) [0,6,7] (fun p=>[(10,I ((p.1.1 : Int) - 1))]) [] (fun p=>[(0,arrI 2 p.1.2)]) (fun p=>p.1.1) (⟨(n,m),h1,rfl,Nat.le_refl _⟩) ?_ ?_
 ·skip
  simp only [keepS,keepE,lk_cons,List.cons_append,List.nil_append,simprocAttr]
  refine Le.lit [] [] _ _ ?_ ?_ ?_ ?_
  ·simp only [zL,simprocAttr]
  ·simp only [zL,simprocAttr]
   all_goals (try (exact drows_nrow _))
  ·simp [rlook]
  ·(intro k hk;simp [rlook];omega)
 rintro ⟨⟨k,q⟩,g1,g2,g3⟩
 simp only [keepS,keepE,lk_cons,List.cons_append,List.nil_append,simprocAttr]
 simp only [zX]
 simp only at g1 g2 g3
 refine aR 656 ?_
 refine aw_cond _ rfl trivial (fun ht=>?_) (fun hf=>?_)
 ·skip
  try simp at ht
  simp only [zX]
  obtain ⟨j,rfl⟩ : ∃ j,k = j + 1:=⟨k - 1,by omega⟩
  have e3 : ((j + 1 : Nat) : Int) - 1 = j:=by omega
  refine aw_draw 720 (RG.go fun Q hQ=>?_)
  simp (disch:=first | (intros;contradiction) | omega | (simp only [zN];omega)) only [zS,zW,nrow,gI_get',natAdd,set_nrow,swp_fold,e3,simprocAttr]
  repeat refine ⟨by (omega),?_⟩
  refine hQ (RG.nil ⟨by decide +kernel,?_⟩)
  simp only [zX]
  refine aB 1072 ?_
  refine rO [0] [] (siftDown64_con a j 0 (swp q a (a + j)) (by rw [swp_len];omega) (by rw [swp_len];omega) (by omega)) ?_
  refine aE ?_
  refine aS 1184 (fun Q hQ=>by simp (disch:=first | (intros;contradiction) | omega | (simp only [zN];omega)) only [zS,zW,simprocAttr];exact hQ) ?_
  refine ⟨⟨(j,sift a j (swp q a (a + j)) 0),by simp only;rw [sift_len a j _ _ 0 (Nat.le_refl _),swp_len];exact g1,g2,by simp only;omega⟩,?_,by first | omega | (simp only;omega)⟩
  refine Le.lit [] [] _ _ ?_ ?_ ?_ ?_
  ·simp only [zL,simprocAttr]
  ·simp only [zL,simprocAttr]
   all_goals (try (exact drows_nrow _))
  ·simp [rlook]
  ·(intro k hk;simp [rlook];omega)
 try simp at hf
 simp only [zX,↓reduceIte]
 obtain rfl : k = 0:=by omega
 rw [← g2]
 refine Fin.objs [] [] (.inl rfl) rfl (by exact trivial) ?_ ?_ (by simp [objL,rlook]) (by (simp [objL,rlook];done))
 ·simp only [zL]
 ·simp only [zL,simprocAttr]
  all_goals (try ((repeat' (first | (exact drows_nrow _) | rfl | refine ⟨?_,?_⟩))))

theorem ins_step {a i j : Nat} {q s : List Int} (hj : a < j) (gs : ∀ k,gI s k = if k = j - 1 then gI q j else if k = j then gI q (j - 1) else gI q k) (hlt : gI q j < gI q (j - 1)) (g4 : ∀ x y,a≤x→x < y→y < i + 1→y≠j→gI q x≤gI q y) :
  ∀ x y,a≤x→x < y→y < i + 1→y≠j - 1→gI s x≤gI s y:=by
 intro x y h1 h2 h3 h4
 rw [gs,gs,if_neg h4]
 by_cases e1 : y = j
 ·rw [if_pos e1]
  by_cases e2 : x = j - 1
  ·rw [if_pos e2];omega
  ·rw [if_neg e2,if_neg (by omega)]
   exact g4 x (j - 1) h1 (by omega) (by omega) (by omega)
 ·rw [if_neg e1]
  by_cases e2 : x = j - 1
  ·rw [if_pos e2]
   exact g4 j y (by omega) (by omega) h3 e1
  ·rw [if_neg e2]
   by_cases e3 : x = j
   ·rw [if_pos e3]
    exact g4 (j - 1) y (by omega) (by omega) h3 e1
   ·rw [if_neg e3];exact g4 x y h1 h2 h3 e1
theorem ins_stop {a i j : Nat} {q : List Int} (hj : j≤i) (hge : a < j→gI q (j - 1)≤gI q j) (g4 : ∀ x y,a≤x→x < y→y < i + 1→y≠j→gI q x≤gI q y) : sortedOn a (i + 1) q:=by
 intro x y h1 h2 h3
 rcases Nat.lt_or_ge x y with h | h
 ·by_cases e : y = j
  ·subst e
   have h5:=hge (by omega)
   by_cases e2 : x = y - 1
   ·rw [e2];exact h5
   ·have:=g4 x (y - 1) h1 (by omega) (by omega) (by omega);omega
  ·exact g4 x y h1 h h3 e
 ·rw [show x = y by omega];exact Int.le_refl _

theorem insert64_con (a b : Nat) (l : List Int) (hl : l.length≤1000000) (hab : a≤b) (hb : b≤l.length) :
  Con Try.prog 92 [.c (.osl 0),I a,I b] [arrI 2 l] (.tup []) [arrI 2 (srt a b l)]:=by
 refine C_slices_insertionSortOrdered_int64 nl nl ?_
 simp only [cz,A_slices_insertionSortOrdered_int64,argL,objL,List.length_nil,List.length_cons,Nat.zero_add,zX,simprocAttr]
 refine aS 16 (fun Q hQ=>by simp (disch:=first | (intros;contradiction) | omega | (simp only [zN];omega)) only [zS,zW,simprocAttr];exact hQ) ?_
 refine aw_loopK (X:={ p : List Int × Nat // PO a b l p.1∧a < p.2∧p.2≤max b (a + 1)∧sortedOn a p.2 p.1 }) [0,1,2] (fun p=>[(6,I p.1.2)]) [] (fun p=>[(0,arrI 2 p.1.1)]) (fun p=>b - p.1.2) (⟨(l,a + 1),PO.refl _ _ _,by simp only;omega,by simp only;omega,fun i k h1 h2 h3=>by rw [show i = k by omega];exact Int.le_refl _⟩) ?_ ?_
 ·skip
  simp only [keepS,keepE,lk_cons,List.cons_append,List.nil_append,simprocAttr]
  refine Le.lit [] [] _ _ ?_ ?_ ?_ ?_
  ·simp only [zL,simprocAttr]
   all_goals (try ((repeat' (rfl))))
  ·simp only [zL,simprocAttr]
   all_goals (try (exact drows_nrow _))
  ·simp [rlook]
  ·(intro k hk;simp [rlook];omega)
 rintro ⟨⟨m,i⟩,h1,h2,h3,h4⟩
 simp only [keepS,keepE,lk_cons,List.cons_append,List.nil_append,simprocAttr]
 simp only [zX]
 simp only at h1 h2 h3 h4
 have hml:=h1.len
 refine aR 96 ?_
 refine aw_cond _ rfl trivial (fun ht=>?_) (fun hf=>?_)
 ·skip
  try simp at ht
  simp only [zX]
  refine aR 176 ?_
  refine aw_loopK (X:={ p : List Int × Nat // PO a b l p.1∧a≤p.2∧p.2≤i∧∀ x y,a≤x→x < y→y < i + 1→y≠p.2→gI p.1 x≤gI p.1 y }) [0,1,2,6] (fun p=>[(7,I p.1.2)]) [] (fun p=>[(0,arrI 2 p.1.1)]) (fun p=>p.1.2) (⟨(m,i),h1,by simp only;omega,by simp only;omega,fun x y g1 g2 g3 g4=>h4 x y g1 (by omega) (by simp only at g4;omega)⟩) ?_ ?_
  ·skip
   simp only [keepS,keepE,lk_cons,List.cons_append,List.nil_append,simprocAttr]
   refine Le.lit [] [] _ _ ?_ ?_ ?_ ?_
   ·simp only [zL,simprocAttr]
   ·simp only [zL,simprocAttr]
    all_goals (try (exact drows_nrow _))
   ·simp [rlook]
   ·(intro k hk;simp [rlook];omega)
  rintro ⟨⟨q,j⟩,g1,g2,g3,g4⟩
  simp only [keepS,keepE,lk_cons,List.cons_append,List.nil_append,simprocAttr]
  simp only [zX]
  simp only at g1 g2 g3 g4
  have hql:=g1.len
  by_cases hj : a < j
  ·skip
   refine aw_draw 240 (RG.go fun Q hQ=>?_)
   simp (disch:=first | (intros;contradiction) | omega | (simp only [zN];omega)) only [zS,zW,nrow,gI_get',simprocAttr]
   repeat refine ⟨by ((simp;omega)),?_⟩
   refine hQ ?_
   refine rG _ _ (cmp_Less64_con _ _) ?_
   refine aED ?_
   refine aw_cond _ rfl trivial (fun ht=>?_) (fun hf=>?_)
   ·skip
    try simp at ht
    simp only [zX]
    have gs : ∀ k,gI (swp q j (j - 1)) k = if k = j - 1 then gI q j else if k = j then gI q (j - 1) else gI q k:=fun k=>gI_swp (by omega) (by omega) k
    refine aw_draw 512 (RG.go fun Q hQ=>?_)
    simp (disch:=first | (intros;contradiction) | omega | (simp only [zN];omega)) only [zS,zW,nrow,gI_get',set_nrow,swp_fold,simprocAttr]
    repeat refine ⟨by (omega),?_⟩
    refine hQ (RG.nil ⟨by decide +kernel,?_⟩)
    simp only [zX]
    refine aS 832 (fun Q hQ=>by simp (disch:=first | (intros;contradiction) | omega | (simp only [zN];omega)) only [zS,zW,simprocAttr];exact hQ) ?_
    refine ⟨⟨(swp q j (j - 1),j - 1),g1.trans (PO.swp (by omega) (by omega) (by omega) (by omega) (by omega)),by simp only;omega,by simp only;omega,ins_step hj gs (by have:=ht.2;exact this) g4⟩,?_,by first | omega | (simp only;omega)⟩
    refine Le.lit [] [] _ _ ?_ ?_ ?_ ?_
    ·simp only [zL,simprocAttr]
     all_goals (try ((repeat' ((congr 1;omega)))))
    ·simp only [zL,simprocAttr]
     all_goals (try (exact drows_nrow _))
    ·simp [rlook]
    ·(intro k hk;simp [rlook];omega)
   try simp at hf
   simp only [zX,↓reduceIte]
   refine aS 912 (fun Q hQ=>by simp (disch:=first | (intros;contradiction) | omega | (simp only [zN];omega)) only [zS,zW,simprocAttr];exact hQ) ?_
   refine ⟨⟨(q,i + 1),g1,by simp only;omega,by simp only;omega,ins_stop (j:=j) (by omega) (fun hh=>by have:=hf (by omega);omega) g4⟩,?_,by first | omega | (simp only;omega)⟩
   refine Le.lit [] [] _ _ ?_ ?_ ?_ ?_
   ·simp only [zL,simprocAttr]
    all_goals (try ((repeat' (rfl))))
   ·simp only [zL,simprocAttr]
    all_goals (try (exact drows_nrow _))
   ·simp [rlook]
   ·(intro k hk;simp [rlook];omega)
  refine aw_draw 992 (RG.go fun Q hQ=>?_)
  simp (disch:=first | (intros;contradiction) | omega | (simp only [zN];omega)) only [zS,zW,nrow,gI_get',simprocAttr]
  repeat refine ⟨by ((simp;omega)),?_⟩
  refine hQ ?_
  refine RG.callg (res:=B false) _ _ [] rfl (fun hg=>by simp at hg;omega) ?_
  refine aED ?_
  refine aw_cond _ rfl trivial (fun ht=>by simp at ht <;> omega) (fun hf=>?_)
  simp only [zX,↓reduceIte]
  refine aS 1264 (fun Q hQ=>by simp (disch:=first | (intros;contradiction) | omega | (simp only [zN];omega)) only [zS,zW,simprocAttr];exact hQ) ?_
  refine ⟨⟨(q,i + 1),g1,by simp only;omega,by simp only;omega,ins_stop (j:=j) (by omega) (fun hh=>by omega) g4⟩,?_,by first | omega | (simp only;omega)⟩
  refine Le.lit [] [] _ _ ?_ ?_ ?_ ?_
  ·simp only [zL,simprocAttr]
   all_goals (try ((repeat' (rfl))))
  ·simp only [zL,simprocAttr]
   all_goals (try (exact drows_nrow _))
  ·simp [rlook]
  ·(intro k hk;simp [rlook];omega)
 try simp at hf
 simp only [zX,↓reduceIte]
 have hs : srt a b m = m:=srt_id hab (by omega) fun x y g1 g2 g3=>h4 x y g1 g2 (by omega)
 rw [← h1.srt hab,hs]
 refine Fin.objs [] [] (.inl rfl) rfl (by exact trivial) ?_ ?_ (by simp [objL,rlook]) (by (simp [objL,rlook];done))
 ·simp only [zL]
 ·simp only [zL,simprocAttr]
  all_goals (try (exact drows_nrow _))

end Go.Abs

namespace Go.Abs
open Go Go.Proofs
set_option maxRecDepth 100000
set_option linter.unusedSimpArgs false
set_option maxHeartbeats 4000000

theorem up_on {f : Nat→Bool} {i j : Nat} (h : i≤j) (hf : f i = true) : up f i j = up f (i + 1) j:=by rw [up,if_pos ⟨h,hf⟩]
theorem up_off {f : Nat→Bool} {i j : Nat} (h : i≤j→f i = false) : up f i j = i:=by
 rw [up,if_neg];rintro ⟨h1,h2⟩;rw [h h1] at h2;cases h2
theorem dn_on {f : Nat→Bool} {i j : Nat} (h : i≤j) (h0 : 0 < j) (hf : f j = true) : dn f i j = dn f i (j - 1):=by rw [dn,if_pos ⟨h,h0,hf⟩]
theorem dn_off {f : Nat→Bool} {i j : Nat} (h : i≤j→f j = false) : dn f i j = j:=by
 rw [dn,if_neg];rintro ⟨h1,_,h2⟩;rw [h h1] at h2;cases h2
theorem partL_yes {le : Bool} {a i j p q : Nat} {l : List Int} (hp : up (goL le l a) i j = p) (hq : dn (fun k=>!goL le l a k) p j = q) (h : p≤q) : partL le a l i j = partL le a (swp l p q) (p + 1) (q - 1):=by
 rw [partL,hp,hq,if_pos h]
theorem partL_no {le : Bool} {a i j p q : Nat} {l : List Int} (hp : up (goL le l a) i j = p) (hq : dn (fun k=>!goL le l a k) p j = q) (h : q < p) : partL le a l i j = (l,q):=by
 rw [partL,hp,hq,if_neg (by omega)]
theorem up_lt_dn {f : Nat→Bool} {i j p q : Nat} (h0 : 0 < i) (hi : i≤j + 1) (hp : up f i j = p) (hq : dn (fun k=>!f k) p j = q) (h : p≤q) : p < q:=by
 obtain ⟨u1,u2,_,u4⟩:=up_spec f j _ i (Nat.le_refl _) hi
 rw [hp] at u1 u2 u4
 obtain ⟨d1,_,_,d4⟩:=dn_spec (fun k=>!f k) p (by omega) j u2
 rw [hq] at d1 d4
 rcases Nat.lt_or_ge p q with h1 | h1
 ·exact h1
 ·have e : p = q:=by omega
  subst e
  have h2:=u4 (by omega)
  have h3:=d4 (Nat.le_refl _)
  simp only [Bool.not_eq_false'] at h3
  rw [h2] at h3;cases h3
def partB (l : List Int) (a b p : Nat) : Bool :=
 let m:=swp l a p
 decide (dn (fun k=>!goL false m a k) (up (goL false m a) (a + 1) (b - 1)) (b - 1) < up (goL false m a) (a + 1) (b - 1))
theorem goF {l : List Int} {a k : Nat} : goL false l a k = decide (gI l k < gI l a):=rfl
theorem goT {l : List Int} {a k : Nat} : goL true l a k = decide (gI l k≤gI l a):=rfl

theorem partition64_con (a b p : Nat) (l : List Int) (hl : l.length≤1000000) (hab : a + 1 < b) (hb : b≤l.length) (hp : a≤p∧p < b) :
  Con Try.prog 100 [.c (.osl 0),I a,I b,I p] [arrI 2 l] (.tup [I (partF l a b p).2,B (partB l a b p)]) [arrI 2 (partF l a b p).1]:=by
 obtain ⟨m,hm⟩ : ∃ m,m = swp l a p:=⟨_,rfl⟩
 have hml : m.length = l.length:=by rw [hm,swp_len]
 have e1 : (b : Int) - 1 = ((b - 1 : Nat) : Int):=by omega
 unfold partF partB
 simp only [← hm]
 refine C_slices_partitionOrdered_int64 nl nl ?_
 simp only [cz,A_slices_partitionOrdered_int64,argL,objL,List.length_nil,List.length_cons,Nat.zero_add,zX,simprocAttr]
 refine aR 16 ?_
 refine aw_draw 80 (RG.go fun Q hQ=>?_)
 simp (disch:=first | (intros;contradiction) | omega | (simp only [zN];omega)) only [zS,zW,nrow,gI_get',set_nrow,swp_fold,← hm,simprocAttr]
 repeat refine ⟨by (omega),?_⟩
 refine hQ (RG.nil ⟨by decide +kernel,?_⟩)
 simp only [zX]
 refine aw_reg 368 (RG.go fun Q hQ=>?_)
 simp (disch:=first | (intros;contradiction) | omega | (simp only [zN];omega)) only [zS,zW,e1,simprocAttr]
 refine hQ (RG.nil ?_)
 simp only [zY]
 refine aw_joinS (Y:={ i : Nat // a < i∧i≤b∧up (goL false m a) (a + 1) (b - 1) = i }) [0,1,11] (fun i=>[(10,I i.1)]) [0] (fun i=>[]) (by (repeat' (exact cl_fin))) ?_ ?_
 ·skip
  simp only [zX]
  refine aw_loopK (X:={ i : Nat // a < i∧i≤b∧up (goL false m a) (a + 1) (b - 1) = up (goL false m a) i (b - 1) }) [0,1,11] (fun i=>[(10,I i.1)]) [0] (fun i=>[]) (fun i=>b - i.1) (⟨a + 1,by omega,by omega,rfl⟩) ?_ ?_
  ·skip
   simp only [keepS,keepE,Option.getD_some,lk_cons,lkE_cons,List.cons_append,List.nil_append,simprocAttr]
   refine Le.lit [] [] _ _ ?_ ?_ ?_ ?_
   ·simp only [zL,simprocAttr]
    all_goals (try ((repeat' (rfl))))
   ·simp only [zL,simprocAttr]
    all_goals (try (exact drows_nrow _))
   ·simp [rlook]
   ·(intro k hk;simp [rlook];omega)
  rintro ⟨i,h1,h2,h3⟩
  simp only [keepS,keepE,Option.getD_some,lk_cons,lkE_cons,List.cons_append,List.nil_append,simprocAttr]
  simp only [zX]
  by_cases hg0 : i≤b - 1
  ·skip
   refine aw_draw 496 (RG.go fun Q hQ=>?_)
   simp (disch:=first | (intros;contradiction) | omega | (simp only [zN];omega)) only [zS,zW,nrow,gI_get',simprocAttr]
   repeat refine ⟨by ((simp;omega)),?_⟩
   refine hQ ?_
   refine rG _ _ (cmp_Less64_con _ _) ?_
   refine aED ?_
   refine aw_cond _ rfl trivial (fun ht=>?_) (fun hf=>?_)
   ·skip
    try simp at ht
    simp only [zX]
    refine aS 752 (fun Q hQ=>by simp (disch:=first | (intros;contradiction) | omega | (simp only [zN];omega)) only [zS,zW,simprocAttr];exact hQ) ?_
    refine ⟨⟨i + 1,by omega,by omega,by rw [h3,up_on hg0];rw [goF];have:=ht.2;simpa using this⟩,?_,by first | omega | (simp only;omega)⟩
    refine Le.lit [] [] _ _ ?_ ?_ ?_ ?_
    ·simp only [zL,simprocAttr]
     all_goals (try ((repeat' (rfl))))
    ·simp only [zL,simprocAttr]
     all_goals (try (exact drows_nrow _))
    ·simp [rlook]
    ·(intro k hk;simp [rlook];omega)
   try simp at hf
   simp only [zX,↓reduceIte]
   refine ⟨⟨i,h1,h2,by rw [h3,up_off fun _=>by rw [goF];have:=hf (by omega);simpa using this]⟩,?_⟩
   simp only []
   refine Le.lit [] [] _ _ ?_ ?_ ?_ ?_
   ·simp only [zL,simprocAttr]
   ·simp only [zL,simprocAttr]
    all_goals (try (exact drows_nrow _))
   ·simp [rlook]
   ·(intro k hk;simp [rlook];omega)
  refine aw_draw 832 (RG.go fun Q hQ=>?_)
  simp (disch:=first | (intros;contradiction) | omega | (simp only [zN];omega)) only [zS,zW,nrow,gI_get',simprocAttr]
  repeat refine ⟨by ((simp;omega)),?_⟩
  refine hQ ?_
  refine RG.callg (res:=B false) _ _ [] rfl (fun hg=>by simp at hg;omega) ?_
  refine aED ?_
  refine aw_cond _ rfl trivial (fun ht=>by simp at ht <;> omega) (fun hf=>?_)
  simp only [zX,↓reduceIte]
  refine ⟨⟨i,h1,h2,by rw [h3,up_off fun h=>absurd h hg0]⟩,?_⟩
  simp only []
  refine Le.lit [] [] _ _ ?_ ?_ ?_ ?_
  ·simp only [zL,simprocAttr]
  ·simp only [zL,simprocAttr]
   all_goals (try (exact drows_nrow _))
  ·simp [rlook]
  ·(intro k hk;simp [rlook];omega)
 rintro ⟨i,h1,h2,h3⟩
 simp only [keepS,keepE,Option.getD_some,lk_cons,lkE_cons,List.cons_append,List.nil_append,simprocAttr]
 refine aw_joinS (Y:={ j : Nat // a≤j∧j < b∧i≤j + 1∧dn (fun k=>!goL false m a k) i (b - 1) = j }) [0,1,10] (fun j=>[(11,I j.1)]) [0] (fun j=>[]) (by (repeat' (exact cl_fin))) ?_ ?_
 ·skip
  simp only [zX]
  refine aw_loopK (X:={ j : Nat // a≤j∧j < b∧i≤j + 1∧dn (fun k=>!goL false m a k) i (b - 1) = dn (fun k=>!goL false m a k) i j }) [0,1,10] (fun j=>[(11,I j.1)]) [0] (fun j=>[]) (fun j=>j.1) (⟨b - 1,by omega,by omega,by omega,rfl⟩) ?_ ?_
  ·skip
   simp only [keepS,keepE,Option.getD_some,lk_cons,lkE_cons,List.cons_append,List.nil_append,simprocAttr]
   refine Le.lit [] [] _ _ ?_ ?_ ?_ ?_
   ·simp only [zL,simprocAttr]
   ·simp only [zL,simprocAttr]
    all_goals (try (exact drows_nrow _))
   ·simp [rlook]
   ·(intro k hk;simp [rlook];omega)
  rintro ⟨j,g1,g2,g3,g4⟩
  simp only [keepS,keepE,Option.getD_some,lk_cons,lkE_cons,List.cons_append,List.nil_append,simprocAttr]
  simp only [zX]
  refine aw_draw 1088 (RG.go fun Q hQ=>?_)
  simp (disch:=first | (intros;contradiction) | omega | (simp only [zN];omega)) only [zS,zW,nrow,gI_get',simprocAttr]
  repeat refine ⟨by ((simp;omega)),?_⟩
  refine hQ ?_
  refine rG _ _ (cmp_Less64_con _ _) ?_
  refine aED ?_
  refine aw_cond _ rfl trivial (fun ht=>?_) (fun hf=>?_)
  ·skip
   try simp at ht
   simp only [zX]
   refine aS 1360 (fun Q hQ=>by simp (disch:=first | (intros;contradiction) | omega | (simp only [zN];omega)) only [zS,zW,simprocAttr];exact hQ) ?_
   refine ⟨⟨j - 1,by omega,by omega,by omega,by rw [g4,dn_on (by omega) (by omega)];rw [goF];have:=ht.2;simpa using this⟩,?_,by first | omega | (simp only;omega)⟩
   refine Le.lit [] [] _ _ ?_ ?_ ?_ ?_
   ·simp only [zL,simprocAttr]
    all_goals (try ((repeat' ((congr 1;omega)))))
   ·simp only [zL,simprocAttr]
    all_goals (try (exact drows_nrow _))
   ·simp [rlook]
   ·(intro k hk;simp [rlook];omega)
  try simp at hf
  simp only [zX,↓reduceIte]
  refine ⟨⟨j,g1,g2,g3,by rw [g4,dn_off fun h=>by rw [goF];have:=hf (by omega);simpa using this]⟩,?_⟩
  simp only []
  refine Le.lit [] [] _ _ ?_ ?_ ?_ ?_
  ·simp only [zL,simprocAttr]
  ·simp only [zL,simprocAttr]
   all_goals (try (exact drows_nrow _))
  ·simp [rlook]
  ·(intro k hk;simp [rlook];omega)
 rintro ⟨j,g1,g2,g3,g4⟩
 simp only [keepS,keepE,Option.getD_some,lk_cons,lkE_cons,List.cons_append,List.nil_append,simprocAttr]
 simp only [zX]
 rw [h3,g4]
 refine aR 1440 ?_
 refine aw_cond _ rfl trivial (fun ht=>?_) (fun hf=>?_)
 ·skip
  try simp at ht
  simp only [zX]
  have hji : j < i:=by omega
  rw [partL_no h3 g4 hji,decide_eq_true hji]
  refine aw_draw 1520 (RG.go fun Q hQ=>?_)
  simp (disch:=first | (intros;contradiction) | omega | (simp only [zN];omega)) only [zS,zW,nrow,gI_get',set_nrow,swp_fold,simprocAttr]
  repeat refine ⟨by (omega),?_⟩
  refine hQ (RG.nil ⟨by decide +kernel,?_⟩)
  simp only [zX]
  refine aR 1808 ?_
  refine Fin.objs [] [] (.inr rfl) rfl (by exact trivial) ?_ ?_ (by simp [objL,rlook]) (by (simp [objL,rlook];done))
  ·simp only [zL,simprocAttr]
  ·simp only [zL,simprocAttr]
   all_goals (try (exact drows_nrow _))
 try simp at hf
 simp only [zX]
 have hij : i≤j:=by omega
 have hij2:=up_lt_dn (by omega) (by omega) h3 g4 hij
 rw [partL_yes h3 g4 hij,decide_eq_false (show ¬ j < i by omega)]
 obtain ⟨L,hL⟩ : ∃ L,L = partL false a (swp m i j) (i + 1) (j - 1):=⟨_,rfl⟩
 rw [← hL]
 refine aw_draw 1888 (RG.go fun Q hQ=>?_)
 simp (disch:=first | (intros;contradiction) | omega | (simp only [zN];omega)) only [zS,zW,nrow,gI_get',set_nrow,swp_fold,simprocAttr]
 repeat refine ⟨by (omega),?_⟩
 refine hQ (RG.nil ⟨by decide +kernel,?_⟩)
 simp only [zX]
 refine aS 2176 (fun Q hQ=>by simp (disch:=first | (intros;contradiction) | omega | (simp only [zN];omega)) only [zS,zW,simprocAttr];exact hQ) ?_
 refine aS 2256 (fun Q hQ=>by simp (disch:=first | (intros;contradiction) | omega | (simp only [zN];omega)) only [zS,zW,simprocAttr];exact hQ) ?_
 refine aw_loopK (X:={ p : List Int × Nat × Nat // p.1.length = l.length∧partL false a p.1 p.2.1 p.2.2 = L∧a < p.2.1∧p.2.1≤p.2.2 + 1∧p.2.2 < b }) [0,1] (fun p=>[(10,I p.1.2.1),(11,I p.1.2.2)]) [] (fun p=>[(0,arrI 2 p.1.1)]) (fun p=>p.1.2.2 + 1 - p.1.2.1) (⟨(swp m i j,i + 1,j - 1),by rw [swp_len];exact hml,hL.symm,by simp only;omega,by simp only;omega,by simp only;omega⟩) ?_ ?_
 ·skip
  simp only [keepS,keepE,lk_cons,List.cons_append,List.nil_append,simprocAttr]
  refine Le.lit [] [] _ _ ?_ ?_ ?_ ?_
  ·simp only [zL,simprocAttr]
   all_goals (try ((repeat' (first | rfl | (congr 1;omega) | refine ⟨?_,?_⟩))))
  ·simp only [zL,simprocAttr]
   all_goals (try (exact drows_nrow _))
  ·simp [rlook]
  ·(intro k hk;simp [rlook];omega)
 rintro ⟨⟨q,x,y⟩,k1,k2,k3,k4,k5⟩
 simp only [keepS,keepE,lk_cons,List.cons_append,List.nil_append,simprocAttr]
 simp only at k1 k2 k3 k4 k5
 refine aw_block ?_
 refine aw_joinS (Y:={ u : Nat // x≤u∧u≤y + 1∧up (goL false q a) x y = u }) [0,1,11] (fun u=>[(10,I u.1)]) [0] (fun u=>[]) (by (repeat' (first | exact cl_fin | refine cl_then ?_ ?_ | refine cl_block ?_ | refine cl_loop ?_))) ?_ ?_
 ·skip
  simp only [zX]
  refine aw_loopK (X:={ u : Nat // x≤u∧u≤y + 1∧up (goL false q a) x y = up (goL false q a) u y }) [0,1,11] (fun u=>[(10,I u.1)]) [0] (fun u=>[]) (fun u=>y + 1 - u.1) (⟨x,by omega,by omega,rfl⟩) ?_ ?_
  ·skip
   simp only [keepS,keepE,Option.getD_some,lk_cons,lkE_cons,List.cons_append,List.nil_append,simprocAttr]
   refine Le.lit [] [] _ _ ?_ ?_ ?_ ?_
   ·simp only [zL,simprocAttr]
   ·simp only [zL,simprocAttr]
    all_goals (try (exact drows_nrow _))
   ·simp [rlook]
   ·(intro k hk;simp [rlook];omega)
  rintro ⟨u,h1,h2,h3⟩
  simp only [keepS,keepE,Option.getD_some,lk_cons,lkE_cons,List.cons_append,List.nil_append,simprocAttr]
  simp only [zX]
  by_cases hg0 : u≤y
  ·skip
   refine aw_draw 2336 (RG.go fun Q hQ=>?_)
   simp (disch:=first | (intros;contradiction) | omega | (simp only [zN];omega)) only [zS,zW,nrow,gI_get',simprocAttr]
   repeat refine ⟨by ((simp;omega)),?_⟩
   refine hQ ?_
   refine rG _ _ (cmp_Less64_con _ _) ?_
   refine aED ?_
   refine aw_cond _ rfl trivial (fun ht=>?_) (fun hf=>?_)
   ·skip
    try simp at ht
    simp only [zX]
    refine aS 2592 (fun Q hQ=>by simp (disch:=first | (intros;contradiction) | omega | (simp only [zN];omega)) only [zS,zW,simprocAttr];exact hQ) ?_
    refine ⟨⟨u + 1,by omega,by omega,by rw [h3,up_on hg0];rw [goF];have:=ht.2;simpa using this⟩,?_,by first | omega | (simp only;omega)⟩
    refine Le.lit [] [] _ _ ?_ ?_ ?_ ?_
    ·simp only [zL,simprocAttr]
     all_goals (try ((repeat' (rfl))))
    ·simp only [zL,simprocAttr]
     all_goals (try (exact drows_nrow _))
    ·simp [rlook]
    ·(intro k hk;simp [rlook];omega)
   try simp at hf
   simp only [zX,↓reduceIte]
   refine ⟨⟨u,h1,h2,by rw [h3,up_off fun _=>by rw [goF];have:=hf (by omega);simpa using this]⟩,?_⟩
   simp only []
   refine Le.lit [] [] _ _ ?_ ?_ ?_ ?_
   ·simp only [zL,simprocAttr]
   ·simp only [zL,simprocAttr]
    all_goals (try (exact drows_nrow _))
   ·simp [rlook]
   ·(intro k hk;simp [rlook];omega)
  refine aw_draw 2672 (RG.go fun Q hQ=>?_)
  simp (disch:=first | (intros;contradiction) | omega | (simp only [zN];omega)) only [zS,zW,nrow,gI_get',simprocAttr]
  repeat refine ⟨by ((simp;omega)),?_⟩
  refine hQ ?_
  refine RG.callg (res:=B false) _ _ [] rfl (fun hg=>by simp at hg;omega) ?_
  refine aED ?_
  refine aw_cond _ rfl trivial (fun ht=>by simp at ht <;> omega) (fun hf=>?_)
  simp only [zX,↓reduceIte]
  refine ⟨⟨u,h1,h2,by rw [h3,up_off fun h=>absurd h hg0]⟩,?_⟩
  simp only []
  refine Le.lit [] [] _ _ ?_ ?_ ?_ ?_
  ·simp only [zL,simprocAttr]
  ·simp only [zL,simprocAttr]
   all_goals (try (exact drows_nrow _))
  ·simp [rlook]
  ·(intro k hk;simp [rlook];omega)
 rintro ⟨u,u1,u2,u3⟩
 simp only [keepS,keepE,Option.getD_some,lk_cons,lkE_cons,List.cons_append,List.nil_append,simprocAttr]
 refine aw_joinS (Y:={ v : Nat // v≤y∧u≤v + 1∧dn (fun k=>!goL false q a k) u y = v }) [0,1,10] (fun v=>[(11,I v.1)]) [0] (fun v=>[]) (by (repeat' (first | exact cl_fin | refine cl_then ?_ ?_ | refine cl_block ?_ | refine cl_loop ?_))) ?_ ?_
 ·skip
  simp only [zX]
  refine aw_loopK (X:={ v : Nat // v≤y∧u≤v + 1∧dn (fun k=>!goL false q a k) u y = dn (fun k=>!goL false q a k) u v }) [0,1,10] (fun v=>[(11,I v.1)]) [0] (fun v=>[]) (fun v=>v.1) (⟨y,by omega,by omega,rfl⟩) ?_ ?_
  ·skip
   simp only [keepS,keepE,Option.getD_some,lk_cons,lkE_cons,List.cons_append,List.nil_append,simprocAttr]
   refine Le.lit [] [] _ _ ?_ ?_ ?_ ?_
   ·simp only [zL,simprocAttr]
   ·simp only [zL,simprocAttr]
    all_goals (try (exact drows_nrow _))
   ·simp [rlook]
   ·(intro k hk;simp [rlook];omega)
  rintro ⟨v,g1,g3,g4⟩
  simp only [keepS,keepE,Option.getD_some,lk_cons,lkE_cons,List.cons_append,List.nil_append,simprocAttr]
  simp only [zX]
  refine aw_draw 2928 (RG.go fun Q hQ=>?_)
  simp (disch:=first | (intros;contradiction) | omega | (simp only [zN];omega)) only [zS,zW,nrow,gI_get',simprocAttr]
  repeat refine ⟨by ((simp;omega)),?_⟩
  refine hQ ?_
  refine rG _ _ (cmp_Less64_con _ _) ?_
  refine aED ?_
  refine aw_cond _ rfl trivial (fun ht=>?_) (fun hf=>?_)
  ·skip
   try simp at ht
   simp only [zX]
   refine aS 3200 (fun Q hQ=>by simp (disch:=first | (intros;contradiction) | omega | (simp only [zN];omega)) only [zS,zW,simprocAttr];exact hQ) ?_
   refine ⟨⟨v - 1,by omega,by omega,by rw [g4,dn_on (by omega) (by omega)];rw [goF];have:=ht.2;simpa using this⟩,?_,by first | omega | (simp only;omega)⟩
   refine Le.lit [] [] _ _ ?_ ?_ ?_ ?_
   ·simp only [zL,simprocAttr]
    all_goals (try ((repeat' ((congr 1;omega)))))
   ·simp only [zL,simprocAttr]
    all_goals (try (exact drows_nrow _))
   ·simp [rlook]
   ·(intro k hk;simp [rlook];omega)
  try simp at hf
  simp only [zX,↓reduceIte]
  refine ⟨⟨v,g1,g3,by rw [g4,dn_off fun h=>by rw [goF];have:=hf (by omega);simpa using this]⟩,?_⟩
  simp only []
  refine Le.lit [] [] _ _ ?_ ?_ ?_ ?_
  ·simp only [zL,simprocAttr]
  ·simp only [zL,simprocAttr]
   all_goals (try (exact drows_nrow _))
  ·simp [rlook]
  ·(intro k hk;simp [rlook];omega)
 rintro ⟨v,v1,v3,v4⟩
 simp only [keepS,keepE,Option.getD_some,lk_cons,lkE_cons,List.cons_append,List.nil_append,simprocAttr]
 simp only [zX]
 refine aR 3280 ?_
 refine aw_cond _ rfl trivial (fun ht=>?_) (fun hf=>?_)
 ·skip
  try simp at ht
  simp only [zX,simprocAttr]
  have hji : v < u:=by omega
  rw [partL_no u3 v4 hji] at k2
  rw [← k2]
  refine aw_draw 3360 (RG.go fun Q hQ=>?_)
  simp (disch:=first | (intros;contradiction) | omega | (simp only [zN];omega)) only [zS,zW,nrow,gI_get',set_nrow,swp_fold,simprocAttr]
  repeat refine ⟨by (omega),?_⟩
  refine hQ (RG.nil ⟨by decide +kernel,?_⟩)
  simp only [zX]
  refine aR 3648 ?_
  refine Fin.objs [] [] (.inr rfl) rfl (by exact trivial) ?_ ?_ (by simp [objL,rlook]) (by (simp [objL,rlook];done))
  ·simp only [zL,simprocAttr]
  ·simp only [zL,simprocAttr]
   all_goals (try (exact drows_nrow _))
 try simp at hf
 simp only [zX]
 have hij : u≤v:=by omega
 have hij2:=up_lt_dn (by omega) k4 u3 v4 hij
 rw [partL_yes u3 v4 hij] at k2
 refine aw_draw 3728 (RG.go fun Q hQ=>?_)
 simp (disch:=first | (intros;contradiction) | omega | (simp only [zN];omega)) only [zS,zW,nrow,gI_get',set_nrow,swp_fold,simprocAttr]
 repeat refine ⟨by (omega),?_⟩
 refine hQ (RG.nil ⟨by decide +kernel,?_⟩)
 simp only [zX]
 refine aw_reg 4016 (RG.go fun Q hQ=>?_)
 simp (disch:=first | (intros;contradiction) | omega | (simp only [zN];omega)) only [zS,zW,simprocAttr]
 refine hQ (RG.nil ?_)
 simp only [zX]
 refine aw_reg 4096 (RG.go fun Q hQ=>?_)
 simp (disch:=first | (intros;contradiction) | omega | (simp only [zN];omega)) only [zS,zW,simprocAttr]
 refine hQ (RG.nil ?_)
 simp only [zX]
 refine ⟨⟨(swp q u v,u + 1,v - 1),by rw [swp_len];exact k1,k2,by simp only;omega,by simp only;omega,by simp only;omega⟩,?_,by first | omega | (simp only;omega)⟩
 refine Le.lit [] [] _ _ ?_ ?_ ?_ ?_
 ·simp only [zL,simprocAttr]
  all_goals (try ((repeat' (first | rfl | (congr 1;omega) | refine ⟨?_,?_⟩))))
 ·simp only [zL,simprocAttr]
  all_goals (try (exact drows_nrow _))
 ·simp [rlook]
 ·(intro k hk;simp [rlook];omega)

theorem partEqual64_con (a b p : Nat) (l : List Int) (hl : l.length≤1000000) (hab : a + 1 < b) (hb : b≤l.length) (hp : a≤p∧p < b) :
  Con Try.prog 99 [.c (.osl 0),I a,I b,I p] [arrI 2 l] (I ((partE l a b p).2 + 1)) [arrI 2 (partE l a b p).1]:=by
 obtain ⟨m,hm⟩ : ∃ m,m = swp l a p:=⟨_,rfl⟩
 have hml : m.length = l.length:=by rw [hm,swp_len]
 have e1 : (b : Int) - 1 = ((b - 1 : Nat) : Int):=by omega
 unfold partE
 rw [← hm]
 obtain ⟨L,hL⟩ : ∃ L,L = partL true a m (a + 1) (b - 1):=⟨_,rfl⟩
 rw [← hL]
 refine C_slices_partitionEqualOrdered_int64 nl nl ?_
 simp only [cz,A_slices_partitionEqualOrdered_int64,argL,objL,List.length_nil,List.length_cons,Nat.zero_add,zX,simprocAttr]
 refine aR 16 ?_
 refine aw_draw 64 (RG.go fun Q hQ=>?_)
 simp (disch:=first | (intros;contradiction) | omega | (simp only [zN];omega)) only [zS,zW,nrow,gI_get',set_nrow,swp_fold,← hm,simprocAttr]
 repeat refine ⟨by (omega),?_⟩
 refine hQ (RG.nil ⟨by decide +kernel,?_⟩)
 simp only [zX]
 refine aS 352 (fun Q hQ=>by simp (disch:=first | (intros;contradiction) | omega | (simp only [zN];omega)) only [zS,zW,e1,simprocAttr];exact hQ) ?_
 refine aw_loopK (X:={ p : List Int × Nat × Nat // p.1.length = l.length∧partL true a p.1 p.2.1 p.2.2 = L∧a < p.2.1∧p.2.1≤p.2.2 + 1∧p.2.2 < b }) [0,1] (fun p=>[(9,I p.1.2.1),(10,I p.1.2.2)]) [] (fun p=>[(0,arrI 2 p.1.1)]) (fun p=>p.1.2.2 + 1 - p.1.2.1) (⟨(m,a + 1,b - 1),hml,hL.symm,by simp only;omega,by simp only;omega,by simp only;omega⟩) ?_ ?_
 ·skip
  simp only [keepS,keepE,lk_cons,List.cons_append,List.nil_append,simprocAttr]
  refine Le.lit [] [] _ _ ?_ ?_ ?_ ?_
  ·simp only [zL,simprocAttr]
   all_goals (try ((repeat' (rfl))))
  ·simp only [zL,simprocAttr]
   all_goals (try (exact drows_nrow _))
  ·simp [rlook]
  ·(intro k hk;simp [rlook];omega)
 rintro ⟨⟨q,x,y⟩,k1,k2,k3,k4,k5⟩
 simp only [keepS,keepE,lk_cons,List.cons_append,List.nil_append,simprocAttr]
 simp only at k1 k2 k3 k4 k5
 refine aw_block ?_
 refine aw_joinS (Y:={ u : Nat // x≤u∧u≤y + 1∧up (goL true q a) x y = u }) [0,1,10] (fun u=>[(9,I u.1)]) [0] (fun u=>[]) (by (repeat' (first | exact cl_fin | refine cl_then ?_ ?_ | refine cl_block ?_ | refine cl_loop ?_))) ?_ ?_
 ·skip
  simp only [zX]
  refine aw_loopK (X:={ u : Nat // x≤u∧u≤y + 1∧up (goL true q a) x y = up (goL true q a) u y }) [0,1,10] (fun u=>[(9,I u.1)]) [0] (fun u=>[]) (fun u=>y + 1 - u.1) (⟨x,by omega,by omega,rfl⟩) ?_ ?_
  ·skip
   simp only [keepS,keepE,Option.getD_some,lk_cons,lkE_cons,List.cons_append,List.nil_append,simprocAttr]
   refine Le.lit [] [] _ _ ?_ ?_ ?_ ?_
   ·simp only [zL,simprocAttr]
   ·simp only [zL,simprocAttr]
    all_goals (try (exact drows_nrow _))
   ·simp [rlook]
   ·(intro k hk;simp [rlook];omega)
  rintro ⟨u,h1,h2,h3⟩
  simp only [keepS,keepE,Option.getD_some,lk_cons,lkE_cons,List.cons_append,List.nil_append,simprocAttr]
  simp only [zX]
  by_cases hg0 : u≤y
  ·skip
   refine aw_draw 480 (RG.go fun Q hQ=>?_)
   simp (disch:=first | (intros;contradiction) | omega | (simp only [zN];omega)) only [zS,zW,nrow,gI_get',simprocAttr]
   repeat refine ⟨by ((simp;omega)),?_⟩
   refine hQ ?_
   refine rG _ _ (cmp_Less64_con _ _) ?_
   refine aED ?_
   refine aw_cond _ rfl trivial (fun ht=>?_) (fun hf=>?_)
   ·skip
    try simp at ht
    simp only [zX]
    refine aS 752 (fun Q hQ=>by simp (disch:=first | (intros;contradiction) | omega | (simp only [zN];omega)) only [zS,zW,simprocAttr];exact hQ) ?_
    refine ⟨⟨u + 1,by omega,by omega,by rw [h3,up_on hg0];rw [goT];have:=ht.2;simpa using this⟩,?_,by first | omega | (simp only;omega)⟩
    refine Le.lit [] [] _ _ ?_ ?_ ?_ ?_
    ·simp only [zL,simprocAttr]
     all_goals (try ((repeat' (rfl))))
    ·simp only [zL,simprocAttr]
     all_goals (try (exact drows_nrow _))
    ·simp [rlook]
    ·(intro k hk;simp [rlook];omega)
   try simp at hf
   simp only [zX,↓reduceIte]
   refine ⟨⟨u,h1,h2,by rw [h3,up_off fun _=>by rw [goT];have:=hf (by omega);simpa using this]⟩,?_⟩
   simp only []
   refine Le.lit [] [] _ _ ?_ ?_ ?_ ?_
   ·simp only [zL,simprocAttr]
   ·simp only [zL,simprocAttr]
    all_goals (try (exact drows_nrow _))
   ·simp [rlook]
   ·(intro k hk;simp [rlook];omega)
  refine aw_draw 832 (RG.go fun Q hQ=>?_)
  simp (disch:=first | (intros;contradiction) | omega | (simp only [zN];omega)) only [zS,zW,nrow,gI_get',simprocAttr]
  repeat refine ⟨by ((simp;omega)),?_⟩
  refine hQ ?_
  refine RG.callg (res:=B false) _ _ [] rfl (fun hg=>by simp at hg;omega) ?_
  refine aED ?_
  refine aw_cond _ rfl trivial (fun ht=>by simp at ht <;> omega) (fun hf=>?_)
  simp only [zX,↓reduceIte]
  refine ⟨⟨u,h1,h2,by rw [h3,up_off fun h=>absurd h hg0]⟩,?_⟩
  simp only []
  refine Le.lit [] [] _ _ ?_ ?_ ?_ ?_
  ·simp only [zL,simprocAttr]
  ·simp only [zL,simprocAttr]
   all_goals (try (exact drows_nrow _))
  ·simp [rlook]
  ·(intro k hk;simp [rlook];omega)
 rintro ⟨u,u1,u2,u3⟩
 simp only [keepS,keepE,Option.getD_some,lk_cons,lkE_cons,List.cons_append,List.nil_append,simprocAttr]
 refine aw_joinS (Y:={ v : Nat // v≤y∧u≤v + 1∧dn (fun k=>!goL true q a k) u y = v }) [0,1,9] (fun v=>[(10,I v.1)]) [0] (fun v=>[]) (by (repeat' (first | exact cl_fin | refine cl_then ?_ ?_ | refine cl_block ?_ | refine cl_loop ?_))) ?_ ?_
 ·skip
  simp only [zX]
  refine aw_loopK (X:={ v : Nat // v≤y∧u≤v + 1∧dn (fun k=>!goL true q a k) u y = dn (fun k=>!goL true q a k) u v }) [0,1,9] (fun v=>[(10,I v.1)]) [0] (fun v=>[]) (fun v=>v.1) (⟨y,by omega,by omega,rfl⟩) ?_ ?_
  ·skip
   simp only [keepS,keepE,Option.getD_some,lk_cons,lkE_cons,List.cons_append,List.nil_append,simprocAttr]
   refine Le.lit [] [] _ _ ?_ ?_ ?_ ?_
   ·simp only [zL,simprocAttr]
   ·simp only [zL,simprocAttr]
    all_goals (try (exact drows_nrow _))
   ·simp [rlook]
   ·(intro k hk;simp [rlook];omega)
  rintro ⟨v,g1,g3,g4⟩
  simp only [keepS,keepE,Option.getD_some,lk_cons,lkE_cons,List.cons_append,List.nil_append,simprocAttr]
  simp only [zX]
  refine aw_draw 1104 (RG.go fun Q hQ=>?_)
  simp (disch:=first | (intros;contradiction) | omega | (simp only [zN];omega)) only [zS,zW,nrow,gI_get',simprocAttr]
  repeat refine ⟨by ((simp;omega)),?_⟩
  refine hQ ?_
  refine rG _ _ (cmp_Less64_con _ _) ?_
  refine aED ?_
  refine aw_cond _ rfl trivial (fun ht=>?_) (fun hf=>?_)
  ·skip
   try simp at ht
   simp only [zX]
   refine aS 1360 (fun Q hQ=>by simp (disch:=first | (intros;contradiction) | omega | (simp only [zN];omega)) only [zS,zW,simprocAttr];exact hQ) ?_
   refine ⟨⟨v - 1,by omega,by omega,by rw [g4,dn_on (by omega) (by omega)];rw [goT];have:=ht.2;simpa using this⟩,?_,by first | omega | (simp only;omega)⟩
   refine Le.lit [] [] _ _ ?_ ?_ ?_ ?_
   ·simp only [zL,simprocAttr]
    all_goals (try ((repeat' ((congr 1;omega)))))
   ·simp only [zL,simprocAttr]
    all_goals (try (exact drows_nrow _))
   ·simp [rlook]
   ·(intro k hk;simp [rlook];omega)
  try simp at hf
  simp only [zX,↓reduceIte]
  refine ⟨⟨v,g1,g3,by rw [g4,dn_off fun h=>by rw [goT];have:=hf (by omega);simpa using this]⟩,?_⟩
  simp only []
  refine Le.lit [] [] _ _ ?_ ?_ ?_ ?_
  ·simp only [zL,simprocAttr]
  ·simp only [zL,simprocAttr]
   all_goals (try (exact drows_nrow _))
  ·simp [rlook]
  ·(intro k hk;simp [rlook];omega)
 rintro ⟨v,v1,v3,v4⟩
 simp only [keepS,keepE,Option.getD_some,lk_cons,lkE_cons,List.cons_append,List.nil_append,simprocAttr]
 simp only [zX]
 refine aR 1440 ?_
 refine aw_cond _ rfl trivial (fun ht=>?_) (fun hf=>?_)
 ·skip
  try simp at ht
  simp only [zX,simprocAttr]
  have hji : v < u:=by omega
  rw [partL_no u3 v4 hji] at k2
  rw [← k2]
  have huv : (u : Int) = (v : Int) + 1:=by omega
  rw [← huv]
  refine aR 1520 ?_
  refine Fin.objs [] [] (.inr rfl) rfl (by exact trivial) ?_ ?_ (by simp [objL,rlook]) (by (simp [objL,rlook];done))
  ·simp only [zL,simprocAttr]
  ·simp only [zL,simprocAttr]
   all_goals (try (exact drows_nrow _))
 try simp at hf
 simp only [zX]
 have hij : u≤v:=by omega
 have hij2:=up_lt_dn (by omega) k4 u3 v4 hij
 rw [partL_yes u3 v4 hij] at k2
 refine aw_draw 1584 (RG.go fun Q hQ=>?_)
 simp (disch:=first | (intros;contradiction) | omega | (simp only [zN];omega)) only [zS,zW,nrow,gI_get',set_nrow,swp_fold,simprocAttr]
 repeat refine ⟨by (omega),?_⟩
 refine hQ (RG.nil ⟨by decide +kernel,?_⟩)
 simp only [zX]
 refine aS 1872 (fun Q hQ=>by simp (disch:=first | (intros;contradiction) | omega | (simp only [zN];omega)) only [zS,zW,simprocAttr];exact hQ) ?_
 refine aS 1952 (fun Q hQ=>by simp (disch:=first | (intros;contradiction) | omega | (simp only [zN];omega)) only [zS,zW,simprocAttr];exact hQ) ?_
 refine ⟨⟨(swp q u v,u + 1,v - 1),by rw [swp_len];exact k1,k2,by simp only;omega,by simp only;omega,by simp only;omega⟩,?_,by first | omega | (simp only;omega)⟩
 refine Le.lit [] [] _ _ ?_ ?_ ?_ ?_
 ·simp only [zL,simprocAttr]
  all_goals (try ((repeat' (first | rfl | (congr 1;omega) | refine ⟨?_,?_⟩))))
 ·simp only [zL,simprocAttr]
  all_goals (try (exact drows_nrow _))
 ·simp [rlook]
 ·(intro k hk;simp [rlook];omega)

end Go.Abs

namespace Go.Abs
open Go Go.Proofs
set_option maxRecDepth 100000
set_option linter.unusedSimpArgs false
set_option maxHeartbeats 4000000

theorem nextI_on {l : List Int} {i b : Nat} (h : i < b) (hf : ¬ gI l i < gI l (i - 1)) : nextI l i b = nextI l (i + 1) b:=by
 unfold nextI;exact up_on (by omega) (by simpa using hf)
theorem nextI_off {l : List Int} {i b : Nat} (hb : 0 < b) (h : i < b→gI l i < gI l (i - 1)) : nextI l i b = i:=by
 unfold nextI;exact up_off fun hh=>by simpa using h (by omega)
theorem shL_len : ∀ (j : Nat) (l : List Int),(shL l j).length = l.length
 | 0,l=>rfl
 | j + 1,l=>by unfold shL;split;rw [shL_len j,swp_len];rfl
theorem pis64_con (a b : Nat) (l : List Int) (hl : l.length≤1000000) (hab : a + 1 < b) (hb : b≤l.length) :
  Con Try.prog 97 [.c (.osl 0),I a,I b] [arrI 2 l] (B (pis a b 5 l (a + 1)).2) [arrI 2 (pis a b 5 l (a + 1)).1]:=by
 obtain ⟨R,hR⟩ : ∃ R,R = pis a b 5 l (a + 1):=⟨_,rfl⟩
 rw [← hR]
 refine C_slices_partialInsertionSortOrdered_int64 nl nl ?_
 simp only [cz,A_slices_partialInsertionSortOrdered_int64,argL,objL,List.length_nil,List.length_cons,Nat.zero_add,zX,simprocAttr]
 refine aR 16 ?_
 refine aS 64 (fun Q hQ=>by simp (disch:=first | (intros;contradiction) | omega | (simp only [zN];omega)) only [zS,zW,simprocAttr];exact hQ) ?_
 refine aR 144 ?_
 refine aw_loopK (X:={ p : List Int × Nat × Nat // p.1.length = l.length∧pis a b p.2.2 p.1 p.2.1 = R∧a < p.2.1∧p.2.1≤b∧p.2.2≤5 }) [0,1,2] (fun p=>[(7,I p.1.2.1),(8,I (5 - (p.1.2.2 : Int)))]) [] (fun p=>[(0,arrI 2 p.1.1)]) (fun p=>p.1.2.2) (⟨(l,a + 1,5),rfl,hR.symm,by simp only;omega,by simp only;omega,by simp only;omega⟩) ?_ ?_
 ·skip
  simp only [keepS,keepE,lk_cons,List.cons_append,List.nil_append,simprocAttr]
  refine Le.lit [] [] _ _ ?_ ?_ ?_ ?_
  ·simp only [zL,simprocAttr]
   all_goals (try ((repeat' ((simp;done)))))
  ·simp only [zL,simprocAttr]
   all_goals (try (exact drows_nrow _))
  ·simp [rlook]
  ·(intro k hk;simp [rlook];omega)
 rintro ⟨⟨m,i,n⟩,h1,h2,h3,h4,h5⟩
 simp only [keepS,keepE,lk_cons,List.cons_append,List.nil_append,simprocAttr]
 simp only [zX]
 simp only at h1 h2 h3 h4 h5
 refine aR 192 ?_
 refine aw_cond _ rfl trivial (fun ht=>?_) (fun hf=>?_)
 rotate_left
 ·skip
  try simp at hf
  simp only [zX,↓reduceIte]
  obtain rfl : n = 0:=by omega
  refine aR 256 ?_
  rw [← h2]
  unfold pis
  refine Fin.objs [] [] (.inr rfl) rfl (by exact trivial) ?_ ?_ (by simp [objL,rlook]) (by (simp [objL,rlook];done))
  ·simp only [zL,simprocAttr]
  ·simp only [zL,simprocAttr]
   all_goals (try (exact drows_nrow _))
 try simp at ht
 simp only [zY]
 obtain ⟨n,rfl⟩ : ∃ k,n = k + 1:=⟨n - 1,by omega⟩
 refine aw_seq ?_
 refine aw_block ?_
 refine aw_joinS (Y:={ u : Nat // i≤u∧u≤b∧nextI m i b = u∧(u < b→gI m u < gI m (u - 1)) }) [0,1,2,8] (fun u=>[(7,I u.1)]) [0] (fun u=>[]) (by (repeat' (first | exact cl_fin | refine cl_then ?_ ?_ | refine cl_block ?_ | refine cl_loop ?_))) ?_ ?_
 ·skip
  simp only [zX]
  refine aw_loopK (X:={ u : Nat // i≤u∧u≤b∧nextI m i b = nextI m u b }) [0,1,2,8] (fun u=>[(7,I u.1)]) [0] (fun u=>[]) (fun u=>b - u.1) (⟨i,by omega,h4,rfl⟩) ?_ ?_
  ·skip
   simp only [keepS,keepE,Option.getD_some,lk_cons,lkE_cons,List.cons_append,List.nil_append,simprocAttr]
   refine Le.lit [] [] _ _ ?_ ?_ ?_ ?_
   ·simp only [zL,simprocAttr]
   ·simp only [zL,simprocAttr]
    all_goals (try (exact drows_nrow _))
   ·simp [rlook]
   ·(intro k hk;simp [rlook];omega)
  rintro ⟨u,g1,g2,g3⟩
  simp only [keepS,keepE,Option.getD_some,lk_cons,lkE_cons,List.cons_append,List.nil_append,simprocAttr]
  simp only [zX]
  by_cases hg0 : u < b
  ·skip
   refine aw_draw 304 (RG.go fun Q hQ=>?_)
   simp (disch:=first | (intros;contradiction) | omega | (simp only [zN];omega)) only [zS,zW,nrow,gI_get',simprocAttr]
   repeat refine ⟨by ((simp;omega)),?_⟩
   refine hQ ?_
   refine rG _ _ (cmp_Less64_con _ _) ?_
   refine aED ?_
   refine aw_cond _ rfl trivial (fun ht=>?_) (fun hf=>?_)
   ·skip
    try simp at ht
    simp only [zX]
    refine aS 592 (fun Q hQ=>by simp (disch:=first | (intros;contradiction) | omega | (simp only [zN];omega)) only [zS,zW,simprocAttr];exact hQ) ?_
    refine ⟨⟨u + 1,by omega,by omega,by rw [g3,nextI_on hg0];have:=ht.2;omega⟩,?_,by first | omega | (simp only;omega)⟩
    refine Le.lit [] [] _ _ ?_ ?_ ?_ ?_
    ·simp only [zL,simprocAttr]
     all_goals (try ((repeat' (rfl))))
    ·simp only [zL,simprocAttr]
     all_goals (try (exact drows_nrow _))
    ·simp [rlook]
    ·(intro k hk;simp [rlook];omega)
   try simp at hf
   simp only [zX,↓reduceIte]
   have hlt:=hf (by omega)
   refine ⟨⟨u,g1,g2,by rw [g3,nextI_off (by omega) fun _=>hlt],fun _=>hlt⟩,?_⟩
   simp only []
   refine Le.lit [] [] _ _ ?_ ?_ ?_ ?_
   ·simp only [zL,simprocAttr]
   ·simp only [zL,simprocAttr]
    all_goals (try (exact drows_nrow _))
   ·simp [rlook]
   ·(intro k hk;simp [rlook];omega)
  refine aw_draw 672 (RG.go fun Q hQ=>?_)
  simp (disch:=first | (intros;contradiction) | omega | (simp only [zN];omega)) only [zS,zW,nrow,gI_get',simprocAttr]
  repeat refine ⟨by ((simp;omega)),?_⟩
  refine hQ ?_
  refine RG.callg (res:=B false) _ _ [] rfl (fun hg=>by simp at hg;omega) ?_
  refine aED ?_
  refine aw_cond _ rfl trivial (fun ht=>by simp at ht <;> omega) (fun hf=>?_)
  simp only [zX,↓reduceIte]
  refine ⟨⟨u,g1,g2,by rw [g3,nextI_off (by omega) fun h=>absurd h hg0],fun h=>absurd h hg0⟩,?_⟩
  simp only []
  refine Le.lit [] [] _ _ ?_ ?_ ?_ ?_
  ·simp only [zL,simprocAttr]
  ·simp only [zL,simprocAttr]
   all_goals (try (exact drows_nrow _))
  ·simp [rlook]
  ·(intro k hk;simp [rlook];omega)
 rintro ⟨u,g1,g2,g3,g4⟩
 simp only [keepS,keepE,Option.getD_some,lk_cons,lkE_cons,List.cons_append,List.nil_append,simprocAttr]
 simp only [zX]
 unfold pis at h2
 rw [g3] at h2
 refine aR 960 ?_
 refine aw_cond _ rfl trivial (fun ht=>?_) (fun hf=>?_)
 ·skip
  try simp at ht
  simp only [zX]
  obtain rfl : u = b:=by omega
  rw [if_pos rfl] at h2
  refine aR 1040 ?_
  rw [← h2]
  refine Fin.objs [] [] (.inr rfl) rfl (by exact trivial) ?_ ?_ (by simp [objL,rlook]) (by (simp [objL,rlook];done))
  ·simp only [zL,simprocAttr]
  ·simp only [zL,simprocAttr]
   all_goals (try (exact drows_nrow _))
 try simp at hf
 simp only [zX]
 rw [if_neg (by omega)] at h2
 refine aS 1088 (fun Q hQ=>by simp (disch:=first | (intros;contradiction) | omega | (simp only [zN];omega)) only [zS,zW,simprocAttr];exact hQ) ?_
 refine aw_cond _ rfl trivial (fun ht=>?_) (fun hf=>?_)
 ·skip
  try simp at ht
  simp only [zX]
  rw [if_pos (by omega)] at h2
  refine aR 1184 ?_
  rw [← h2]
  refine Fin.objs [] [] (.inr rfl) rfl (by exact trivial) ?_ ?_ (by simp [objL,rlook]) (by (simp [objL,rlook];done))
  ·simp only [zL,simprocAttr]
  ·simp only [zL,simprocAttr]
   all_goals (try (exact drows_nrow _))
 try simp at hf
 simp only [zX]
 rw [if_neg (by omega)] at h2
 refine aw_draw 1232 (RG.go fun Q hQ=>?_)
 simp (disch:=first | (intros;contradiction) | omega | (simp only [zN];omega)) only [zS,zW,nrow,gI_get',set_nrow,swp_fold,simprocAttr]
 repeat refine ⟨by (omega),?_⟩
 refine hQ (RG.nil ⟨by decide +kernel,?_⟩)
 simp only [zY]
 refine aw_joinS (Y:=Unit) [0,1,2,7,8] (fun z=>[]) [] (fun z=>[(0,arrI 2 (pisL a b m u))]) (by (repeat' (first | exact cl_fin | refine cl_then ?_ ?_ | refine cl_block ?_ | refine cl_loop ?_))) ?_ ?_
 ·skip
  simp only [zX]
  refine aS 1552 (fun Q hQ=>by simp (disch:=first | (intros;contradiction) | omega | (simp only [zN];omega)) only [zS,zW,simprocAttr];exact hQ) ?_
  refine aw_cond _ rfl trivial (fun ht=>?_) (fun hf=>?_)
  ·skip
   try simp at ht
   simp only [zX]
   have hp : pisL a b m u = shL (swp m u (u - 1)) (u - 1):=by unfold pisL;rw [if_pos (by omega)]
   rw [hp]
   refine aS 1648 (fun Q hQ=>by simp (disch:=first | (intros;contradiction) | omega | (simp only [zN];omega)) only [zS,zW,simprocAttr];exact hQ) ?_
   refine aw_loopK (X:={ p : List Int × Nat // p.1.length = l.length∧shL p.1 p.2 = shL (swp m u (u - 1)) (u - 1)∧p.2 < b }) [0,1,2,7,8] (fun p=>[(9,I p.1.2)]) [] (fun p=>[(0,arrI 2 p.1.1)]) (fun p=>p.1.2) (⟨(swp m u (u - 1),u - 1),by simp only;rw [swp_len];exact h1,rfl,by simp only;omega⟩) ?_ ?_
   ·skip
    simp only [keepS,keepE,lk_cons,List.cons_append,List.nil_append,simprocAttr]
    refine Le.lit [] [] _ _ ?_ ?_ ?_ ?_
    ·simp only [zL,simprocAttr]
     all_goals (try ((repeat' ((congr 1;omega)))))
    ·simp only [zL,simprocAttr]
     all_goals (try (exact drows_nrow _))
    ·simp [rlook]
    ·(intro k hk;simp [rlook];omega)
   rintro ⟨⟨q,j⟩,k1,k2,k3⟩
   simp only [keepS,keepE,lk_cons,List.cons_append,List.nil_append,simprocAttr]
   simp only [zX]
   simp only at k1 k2 k3
   refine aR 1728 ?_
   refine aw_cond _ rfl trivial (fun ht=>?_) (fun hf=>?_)
   rotate_left
   ·skip
    try simp at hf
    simp only [zX,↓reduceIte]
    obtain rfl : j = 0:=by omega
    rw [← k2]
    refine ⟨(),?_⟩
    refine Le.lit [] [] _ _ ?_ ?_ ?_ ?_
    ·simp only [zL,simprocAttr]
    ·simp only [zL,simprocAttr]
     all_goals (try ((repeat' (first | (exact drows_nrow _) | rfl | refine ⟨?_,?_⟩))))
    ·simp [rlook]
    ·(intro k hk;simp [rlook];omega)
   try simp at ht
   simp only [zX]
   obtain ⟨j,rfl⟩ : ∃ k,j = k + 1:=⟨j - 1,by omega⟩
   refine aw_draw 1792 (RG.go fun Q hQ=>?_)
   simp (disch:=first | (intros;contradiction) | omega | (simp only [zN];omega)) only [zS,zW,nrow,gI_get',simprocAttr]
   repeat refine ⟨by (omega),?_⟩
   refine hQ ?_
   refine rC [] (cmp_Less64_con _ _) ?_
   refine aED ?_
   refine aw_cond _ rfl trivial (fun ht=>?_) (fun hf=>?_)
   ·skip
    try simp at ht
    simp only [zX,simprocAttr]
    rw [← k2,show shL q (j + 1) = q from by unfold shL;rw [if_neg (by simpa using ht)]]
    refine ⟨(),?_⟩
    refine Le.lit [] [] _ _ ?_ ?_ ?_ ?_
    ·simp only [zL,simprocAttr]
    ·simp only [zL,simprocAttr]
     all_goals (try (exact drows_nrow _))
    ·simp [rlook]
    ·(intro k hk;simp [rlook];omega)
   try simp at hf
   simp only [zX]
   have hk : shL q (j + 1) = shL (swp q (j + 1) j) j:=by rw [shL,if_pos (by simpa using hf)]
   refine aw_draw 2000 (RG.go fun Q hQ=>?_)
   simp (disch:=first | (intros;contradiction) | omega | (simp only [zN];omega)) only [zS,zW,nrow,gI_get',set_nrow,swp_fold,simprocAttr]
   repeat refine ⟨by (omega),?_⟩
   refine hQ (RG.nil ⟨by decide +kernel,?_⟩)
   simp only [zX]
   refine aS 2320 (fun Q hQ=>by simp (disch:=first | (intros;contradiction) | omega | (simp only [zN];omega)) only [zS,zW,simprocAttr];exact hQ) ?_
   refine ⟨⟨(swp q (j + 1) j,j),by simp only;rw [swp_len];exact k1,by rw [← k2,hk],by simp only;omega⟩,?_,by first | omega | (simp only;omega)⟩
   refine Le.lit [] [] _ _ ?_ ?_ ?_ ?_
   ·simp only [zL,simprocAttr]
    all_goals (try ((repeat' ((congr 1;omega)))))
   ·simp only [zL,simprocAttr]
    all_goals (try ((repeat' (first | (first | exact drows_nrow _ | (simp [C.isD];done)) | refine ⟨?_,?_⟩))))
   ·simp [rlook]
   ·(intro k hk;simp [rlook];omega)
  try simp at hf
  simp only [zX]
  have hp : pisL a b m u = swp m u (u - 1):=by unfold pisL;rw [if_neg (by omega)]
  rw [hp]
  refine ⟨(),?_⟩
  simp only [keepS,keepE,lk_cons,List.cons_append,List.nil_append,simprocAttr]
  refine Le.lit [] [] _ _ ?_ ?_ ?_ ?_
  ·simp only [zL,simprocAttr]
  ·simp only [zL,simprocAttr]
   all_goals (try (exact drows_nrow _))
  ·simp [rlook]
  ·(intro k hk;simp [rlook];omega)
 rintro ⟨⟩
 simp only [keepS,keepE,lk_cons,List.cons_append,List.nil_append,simprocAttr]
 simp only [zX]
 have hLl : (pisL a b m u).length = l.length:=by unfold pisL;split <;> simp [shL_len,swp_len,h1]
 refine aS 2400 (fun Q hQ=>by simp (disch:=first | (intros;contradiction) | omega | (simp only [zN];omega)) only [zS,zW,simprocAttr];exact hQ) ?_
 refine aw_cond _ rfl trivial (fun ht=>?_) (fun hf=>?_)
 ·skip
  try simp at ht
  simp only [zX]
  have hp : pisR a b m u = shR b (pisL a b m u) (u + 1):=by unfold pisR;rw [if_pos (by omega)]
  refine aS 2496 (fun Q hQ=>by simp (disch:=first | (intros;contradiction) | omega | (simp only [zN];omega)) only [zS,zW,simprocAttr];exact hQ) ?_
  refine aw_loopK (X:={ p : List Int × Nat // p.1.length = l.length∧shR b p.1 p.2 = pisR a b m u∧0 < p.2∧p.2≤b }) [0,1,2,7,8] (fun p=>[(10,I p.1.2)]) [] (fun p=>[(0,arrI 2 p.1.1)]) (fun p=>b - p.1.2) (⟨(pisL a b m u,u + 1),hLl,hp.symm,by simp only;omega,by simp only;omega⟩) ?_ ?_
  ·skip
   simp only [keepS,keepE,lk_cons,List.cons_append,List.nil_append,simprocAttr]
   refine Le.lit [] [] _ _ ?_ ?_ ?_ ?_
   ·simp only [zL,simprocAttr]
    all_goals (try ((repeat' (rfl))))
   ·simp only [zL,simprocAttr]
    all_goals (try (exact drows_nrow _))
   ·simp [rlook]
   ·(intro k hk;simp [rlook];omega)
  rintro ⟨⟨q,j⟩,k1,k2,k3,k4⟩
  simp only [keepS,keepE,lk_cons,List.cons_append,List.nil_append,simprocAttr]
  simp only [zX]
  simp only at k1 k2 k3 k4
  refine aR 2576 ?_
  refine aw_cond _ rfl trivial (fun ht=>?_) (fun hf=>?_)
  rotate_left
  ·skip
   try simp at hf
   simp only [zX,↓reduceIte]
   rw [show shR b q j = q from by rw [shR,if_neg (by omega)]] at k2
   refine aS 2656 (fun Q hQ=>by simp (disch:=first | (intros;contradiction) | omega | (simp only [zN];omega)) only [zS,zW,simprocAttr];exact hQ) ?_
   refine ⟨⟨(q,u,n),by simp only;exact k1,by rw [← h2,k2],by simp only;omega,by simp only;omega,by simp only;omega⟩,?_,by first | omega | (simp only;omega)⟩
   refine Le.lit [] [] _ _ ?_ ?_ ?_ ?_
   ·simp only [zL,simprocAttr]
    all_goals (try ((repeat' ((congr 1;omega)))))
   ·simp only [zL,simprocAttr]
    all_goals (try (exact drows_nrow _))
   ·simp [rlook]
   ·(intro k hk;simp [rlook];omega)
  try simp at ht
  simp only [zX]
  refine aw_draw 2736 (RG.go fun Q hQ=>?_)
  simp (disch:=first | (intros;contradiction) | omega | (simp only [zN];omega)) only [zS,zW,nrow,gI_get',simprocAttr]
  repeat refine ⟨by (omega),?_⟩
  refine hQ ?_
  refine rC [] (cmp_Less64_con _ _) ?_
  refine aED ?_
  refine aw_cond _ rfl trivial (fun ht=>?_) (fun hf=>?_)
  ·skip
   try simp at ht
   simp only [zX,simprocAttr]
   rw [show shR b q j = q from by rw [shR,if_neg (by omega)]] at k2
   refine aS 2944 (fun Q hQ=>by simp (disch:=first | (intros;contradiction) | omega | (simp only [zN];omega)) only [zS,zW,simprocAttr];exact hQ) ?_
   refine ⟨⟨(q,u,n),by simp only;exact k1,by rw [← h2,k2],by simp only;omega,by simp only;omega,by simp only;omega⟩,?_,by first | omega | (simp only;omega)⟩
   refine Le.lit [] [] _ _ ?_ ?_ ?_ ?_
   ·simp only [zL,simprocAttr]
    all_goals (try ((repeat' ((congr 1;omega)))))
   ·simp only [zL,simprocAttr]
    all_goals (try (exact drows_nrow _))
   ·simp [rlook]
   ·(intro k hk;simp [rlook];omega)
  try simp at hf
  simp only [zX]
  have hk : shR b q j = shR b (swp q j (j - 1)) (j + 1):=by rw [shR,if_pos ⟨by omega,hf⟩]
  refine aw_draw 3024 (RG.go fun Q hQ=>?_)
  simp (disch:=first | (intros;contradiction) | omega | (simp only [zN];omega)) only [zS,zW,nrow,gI_get',set_nrow,swp_fold,simprocAttr]
  repeat refine ⟨by (omega),?_⟩
  refine hQ (RG.nil ⟨by decide +kernel,?_⟩)
  simp only [zX]
  refine aS 3344 (fun Q hQ=>by simp (disch:=first | (intros;contradiction) | omega | (simp only [zN];omega)) only [zS,zW,simprocAttr];exact hQ) ?_
  refine ⟨⟨(swp q j (j - 1),j + 1),by simp only;rw [swp_len];exact k1,by rw [← k2,hk],by simp only;omega,by simp only;omega⟩,?_,by first | omega | (simp only;omega)⟩
  refine Le.lit [] [] _ _ ?_ ?_ ?_ ?_
  ·simp only [zL,simprocAttr]
   all_goals (try ((repeat' (rfl))))
  ·simp only [zL,simprocAttr]
   all_goals (try (exact drows_nrow _))
  ·simp [rlook]
  ·(intro k hk;simp [rlook];omega)
 try simp at hf
 simp only [zX]
 have hp : pisR a b m u = pisL a b m u:=by unfold pisR;rw [if_neg (by omega)]
 rw [hp] at h2
 refine aS 3424 (fun Q hQ=>by simp (disch:=first | (intros;contradiction) | omega | (simp only [zN];omega)) only [zS,zW,simprocAttr];exact hQ) ?_
 refine ⟨⟨(pisL a b m u,u,n),by simp only;exact hLl,h2,by simp only;omega,by simp only;omega,by simp only;omega⟩,?_,by first | omega | (simp only;omega)⟩
 refine Le.lit [] [] _ _ ?_ ?_ ?_ ?_
 ·simp only [zL,simprocAttr]
  all_goals (try ((repeat' ((congr 1;omega)))))
 ·simp only [zL,simprocAttr]
  all_goals (try (exact drows_nrow _))
 ·simp [rlook]
 ·(intro k hk;simp [rlook];omega)

theorem rev64_con (a b : Nat) (l : List Int) (hl : l.length≤1000000) (hab : a < b) (hb : b≤l.length) :
  Con Try.prog 96 [.c (.osl 0),I a,I b] [arrI 2 l] (.tup []) [arrI 2 (revL l a (b - 1))]:=by
 have e1 : (b : Int) - 1 = ((b - 1 : Nat) : Int):=by omega
 refine C_slices_reverseRangeOrdered_int64 nl nl ?_
 simp only [cz,A_slices_reverseRangeOrdered_int64,argL,objL,List.length_nil,List.length_cons,Nat.zero_add,zX,simprocAttr]
 refine aR 16 ?_
 refine aS 80 (fun Q hQ=>by simp (disch:=first | (intros;contradiction) | omega | (simp only [zN];omega)) only [zS,zW,e1,simprocAttr];exact hQ) ?_
 refine aw_loopK (X:={ p : List Int × Nat × Nat // p.1.length = l.length∧revL p.1 p.2.1 p.2.2 = revL l a (b - 1)∧p.2.1 < b∧p.2.2 < b }) [0] (fun p=>[(6,I p.1.2.1),(7,I p.1.2.2)]) [] (fun p=>[(0,arrI 2 p.1.1)]) (fun p=>p.1.2.2 - p.1.2.1) (⟨(l,a,b - 1),rfl,rfl,hab,by simp only;omega⟩) ?_ ?_
 ·skip
  simp only [keepS,keepE,lk_cons,List.cons_append,List.nil_append,↓reduceIte]
  refine Le.lit [] [] _ _ ?_ ?_ ?_ ?_
  ·simp only [zL,simprocAttr]
  ·simp only [zL,simprocAttr]
   all_goals (try (exact drows_nrow _))
  ·simp [rlook]
  ·(intro k hk;simp [rlook];omega)
 rintro ⟨⟨m,i,j⟩,h1,h2,h3,h4⟩
 simp only [keepS,keepE,lk_cons,List.cons_append,List.nil_append,↓reduceIte]
 simp only [zX]
 simp only at h1 h2 h3 h4
 refine aR 160 ?_
 refine aw_cond _ rfl trivial (fun ht=>?_) (fun hf=>?_)
 ·skip
  try simp at ht
  simp only [zX]
  have hk : revL m i j = revL (swp m i j) (i + 1) (j - 1):=by rw [revL,if_pos (by omega)]
  refine aw_draw 240 (RG.go fun Q hQ=>?_)
  simp (disch:=first | (intros;contradiction) | omega | (simp only [zN];omega)) only [zS,zW,nrow,gI_get',set_nrow,swp_fold,simprocAttr]
  repeat refine ⟨by (omega),?_⟩
  refine hQ (RG.nil ⟨by decide +kernel,?_⟩)
  simp only [zX]
  refine aS 528 (fun Q hQ=>by simp (disch:=first | (intros;contradiction) | omega | (simp only [zN];omega)) only [zS,zW,simprocAttr];exact hQ) ?_
  refine aw_reg 608 (RG.go fun Q hQ=>?_)
  simp (disch:=first | (intros;contradiction) | omega | (simp only [zN];omega)) only [zS,zW,simprocAttr]
  refine hQ (RG.nil ?_)
  simp only [zX]
  refine ⟨⟨(swp m i j,i + 1,j - 1),by simp only;rw [swp_len];exact h1,by rw [← h2,hk],by simp only;omega,by simp only;omega⟩,?_,by first | omega | (simp only;omega)⟩
  refine Le.lit [] [] _ _ ?_ ?_ ?_ ?_
  ·simp only [zL,simprocAttr]
   all_goals (try ((repeat' (first | rfl | (congr 1;omega) | refine ⟨?_,?_⟩))))
  ·simp only [zL,simprocAttr]
   all_goals (try (exact drows_nrow _))
  ·simp [rlook]
  ·(intro k hk;simp [rlook];omega)
 try simp at hf
 simp only [zX,↓reduceIte]
 rw [← h2,revL,if_neg (by omega)]
 refine Fin.objs [] [] (.inl rfl) rfl (by exact trivial) ?_ ?_ (by simp [objL,rlook]) (by (simp [objL,rlook];done))
 ·simp only [zL]
 ·simp only [zL,simprocAttr]
  all_goals (try (exact drows_nrow _))

theorem ord264_con (l : List Int) (a b s : Nat) (hl : l.length≤1000000) (ha : a < l.length) (hb : b < l.length) (hs : s≤1000) :
  Con Try.prog 111 [.c (.osl 0),I a,I b,.c (.bp 1 0)] [arrI 2 l,.box [.v (.int .i64 s)]] (.tup [I (ord2 l a b s).1,I (ord2 l a b s).2.1]) [arrI 2 l,.box [.v (.int .i64 (ord2 l a b s).2.2)]]:=by
 refine C_slices_order2Ordered_int64 nl nl ?_
 simp only [cz,A_slices_order2Ordered_int64,argL,objL,List.length_nil,List.length_cons,Nat.zero_add,zX,simprocAttr]
 refine aR 16 ?_
 refine aw_draw 80 (RG.go fun Q hQ=>?_)
 simp (disch:=first | (intros;contradiction) | omega | (simp only [zN];omega)) only [zS,zW,nrow,gI_get',simprocAttr]
 repeat refine ⟨by (omega),?_⟩
 refine hQ ?_
 refine rC [] (cmp_Less64_con _ _) ?_
 refine aED ?_
 refine aw_cond _ rfl trivial (fun ht=>?_) (fun hf=>?_)
 ·skip
  try simp at ht
  simp only [zX]
  rw [show ord2 l a b s = (b,a,s + 1) from by unfold ord2;rw [if_pos ht]]
  refine aS 256 (fun Q hQ=>by simp (disch:=first | (intros;contradiction) | omega | (simp only [zN];omega)) only [zS,zW,simprocAttr];exact hQ) ?_
  refine aR 384 ?_
  refine Fin.objs [] [] (.inr rfl) rfl (by exact trivial) ?_ ?_ (by simp [objL,rlook]) (by (intro k hk;simp [objL,rlook];omega))
  ·simp only [zL,simprocAttr]
  ·simp only [zL,simprocAttr]
   all_goals (try ((repeat' (first | (first | exact drows_nrow _ | (simp [C.isD];done)) | refine ⟨?_,?_⟩))))
 try simp at hf
 simp only [zX]
 rw [show ord2 l a b s = (a,b,s) from by unfold ord2;rw [if_neg (by omega)]]
 refine aR 480 ?_
 refine Fin.objs [] [] (.inr rfl) rfl (by exact trivial) ?_ ?_ (by simp [objL,rlook]) (by (intro k hk;simp [objL,rlook];omega))
 ·simp only [zL,simprocAttr]
 ·simp only [zL,simprocAttr]
  all_goals (try (exact drows_nrow _))

theorem med64_con (l : List Int) (a b c s : Nat) (hl : l.length≤1000000) (ha : a < l.length) (hb : b < l.length) (hc : c < l.length) (hs : s≤900) :
  Con Try.prog 109 [.c (.osl 0),I a,I b,I c,.c (.bp 1 0)] [arrI 2 l,.box [.v (.int .i64 s)]] (I (med3 l a b c s).1) [arrI 2 l,.box [.v (.int .i64 (med3 l a b c s).2)]]:=by
 obtain ⟨x,hx⟩ : ∃ x,x = ord2 l a b s:=⟨_,rfl⟩
 obtain ⟨y,hy⟩ : ∃ y,y = ord2 l x.2.1 c x.2.2:=⟨_,rfl⟩
 obtain ⟨z,hz⟩ : ∃ z,z = ord2 l x.1 y.1 y.2.2:=⟨_,rfl⟩
 have x1:=ord2_in l a b s (p:=fun k=>k < l.length) ha hb
 have x2:=ord2_s l a b s
 rw [← hx] at x1 x2
 have y1:=ord2_in l x.2.1 c x.2.2 (p:=fun k=>k < l.length) x1.2 hc
 have y2:=ord2_s l x.2.1 c x.2.2
 rw [← hy] at y1 y2
 have hm : med3 l a b c s = (z.2.1,z.2.2):=by unfold med3;simp only [← hx,← hy,← hz]
 rw [hm]
 have c1:=ord264_con l a b s hl ha hb (by omega)
 have c2:=ord264_con l x.2.1 c x.2.2 hl x1.2 hc (by omega)
 have c3:=ord264_con l x.1 y.1 y.2.2 hl x1.1 y1.1 (by omega)
 rw [← hx] at c1;rw [← hy] at c2;rw [← hz] at c3
 refine C_slices_medianOrdered_int64 nl nl ?_
 simp only [cz,A_slices_medianOrdered_int64,argL,objL,List.length_nil,List.length_cons,Nat.zero_add,zX,simprocAttr]
 refine aR 16 ?_
 refine aB 64 ?_
 refine rO [0,1] [] (c1) ?_
 refine aE ?_
 refine aB 256 ?_
 refine rO [0,1] [] (c2) ?_
 refine aE ?_
 refine aB 448 ?_
 refine rO [0,1] [] (c3) ?_
 refine aE ?_
 refine aR 640 ?_
 refine Fin.objs [] [] (.inr rfl) rfl (by exact trivial) ?_ ?_ (by simp [objL,rlook]) (by (intro k hk;simp [objL,rlook];omega))
 ·simp only [zL,simprocAttr]
 ·simp only [zL,simprocAttr]
  all_goals (try (exact drows_nrow _))

theorem medA64_con (l : List Int) (a s : Nat) (hl : l.length≤1000000) (h0 : 0 < a) (ha : a + 1 < l.length) (hs : s≤900) :
  Con Try.prog 108 [.c (.osl 0),I a,.c (.bp 1 0)] [arrI 2 l,.box [.v (.int .i64 s)]] (I (med3 l (a - 1) a (a + 1) s).1) [arrI 2 l,.box [.v (.int .i64 (med3 l (a - 1) a (a + 1) s).2)]]:=by
 have c1:=med64_con l (a - 1) a (a + 1) s hl (by omega) (by omega) ha hs
 have e1 : (a : Int) - 1 = ((a - 1 : Nat) : Int):=by omega
 have e2 : (a : Int) + 1 = ((a + 1 : Nat) : Int):=by omega
 refine C_slices_medianAdjacentOrdered_int64 nl nl ?_
 simp only [cz,A_slices_medianAdjacentOrdered_int64,argL,objL,List.length_nil,List.length_cons,Nat.zero_add,zX,simprocAttr]
 refine aR 16 ?_
 refine aBs 64 (fun Q hQ=>by simp (disch:=first | (intros;contradiction) | omega | (simp only [zN];omega)) only [zS,zW,e1,e2,simprocAttr];exact hQ) ?_
 refine rO [0,1] [] (c1) ?_
 refine aE ?_
 refine Fin.objs [] [] (.inr rfl) rfl (by exact trivial) ?_ ?_ (by simp [objL,rlook]) (by (intro k hk;simp [objL,rlook];omega))
 ·simp only [zL,simprocAttr]
 ·simp only [zL,simprocAttr]
  all_goals (try (exact drows_nrow _))

def cpF (l : List Int) (a b : Nat) : Nat × Nat :=
 if 50≤b - a then
  let x:=med3 l (a + (b - a) / 4 - 1) (a + (b - a) / 4) (a + (b - a) / 4 + 1) 0
  let y:=med3 l (a + (b - a) / 4 * 2 - 1) (a + (b - a) / 4 * 2) (a + (b - a) / 4 * 2 + 1) x.2
  let z:=med3 l (a + (b - a) / 4 * 3 - 1) (a + (b - a) / 4 * 3) (a + (b - a) / 4 * 3 + 1) y.2
  med3 l x.1 y.1 z.1 z.2
 else med3 l (a + (b - a) / 4) (a + (b - a) / 4 * 2) (a + (b - a) / 4 * 3) 0
def hintF (s : Nat) : Int:=if s = 0 then 1 else if s = 12 then 2 else 0
theorem cpF_in {l : List Int} {a b : Nat} (h : 8≤b - a) (hb : b≤l.length) : a≤(cpF l a b).1∧(cpF l a b).1 < b:=by
 unfold cpF
 split
 ·exact med3_in l _ _ _ _ (p:=fun k=>a≤k∧k < b) (med3_in l _ _ _ _ (p:=fun k=>a≤k∧k < b) (by omega) (by omega) (by omega)) (med3_in l _ _ _ _ (p:=fun k=>a≤k∧k < b) (by omega) (by omega) (by omega)) (med3_in l _ _ _ _ (p:=fun k=>a≤k∧k < b) (by omega) (by omega) (by omega))
 ·exact med3_in l _ _ _ _ (p:=fun k=>a≤k∧k < b) (by omega) (by omega) (by omega)

end Go.Abs

namespace Go.Abs
open Go Go.Proofs
set_option maxRecDepth 100000
set_option linter.unusedSimpArgs false
set_option maxHeartbeats 4000000

theorem choose64_con (a b : Nat) (l : List Int) (hl : l.length≤1000000) (hab : 8≤b - a) (hb : b≤l.length) :
  Con Try.prog 95 [.c (.osl 0),I a,I b] [arrI 2 l] (.tup [I (cpF l a b).1,I (hintF (cpF l a b).2)]) [arrI 2 l]:=by
 obtain ⟨n,hn⟩ : ∃ n,n = b - a:=⟨_,rfl⟩
 have e1 : (b : Int) - a = (n : Int):=by omega
 have e2 : (n : Int) / 4 = ((n / 4 : Nat) : Int):=by omega
 have e3 : ((n / 4 : Nat) : Int) * 1 = ((n / 4 : Nat) : Int):=by omega
 have e4 : ((n / 4 : Nat) : Int) * 2 = ((n / 4 * 2 : Nat) : Int):=by omega
 have e5 : ((n / 4 : Nat) : Int) * 3 = ((n / 4 * 3 : Nat) : Int):=by omega
 have e6 : (a : Int) + ((n / 4 : Nat) : Int) = ((a + n / 4 : Nat) : Int):=by omega
 have e7 : (a : Int) + ((n / 4 * 2 : Nat) : Int) = ((a + n / 4 * 2 : Nat) : Int):=by omega
 have e8 : (a : Int) + ((n / 4 * 3 : Nat) : Int) = ((a + n / 4 * 3 : Nat) : Int):=by omega
 obtain ⟨r,hr⟩ : ∃ r,r = cpF l a b:=⟨_,rfl⟩
 rw [← hr]
 unfold cpF at hr
 rw [← hn] at hr
 refine C_slices_choosePivotOrdered_int64 nl nl ?_
 simp only [cz,A_slices_choosePivotOrdered_int64,argL,objL,List.length_nil,List.length_cons,Nat.zero_add,zX,simprocAttr]
 refine aR 16 ?_
 refine aS 80 (fun Q hQ=>by simp (disch:=first | (intros;contradiction) | omega | (simp only [zN];omega)) only [zS,zW,e1,simprocAttr];exact hQ) ?_
 refine aR 176 ?_
 refine aw_reg 224 (RG.go fun Q hQ=>?_)
 simp (disch:=first | (intros;contradiction) | omega | (simp only [zN];omega)) only [zS,zW,e2,e3,e6,simprocAttr]
 repeat refine ⟨by (omega),?_⟩
 refine hQ (RG.nil ?_)
 simp only [zX]
 refine aw_reg 352 (RG.go fun Q hQ=>?_)
 simp (disch:=first | (intros;contradiction) | omega | (simp only [zN];omega)) only [zS,zW,e2,e4,e7,simprocAttr]
 repeat refine ⟨by (omega),?_⟩
 refine hQ (RG.nil ?_)
 simp only [zX]
 refine aw_reg 480 (RG.go fun Q hQ=>?_)
 simp (disch:=first | (intros;contradiction) | omega | (simp only [zN];omega)) only [zS,zW,e2,e5,e8,simprocAttr]
 repeat refine ⟨by (omega),?_⟩
 refine hQ (RG.nil ?_)
 simp only [zX]
 refine aR 608 ?_
 refine aw_cond _ rfl trivial (fun ht=>?_) (fun hf=>by simp at hf;omega)
 simp only [zX]
 refine aR 672 ?_
 refine aw_cond _ rfl trivial (fun ht=>?_) (fun hf=>?_)
 ·skip
  try simp at ht
  simp only [zX]
  rw [if_pos (by omega)] at hr
  obtain ⟨x,hx⟩ : ∃ x,x = med3 l (a + n / 4 - 1) (a + n / 4) (a + n / 4 + 1) 0:=⟨_,rfl⟩
  obtain ⟨y,hy⟩ : ∃ y,y = med3 l (a + n / 4 * 2 - 1) (a + n / 4 * 2) (a + n / 4 * 2 + 1) x.2:=⟨_,rfl⟩
  obtain ⟨z,hz⟩ : ∃ z,z = med3 l (a + n / 4 * 3 - 1) (a + n / 4 * 3) (a + n / 4 * 3 + 1) y.2:=⟨_,rfl⟩
  simp only [← hx,← hy,← hz] at hr
  have sx:=med3_s l (a + n / 4 - 1) (a + n / 4) (a + n / 4 + 1) 0
  have sy:=med3_s l (a + n / 4 * 2 - 1) (a + n / 4 * 2) (a + n / 4 * 2 + 1) x.2
  have sz:=med3_s l (a + n / 4 * 3 - 1) (a + n / 4 * 3) (a + n / 4 * 3 + 1) y.2
  have ix:=med3_in l (a + n / 4 - 1) (a + n / 4) (a + n / 4 + 1) 0 (p:=fun k=>a≤k∧k < b) (by omega) (by omega) (by omega)
  have iy:=med3_in l (a + n / 4 * 2 - 1) (a + n / 4 * 2) (a + n / 4 * 2 + 1) x.2 (p:=fun k=>a≤k∧k < b) (by omega) (by omega) (by omega)
  have iz:=med3_in l (a + n / 4 * 3 - 1) (a + n / 4 * 3) (a + n / 4 * 3 + 1) y.2 (p:=fun k=>a≤k∧k < b) (by omega) (by omega) (by omega)
  rw [← hx] at sx ix;rw [← hy] at sy iy;rw [← hz] at sz iz
  have cx:=medA64_con l (a + n / 4) 0 hl (by omega) (by omega) (by omega)
  have cy:=medA64_con l (a + n / 4 * 2) x.2 hl (by omega) (by omega) (by omega)
  have cz:=medA64_con l (a + n / 4 * 3) y.2 hl (by omega) (by omega) (by omega)
  rw [← hx] at cx;rw [← hy] at cy;rw [← hz] at cz
  have cr:=med64_con l x.1 y.1 z.1 z.2 hl (by omega) (by omega) (by omega) (by omega)
  rw [← hr] at cr
  refine aB 736 ?_
  refine rO [0,176] [] (cx) ?_
  refine aE ?_
  refine aB 832 ?_
  refine rO [0,176] [] (cy) ?_
  refine aE ?_
  refine aB 928 ?_
  refine rO [0,176] [] (cz) ?_
  refine aE ?_
  refine aB 1024 ?_
  refine rO [0,176] [] (cr) ?_
  refine aE ?_
  have hsr : r.2≤12:=by rw [hr];have:=med3_s l x.1 y.1 z.1 z.2;omega
  refine aR 1152 ?_
  refine aR 1200 ?_
  refine aw_cond _ rfl trivial (fun ht=>?_) (fun hf=>?_)
  ·skip
   try simp at ht
   simp only [zX]
   rw [show hintF r.2 = 1 from by unfold hintF;rw [if_pos (by omega)]]
   refine aR 1264 ?_
   refine Fin.objs [] [] (.inr rfl) rfl (by exact trivial) ?_ ?_ (by simp [objL,rlook]) (by (simp [objL,rlook];done))
   ·simp only [zL,simprocAttr]
   ·simp only [zL,simprocAttr]
    all_goals (try (exact drows_nrow _))
  try simp at hf
  simp only [zX]
  refine aR 1344 ?_
  refine aw_cond _ rfl trivial (fun ht=>?_) (fun hf=>?_)
  ·skip
   try simp at ht
   simp only [zX]
   rw [show hintF r.2 = 2 from by unfold hintF;rw [if_neg (by omega),if_pos (by omega)]]
   refine aR 1408 ?_
   refine Fin.objs [] [] (.inr rfl) rfl (by exact trivial) ?_ ?_ (by simp [objL,rlook]) (by (simp [objL,rlook];done))
   ·simp only [zL,simprocAttr]
   ·simp only [zL,simprocAttr]
    all_goals (try (exact drows_nrow _))
  try simp at hf
  simp only [zX]
  rw [show hintF r.2 = 0 from by unfold hintF;rw [if_neg (by omega),if_neg (by omega)]]
  refine aR 1488 ?_
  refine Fin.objs [] [] (.inr rfl) rfl (by exact trivial) ?_ ?_ (by simp [objL,rlook]) (by (simp [objL,rlook];done))
  ·simp only [zL,simprocAttr]
  ·simp only [zL,simprocAttr]
   all_goals (try (exact drows_nrow _))
 try simp at hf
 simp only [zX]
 rw [if_neg (by omega)] at hr
 have cr:=med64_con l (a + n / 4) (a + n / 4 * 2) (a + n / 4 * 3) 0 hl (by omega) (by omega) (by omega) (by omega)
 rw [← hr] at cr
 refine aB 1568 ?_
 refine rO [0,176] [] (cr) ?_
 refine aE ?_
 refine aR 1696 ?_
 refine aR 1744 ?_
 refine aw_cond _ rfl trivial (fun ht=>?_) (fun hf=>?_)
 ·skip
  try simp at ht
  simp only [zX]
  rw [show hintF r.2 = 1 from by unfold hintF;rw [if_pos (by omega)]]
  refine aR 1808 ?_
  refine Fin.objs [] [] (.inr rfl) rfl (by exact trivial) ?_ ?_ (by simp [objL,rlook]) (by (simp [objL,rlook];done))
  ·simp only [zL,simprocAttr]
  ·simp only [zL,simprocAttr]
   all_goals (try (exact drows_nrow _))
 try simp at hf
 simp only [zX]
 refine aR 1888 ?_
 refine aw_cond _ rfl trivial (fun ht=>?_) (fun hf=>?_)
 ·skip
  try simp at ht
  simp only [zX]
  rw [show hintF r.2 = 2 from by unfold hintF;rw [if_neg (by omega),if_pos (by omega)]]
  refine aR 1952 ?_
  refine Fin.objs [] [] (.inr rfl) rfl (by exact trivial) ?_ ?_ (by simp [objL,rlook]) (by (simp [objL,rlook];done))
  ·simp only [zL,simprocAttr]
  ·simp only [zL,simprocAttr]
   all_goals (try (exact drows_nrow _))
 try simp at hf
 simp only [zX]
 rw [show hintF r.2 = 0 from by unfold hintF;rw [if_neg (by omega),if_neg (by omega)]]
 refine aR 2032 ?_
 refine Fin.objs [] [] (.inr rfl) rfl (by exact trivial) ?_ ?_ (by simp [objL,rlook]) (by (simp [objL,rlook];done))
 ·simp only [zL,simprocAttr]
 ·simp only [zL,simprocAttr]
  all_goals (try (exact drows_nrow _))

def tab8 : ByteArray:=⟨#[0,1,2,2,3,3,3,3,4,4,4,4,4,4,4,4,5,5,5,5,5,5,5,5,5,5,5,5,5,5,5,5,6,6,6,6,6,6,6,6,6,6,6,6,6,6,6,6,6,6,6,6,6,6,6,6,6,6,6,6,6,6,6,6,7,7,7,7,7,7,7,7,7,7,7,7,7,7,7,7,7,7,7,7,7,7,7,7,7,7,7,7,7,7,7,7,7,7,7,7,7,7,7,7,7,7,7,7,7,7,7,7,7,7,7,7,7,7,7,7,7,7,7,7,7,7,7,7,8,8,8,8,8,8,8,8,8,8,8,8,8,8,8,8,8,8,8,8,8,8,8,8,8,8,8,8,8,8,8,8,8,8,8,8,8,8,8,8,8,8,8,8,8,8,8,8,8,8,8,8,8,8,8,8,8,8,8,8,8,8,8,8,8,8,8,8,8,8,8,8,8,8,8,8,8,8,8,8,8,8,8,8,8,8,8,8,8,8,8,8,8,8,8,8,8,8,8,8,8,8,8,8,8,8,8,8,8,8,8,8,8,8,8,8,8,8,8,8,8,8,8,8,8,8,8,8]⟩
theorem tab8_def : (⟨#[0,1,2,2,3,3,3,3,4,4,4,4,4,4,4,4,5,5,5,5,5,5,5,5,5,5,5,5,5,5,5,5,6,6,6,6,6,6,6,6,6,6,6,6,6,6,6,6,6,6,6,6,6,6,6,6,6,6,6,6,6,6,6,6,7,7,7,7,7,7,7,7,7,7,7,7,7,7,7,7,7,7,7,7,7,7,7,7,7,7,7,7,7,7,7,7,7,7,7,7,7,7,7,7,7,7,7,7,7,7,7,7,7,7,7,7,7,7,7,7,7,7,7,7,7,7,7,7,8,8,8,8,8,8,8,8,8,8,8,8,8,8,8,8,8,8,8,8,8,8,8,8,8,8,8,8,8,8,8,8,8,8,8,8,8,8,8,8,8,8,8,8,8,8,8,8,8,8,8,8,8,8,8,8,8,8,8,8,8,8,8,8,8,8,8,8,8,8,8,8,8,8,8,8,8,8,8,8,8,8,8,8,8,8,8,8,8,8,8,8,8,8,8,8,8,8,8,8,8,8,8,8,8,8,8,8,8,8,8,8,8,8,8,8,8,8,8,8,8,8,8,8,8,8,8,8]⟩ : ByteArray) = tab8:=rfl
def bitLen (n : Nat) : Nat:=if n = 0 then 0 else Nat.log2 n + 1
theorem tab8_eq : ∀ x : Fin 256,((tab8.data[x.1]?).getD 0).toNat = bitLen x.1:=by decide +kernel
theorem tab8_get {x : Nat} (h : x < 256) : ((tab8.data[x]?).getD 0).toNat = bitLen x:=tab8_eq ⟨x,h⟩
theorem tab8_size : tab8.size = 256:=by decide +kernel
theorem bitLen_lt (n : Nat) : n < 2 ^ bitLen n:=by
 unfold bitLen
 split
 ·omega
 ·exact Nat.lt_log2_self
theorem bitLen_le {n : Nat} (h : n≠0) : 2 ^ bitLen n≤2 * n:=by
 unfold bitLen
 rw [if_neg h,Nat.pow_succ]
 have:=Nat.log2_self_le h
 omega
theorem bitLen_small {n k : Nat} (h : n < 2 ^ k) : bitLen n≤k:=by
 unfold bitLen
 split
 ·omega
 ·rename_i h0
  have:=(Nat.log2_lt h0).2 h
  omega
theorem bitLen_256 {n : Nat} (h : 256≤n) : bitLen n = 8 + bitLen (n / 256):=by
 unfold bitLen
 rw [if_neg (by omega),if_neg (by omega)]
 have h1:=Nat.log2_self_le (show n≠0 by omega)
 have h2 : n < 2 ^ (Nat.log2 n + 1):=Nat.lt_log2_self
 have h3:=Nat.log2_self_le (show n / 256≠0 by omega)
 have h4 : n / 256 < 2 ^ (Nat.log2 (n / 256) + 1):=Nat.lt_log2_self
 have h5 : n < 2 ^ (8 + Nat.log2 (n / 256) + 1):=by
  rw [show 8 + Nat.log2 (n / 256) + 1 = 8 + (Nat.log2 (n / 256) + 1) by omega,Nat.pow_add]
  omega
 have h6 : 2 ^ (8 + Nat.log2 (n / 256))≤n:=by
  rw [Nat.pow_add]
  omega
 have h7 : Nat.log2 n < 8 + Nat.log2 (n / 256) + 1:=(Nat.log2_lt (by omega)).2 h5
 have h8 : ¬ Nat.log2 n < 8 + Nat.log2 (n / 256):=fun h=>by
  have:=(Nat.log2_lt (by omega)).1 h;omega
 omega

theorem len64_con (n : Nat) (hn : n < 65536) : Con Try.prog 102 [.c (.v (.int .u64 n))] [] (I (bitLen n)) []:=by
 have e1 : (n : Int).fdiv (2 ^ min 8 IntKind.u64.bits) = ((n / 256 : Nat) : Int):=by
  rw [show (2 : Int) ^ min 8 IntKind.u64.bits = 256 from rfl,Int.fdiv_eq_ediv_of_nonneg _ (by omega)];omega
 have hs:=tab8_size
 refine C_math_bits_Len64 nl nl ?_
 simp only [cz,A_math_bits_Len64,argL,objL,List.length_nil,zX]
 simp only [tab8_def]
 refine aR 16 ?_
 refine aR 64 ?_
 refine aw_cond _ rfl trivial (fun ht=>by simp at ht;omega) (fun hf=>?_)
 simp only [zX]
 refine aR 128 ?_
 refine aw_cond _ rfl trivial (fun ht=>by simp at ht;omega) (fun hf=>?_)
 simp only [zX]
 refine aR 192 ?_
 refine aw_cond _ rfl trivial (fun ht=>?_) (fun hf=>?_)
 ·skip
  try simp at ht
  simp only [zX]
  have hb:=bitLen_small (n:=n / 256) (k:=8) (by omega)
  refine aS 256 (fun Q hQ=>by simp (disch:=intros;contradiction) only [zS,e1,simprocAttr];exact hQ) ?_
  refine aS 336 (fun Q hQ=>by simp (disch:=first | (intros;contradiction) | omega | (simp only [zN];omega)) only [zS,zW,simprocAttr];exact hQ) ?_
  refine aS 416 (fun Q hQ=>by simp (disch:=first | (intros;contradiction) | omega | (simp only [zN];omega)) only [zS,zW,tab8_get,hs,simprocAttr];repeat refine ⟨by (omega),?_⟩;exact hQ) ?_
  refine Fin.i (.inr rfl) rfl trivial ?_
  rw [bitLen_256 (n:=n) (by omega)];omega
 try simp at hf
 simp only [zX]
 have hb:=bitLen_small (n:=n) (k:=8) (by omega)
 refine aS 560 (fun Q hQ=>by simp (disch:=first | (intros;contradiction) | omega | (simp only [zN];omega)) only [zS,zW,tab8_get,hs,simprocAttr];repeat refine ⟨by (omega),?_⟩;exact hQ) ?_
 refine Fin.i (.inr rfl) rfl trivial ?_
 omega

theorem len_con (n : Nat) (hn : n < 65536) : Con Try.prog 81 [.c (.v (.int .u64 n))] [] (I (bitLen n)) []:=by
 refine C_math_bits_Len nl nl ?_
 simp only [cz,A_math_bits_Len,argL,objL,List.length_nil,zX]
 refine aR 16 ?_
 refine aF ?_
 refine aB 64 ?_
 refine rC [] (len64_con n hn) ?_
 refine aE ?_
 exact Fin.scalar (.inr rfl) rfl trivial rfl trivial

theorem pow2_con (n : Nat) (hn : n < 65536) : Con Try.prog 106 [I n] [] (.c (.v (.int .u64 (2 ^ bitLen n : Nat)))) []:=by
 have hb:=bitLen_small (n:=n) (k:=16) (by omega)
 have hp : 2 ^ bitLen n≤65536:=by have:=Nat.pow_le_pow_right (n:=2) (by omega) hb;simpa using this
 have e2 : IntKind.u64.wrap (1 * 2 ^ (min (bitLen n) IntKind.u64.bits)) = ((2 ^ bitLen n : Nat) : Int):=by
  rw [show IntKind.u64.bits = 64 from rfl,Nat.min_eq_left (by omega)]
  have h1 : (1 : Int) * 2 ^ bitLen n = ((2 ^ bitLen n : Nat) : Int):=by simp
  rw [h1,w_u64]
  generalize 2 ^ bitLen n = q at hp
  omega
 refine C_slices_nextPowerOfTwo nl nl ?_
 simp only [cz,A_slices_nextPowerOfTwo,argL,objL,List.length_nil,zX]
 refine aR 16 ?_
 refine aBs 64 (fun Q hQ=>by simp (disch:=first | (intros;contradiction) | omega | (simp only [zN];omega)) only [zS,zW,simprocAttr];exact hQ) ?_
 refine rC [] (len_con n hn) ?_
 refine aEs (fun Q hQ=>by simp (disch:=intros;contradiction) only [zS,zW,e2,simprocAttr];repeat refine ⟨by (omega),?_⟩;exact hQ) ?_
 exact Fin.scalar (.inr rfl) rfl trivial rfl trivial

def nx1 (r : Int) : Int:=bitsI .xor .u64 r (IntKind.u64.wrap (r * 2 ^ min 13 IntKind.u64.bits))
def nx2 (r : Int) : Int:=bitsI .xor .u64 (nx1 r) ((nx1 r).fdiv (2 ^ min 7 IntKind.u64.bits))
def nx3 (r : Int) : Int:=bitsI .xor .u64 (nx2 r) (IntKind.u64.wrap (nx2 r * 2 ^ min 17 IntKind.u64.bits))

theorem next_con (r : Int) : Con Try.prog 107 [.c (.bp 0 0)] [.box [.v (.int .u64 r)]] (.c (.v (.int .u64 (nx3 r)))) [.box [.v (.int .u64 (nx3 r))]]:=by
 refine C_slices_xorshift_Next nl nl ?_
 simp only [cz,A_slices_xorshift_Next,argL,objL,List.length_nil,List.length_cons,Nat.zero_add,zX]
 refine aR 16 ?_
 refine aD 64 ?_
 refine aD 256 ?_
 refine aD 448 ?_
 refine aR 640 ?_
 refine Fin.objs [] [] (.inr rfl) rfl (by exact trivial) ?_ ?_ (by simp [objL,rlook]) (by (simp [objL,rlook];done))
 ·simp only [zL,simprocAttr]
  all_goals (try ((repeat' (rfl))))
 ·simp only [zL,↓reduceIte]
  all_goals (try ((repeat' (rfl))))

end Go.Abs

namespace Go.Abs
open Go Go.Proofs
set_option maxRecDepth 100000
set_option linter.unusedSimpArgs false
set_option maxHeartbeats 8000000

theorem and_le {x m : Int} (h : 0≤m) (h' : m < 18446744073709551616) : 0≤bitsI .and .u64 x m∧bitsI .and .u64 x m≤m:=by
 have h1 : (BitVec.ofInt 64 x &&& BitVec.ofInt 64 m).toNat≤m.toNat:=by
  rw [BitVec.toNat_and]
  have : (BitVec.ofInt 64 m).toNat = m.toNat:=by simp [BitVec.toNat_ofInt];omega
  rw [this]
  exact Nat.and_le_right
 have h2 : bitsI .and .u64 x m = IntKind.u64.wrap (((BitVec.ofInt 64 x &&& BitVec.ofInt 64 m).toNat : Nat) : Int):=rfl
 rw [h2,wc_u64 (by omega) (by omega)]
 omega

def othA (n : Nat) (r : Int) : Int:=bitsI .and .u64 r (((2 ^ bitLen n : Nat) : Int) - 1)
def oth (n : Nat) (r : Int) : Nat:=if (n : Int)≤othA n r then (othA n r).toNat - n else (othA n r).toNat
def brk (a n : Nat) : Nat→List Int→Nat→Int→List Int
 | 0,l,_,_=>l
 | k + 1,l,i,r=>brk a n k (swp l i (a + oth n (nx3 r))) (i + 1) (nx3 r)
theorem othA_in {n : Nat} (h0 : 8≤n) (hn : n < 65536) (r : Int) : 0≤othA n r∧othA n r < 2 * n:=by
 have h1:=bitLen_le (n:=n) (by omega)
 have h2:=bitLen_lt n
 generalize hq : 2 ^ bitLen n = q at h1 h2
 have:=and_le (x:=r) (m:=(q : Int) - 1) (by omega) (by omega)
 unfold othA
 rw [hq]
 omega
theorem oth_in {n : Nat} (h0 : 8≤n) (hn : n < 65536) (r : Int) : oth n r < n:=by
 have:=othA_in h0 hn r
 unfold oth
 split <;> omega
theorem brk_PO {a n b : Nat} (h0 : 8≤n) (hn : n < 65536) (hb : b = a + n) : ∀ (k : Nat) (l : List Int) (i : Nat) (r : Int),b≤l.length→a≤i→i + k≤b→PO a b l (brk a n k l i r)
 | 0,l,i,r,_,_,_=>PO.refl _ _ _
 | k + 1,l,i,r,hl,hi,hk=>by
  have ho:=oth_in h0 hn (nx3 r)
  exact (PO.swp hl hi (by omega) (by omega) (by omega)).trans (brk_PO h0 hn hb k _ (i + 1) (nx3 r) (by rw [swp_len];exact hl) (by omega) (by omega))

theorem break64_con (a b : Nat) (l : List Int) (hl : l.length≤60000) (hab : 8≤b - a) (hb : b≤l.length) :
  Con Try.prog 94 [.c (.osl 0),I a,I b] [arrI 2 l] (.tup []) [arrI 2 (brk a (b - a) 3 l (a + (b - a) / 4 * 2 - 1) (b - a : Nat))]:=by
 obtain ⟨n,hn⟩ : ∃ n,n = b - a:=⟨_,rfl⟩
 rw [← hn]
 have e1 : (b : Int) - a = (n : Int):=by omega
 have e2 : (n : Int) / 4 = ((n / 4 : Nat) : Int):=by omega
 have e4 : ((n / 4 : Nat) : Int) * 2 = ((n / 4 * 2 : Nat) : Int):=by omega
 have e7 : (a : Int) + ((n / 4 * 2 : Nat) : Int) = ((a + n / 4 * 2 : Nat) : Int):=by omega
 obtain ⟨c,hc⟩ : ∃ c,c + 1 = a + n / 4 * 2:=⟨a + n / 4 * 2 - 1,by omega⟩
 have e8 : ((a + n / 4 * 2 : Nat) : Int) - 1 = (c : Int):=by omega
 have e9 : ((a + n / 4 * 2 : Nat) : Int) + 1 = (c : Int) + 2:=by omega
 rw [show a + n / 4 * 2 - 1 = c by omega]
 have h1:=bitLen_le (n:=n) (by omega)
 have h2:=bitLen_lt n
 have h3 : ∀ r,bitsI .and .u64 r (((2 ^ bitLen n : Nat) : Int) - 1) = othA n r:=fun r=>rfl
 obtain ⟨R,hR⟩ : ∃ R,R = brk a n 3 l c n:=⟨_,rfl⟩
 rw [← hR]
 have cP:=pow2_con n (by omega)
 generalize 2 ^ bitLen n = q at h1 h2 h3 cP
 refine C_slices_breakPatternsOrdered_int64 nl nl ?_
 simp only [cz,A_slices_breakPatternsOrdered_int64,argL,objL,List.length_nil,List.length_cons,Nat.zero_add,zX,simprocAttr]
 refine aS 16 (fun Q hQ=>by simp (disch:=first | (intros;contradiction) | omega | (simp only [zN];omega)) only [zS,zW,e1,simprocAttr];exact hQ) ?_
 refine aR 112 ?_
 refine aw_cond _ rfl trivial (fun ht=>?_) (fun hf=>by simp at hf;omega)
 simp only [zX]
 refine aS 176 (fun Q hQ=>by simp (disch:=first | (intros;contradiction) | omega | (simp only [zN];omega)) only [zS,zW,simprocAttr];exact hQ) ?_
 refine aB 272 ?_
 refine rC [] (cP) ?_
 refine aE ?_
 refine aw_reg 352 (RG.go fun Q hQ=>?_)
 simp (disch:=first | (intros;contradiction) | omega | (simp only [zN];omega)) only [zS,zW,e2,e4,e7,e8,simprocAttr]
 repeat refine ⟨by (omega),?_⟩
 refine hQ (RG.nil ?_)
 simp only [zX]
 refine aw_loopK (X:={ p : List Int × Nat × Int // p.1.length = l.length∧p.2.1≤3∧brk a n p.2.1 p.1 (c + 3 - p.2.1) p.2.2 = R }) [0,1,6,7,8] (fun p=>[(9,I (c + 3 - p.1.2.1 : Nat))]) [] (fun p=>[(0,arrI 2 p.1.1),(208,.box [.v (.int .u64 p.1.2.2)])]) (fun p=>p.1.2.1) (⟨(l,3,n),rfl,by simp only;omega,hR.symm⟩) ?_ ?_
 ·skip
  simp only [keepS,keepE,lk_cons,List.cons_append,List.nil_append,simprocAttr]
  refine Le.lit [] [] _ _ ?_ ?_ ?_ ?_
  ·simp only [zL,simprocAttr]
   all_goals (try ((repeat' (rfl))))
  ·simp only [zL,simprocAttr]
   all_goals (try (exact drows_nrow _))
  ·simp [rlook]
  ·(intro k hk;simp [rlook];omega)
 rintro ⟨⟨m,k,r⟩,g1,g2,g3⟩
 simp only [keepS,keepE,lk_cons,List.cons_append,List.nil_append,simprocAttr]
 simp only [zX]
 simp only at g1 g2 g3
 refine aw_reg 496 (RG.go fun Q hQ=>?_)
 simp (disch:=first | (intros;contradiction) | omega | (simp only [zN];omega)) only [zS,zW,e2,e4,e7,e9,simprocAttr]
 repeat refine ⟨by (omega),?_⟩
 refine hQ (RG.nil ?_)
 simp only [zX]
 refine aw_cond _ rfl trivial (fun ht=>?_) (fun hf=>?_)
 rotate_left
 ·skip
  try simp at hf
  simp only [zX,↓reduceIte]
  obtain rfl : k = 0:=by omega
  have hm : m = R:=g3
  rw [hm]
  refine Fin.objs [] [] (.inl rfl) rfl (by exact trivial) ?_ ?_ (by simp [objL,rlook]) (by (simp [objL,rlook];done))
  ·simp only [zL]
  ·simp only [zL,simprocAttr]
   all_goals (try (exact drows_nrow _))
 try simp at ht
 simp only [zX]
 obtain ⟨k,rfl⟩ : ∃ j,k = j + 1:=⟨k - 1,by omega⟩
 have ho:=othA_in (n:=n) (by omega) (by omega) (nx3 r)
 obtain ⟨o,ho2⟩ : ∃ o : Nat,othA n (nx3 r) = o:=⟨(othA n (nx3 r)).toNat,by omega⟩
 rw [ho2] at ho
 unfold brk at g3
 have ec : c + 3 - (k + 1) = c + 2 - k:=by omega
 rw [ec] at g3
 rw [show c + 2 - k + 1 = c + 3 - k by omega] at g3
 refine aBs 656 (fun Q hQ=>by simp (disch:=intros;contradiction) only [zS,↓reduceIte,ec];exact hQ) ?_
 refine rO [208] [] (next_con r) ?_
 refine aEs (fun Q hQ=>by simp (disch:=first | (intros;contradiction) | omega | (simp only [zN];omega)) only [zS,zW,h3,ho2,simprocAttr];exact hQ) ?_
 refine aR 784 ?_
 refine aw_cond _ rfl trivial (fun ht=>?_) (fun hf=>?_)
 ·skip
  try simp at ht
  have e : (o : Int) - n = ((o - n : Nat) : Int):=by omega
  have hoth : oth n (nx3 r) = o - n:=by unfold oth;rw [ho2,if_pos (by omega),Int.toNat_natCast]
  rw [hoth] at g3
  refine aS 864 (fun Q hQ=>by simp (disch:=first | (intros;contradiction) | omega | (simp only [zN];omega)) only [zS,zW,e,simprocAttr];exact hQ) ?_
  refine aw_draw 960 (RG.go fun Q hQ=>?_)
  simp (disch:=first | (intros;contradiction) | omega | (simp only [zN];omega)) only [zS,zW,nrow,gI_get',set_nrow,swp_fold,natAdd,simprocAttr]
  repeat refine ⟨by (omega),?_⟩
  refine hQ (RG.nil ⟨by decide +kernel,?_⟩)
  simp only [zX]
  refine aS 1312 (fun Q hQ=>by simp (disch:=first | (intros;contradiction) | omega | (simp only [zN];omega)) only [zS,zW,simprocAttr];exact hQ) ?_
  refine ⟨⟨(swp m (c + 2 - k) (a + (o - n)),k,nx3 r),by simp only;rw [swp_len];exact g1,by simp only;omega,g3⟩,?_,by first | omega | (simp only;omega)⟩
  refine Le.lit [] [] _ _ ?_ ?_ ?_ ?_
  ·simp only [zL,simprocAttr]
   all_goals (try ((repeat' ((congr 1;omega)))))
  ·simp only [zL,simprocAttr]
   all_goals (try (exact drows_nrow _))
  ·simp [rlook]
  ·(intro k hk;simp [rlook];omega)
 try simp at hf
 simp only [zX]
 have hoth : oth n (nx3 r) = o:=by unfold oth;rw [ho2,if_neg (by omega),Int.toNat_natCast]
 rw [hoth] at g3
 refine aw_draw 1392 (RG.go fun Q hQ=>?_)
 simp (disch:=first | (intros;contradiction) | omega | (simp only [zN];omega)) only [zS,zW,nrow,gI_get',set_nrow,swp_fold,natAdd,simprocAttr]
 repeat refine ⟨by (omega),?_⟩
 refine hQ (RG.nil ⟨by decide +kernel,?_⟩)
 simp only [zX]
 refine aS 1744 (fun Q hQ=>by simp (disch:=first | (intros;contradiction) | omega | (simp only [zN];omega)) only [zS,zW,simprocAttr];exact hQ) ?_
 refine ⟨⟨(swp m (c + 2 - k) (a + o),k,nx3 r),by simp only;rw [swp_len];exact g1,by simp only;omega,g3⟩,?_,by first | omega | (simp only;omega)⟩
 refine Le.lit [] [] _ _ ?_ ?_ ?_ ?_
 ·simp only [zL,simprocAttr]
  all_goals (try ((repeat' ((congr 1;omega)))))
 ·simp only [zL,simprocAttr]
  all_goals (try (exact drows_nrow _))
 ·simp [rlook]
 ·(intro k hk;simp [rlook];omega)

end Go.Abs

namespace Go.Abs
open Go Go.Proofs
set_option maxRecDepth 100000
set_option linter.unusedSimpArgs false
set_option maxHeartbeats 8000000

theorem srt_sorted {a b : Nat} {l : List Int} (hab : a≤b) (hb : b≤l.length) : sortedOn a b (srt a b l):=by
 intro i k h1 h2 h3
 have hs : (isort (seg a b l)).length = b - a:=by rw [isort_len,seg_len hb]
 have hla : (l.take a).length = a:=by simp;omega
 have g : ∀ j,a≤j→j < b→gI (srt a b l) j = gI (isort (seg a b l)) (j - a):=fun j j1 j2=>by
  unfold srt
  rw [gI_app_l (by simp [hs];omega),gI_app_r (by rw [hla];exact j1),hla]
 rw [g i h1 (by omega),g k (by omega) h3]
 rcases Nat.lt_or_ge i k with h | h
 ·have:=List.pairwise_iff_getElem.1 (isort_sorted (seg a b l)) (i - a) (k - a) (by omega) (by omega) (by omega)
  rwa [gI_get,gI_get] at this
 ·rw [show i = k by omega];exact Int.le_refl _

theorem srt_comb {x y mid : Nat} {q r : List Int} (hm : x≤mid) (hy : mid < y) (hq : y≤q.length) (hr : PO x y q r) (hp : gI r mid = gI q mid) (h1 : sortedOn x mid r) (h2 : sortedOn (mid + 1) y r)
  (h3 : ∀ k,x≤k→k < mid→gI r k≤gI q mid) (h4 : ∀ k,mid < k→k < y→gI q mid≤gI r k) : srt x y q = r:=by
 rw [← hr.srt (by omega)]
 refine srt_id (by omega) (by rw [hr.len];exact hq) fun i k i1 i2 i3=>?_
 rcases Nat.lt_or_ge k mid with hk | hk
 ·exact h1 i k i1 i2 hk
 ·have hk2 : gI q mid≤gI r k:=by
   rcases Nat.lt_or_ge mid k with h | h
   ·exact h4 k h i3
   ·rw [show k = mid by omega,hp];exact Int.le_refl _
  rcases Nat.lt_or_ge i mid with hi | hi
  ·exact Int.le_trans (h3 i i1 hi) hk2
  ·rcases Nat.lt_or_ge mid i with hi' | hi'
   ·exact h2 i k (by omega) i2 i3
   ·rw [show i = mid by omega,hp];exact hk2

theorem pdq_left {x y mid : Nat} {q : List Int} (hm : x≤mid) (hy : mid < y) (hq : y≤q.length) (h3 : ∀ k,x≤k→k < mid→gI q k < gI q mid) (h4 : ∀ k,mid < k→k < y→gI q mid≤gI q k) : srt (mid + 1) y (srt x mid q) = srt x y q:=by
 symm
 have p1:=srt_PO hm (show mid≤q.length by omega)
 have p2:=srt_PO (l:=srt x mid q) (show mid + 1≤y by omega) (by rw [p1.len];exact hq)
 refine srt_comb hm hy hq ((p1.wide (Nat.le_refl _) (by omega)).trans (p2.wide (by omega) (Nat.le_refl _))) ?_ ?_ (srt_sorted (by omega) (by rw [p1.len];exact hq)) ?_ ?_
 ·rw [p2.out mid (.inl (by omega)),p1.out mid (.inr (by omega))]
 ·intro i k i1 i2 i3
  rw [p2.out i (.inl (by omega)),p2.out k (.inl (by omega))]
  exact srt_sorted hm (by omega) i k i1 i2 i3
 ·intro k k1 k2
  rw [p2.out k (.inl (by omega))]
  exact p1.all (p:=fun v=>v≤gI q mid) hm (by omega) (fun k k1 k2=>Int.le_of_lt (h3 k k1 k2)) k k1 k2
 ·intro k k1 k2
  refine p2.all (p:=fun v=>gI q mid≤v) (by omega) (by rw [p1.len];exact hq) (fun k k1 k2=>?_) k (by omega) k2
  rw [p1.out k (.inr (by omega))];exact h4 k (by omega) k2
theorem pdq_right {x y mid : Nat} {q : List Int} (hm : x≤mid) (hy : mid < y) (hq : y≤q.length) (h3 : ∀ k,x≤k→k < mid→gI q k < gI q mid) (h4 : ∀ k,mid < k→k < y→gI q mid≤gI q k) : srt x mid (srt (mid + 1) y q) = srt x y q:=by
 symm
 have p1:=srt_PO (l:=q) (show mid + 1≤y by omega) hq
 have p2:=srt_PO (l:=srt (mid + 1) y q) hm (by rw [p1.len];omega)
 refine srt_comb hm hy hq ((p1.wide (by omega) (Nat.le_refl _)).trans (p2.wide (Nat.le_refl _) (by omega))) ?_ (srt_sorted hm (by rw [p1.len];omega)) ?_ ?_ ?_
 ·rw [p2.out mid (.inr (by omega)),p1.out mid (.inl (by omega))]
 ·intro i k i1 i2 i3
  rw [p2.out i (.inr (by omega)),p2.out k (.inr (by omega))]
  exact srt_sorted (by omega) hq i k i1 i2 i3
 ·intro k k1 k2
  refine p2.all (p:=fun v=>v≤gI q mid) hm (by rw [p1.len];omega) (fun k k1 k2=>?_) k k1 k2
  rw [p1.out k (.inl (by omega))];exact Int.le_of_lt (h3 k k1 k2)
 ·intro k k1 k2
  rw [p2.out k (.inr (by omega))]
  exact p1.all (p:=fun v=>gI q mid≤v) (by omega) hq (fun k k1 k2=>h4 k (by omega) k2) k (by omega) k2

def lowOk (a b : Nat) (l : List Int) : Prop:=∀ k,a≤k→k < b→0 < a→gI l (a - 1)≤gI l k
theorem lowOk_PO {a b : Nat} {l m : List Int} (h : PO a b l m) (hab : a≤b) (hb : b≤l.length) (hl : lowOk a b l) : lowOk a b m:=fun k k1 k2 k3=>by
 rw [h.out (a - 1) (.inl (by omega))]
 exact h.all (p:=fun v=>gI l (a - 1)≤v) hab hb (fun k k1 k2=>hl k k1 k2 k3) k k1 k2

theorem pdq_equal {x y : Nat} {R : List Int} {q : List Int} {pv v : Nat} {q' : List Int} (hxy : x≤y) (hy : y≤q.length) (r1 : PO x y q q') (r2 : x≤v) (r3 : v < y) (r4 : ∀ k,x≤k→k≤v→gI q' k = gI q pv) (hmin : ∀ k,x≤k→k < y→gI q pv≤gI q k)
  (h : srt x y q = R) : srt (v + 1) y q' = R:=by
 have hall:=r1.all (p:=fun w=>gI q pv≤w) hxy hy hmin
 have t1 : srt x y q' = srt (v + 1) y (srt x (v + 1) q'):=srt_two (by omega) (by omega) (by rw [r1.len];exact hy) (fun i j i1 i2 j1 j2=>by rw [r4 i i1 (by omega)];exact hall j (by omega) j2)
 have t2 : srt x (v + 1) q' = q':=srt_id (by omega) (by rw [r1.len];omega) (fun i j i1 i2 i3=>by rw [r4 i i1 (by omega),r4 j (by omega) (by omega)];exact Int.le_refl _)
 rw [← h,← r1.srt hxy,t1,t2]
theorem pdq_equal_low {x y : Nat} {q : List Int} {pv v : Nat} {q' : List Int} (hxy : x≤y) (hy : y≤q.length) (r1 : PO x y q q') (r2 : x≤v) (r3 : v < y) (r4 : ∀ k,x≤k→k≤v→gI q' k = gI q pv) (hmin : ∀ k,x≤k→k < y→gI q pv≤gI q k) : lowOk (v + 1) y q':=fun k k1 k2 _=>by
 rw [show v + 1 - 1 = v by omega,r4 v r2 (Nat.le_refl _)]
 exact r1.all (p:=fun w=>gI q pv≤w) hxy hy hmin k (by omega) k2

theorem pdq64_con : ∀ (N a b : Nat) (l : List Int) (lim : Nat),b - a = N→l.length≤60000→a≤b→b≤l.length→lim≤64→lowOk a b l →
  Con Try.prog 80 [.c (.osl 0),I a,I b,I lim] [arrI 2 l] (.tup []) [arrI 2 (srt a b l)]:=by
 intro N
 induction N using Nat.strongRecOn with
 | _ N ih =>
 intro a b l lim hN hl hab hb hlim hlow
 obtain ⟨R,hR⟩ : ∃ R,R = srt a b l:=⟨_,rfl⟩
 rw [← hR]
 refine C_slices_pdqsortOrdered_int64 nl nl ?_
 simp only [cz,A_slices_pdqsortOrdered_int64,argL,objL,List.length_nil,List.length_cons,Nat.zero_add,zX,simprocAttr]
 refine aR 16 ?_
 refine aR 64 ?_
 refine aw_loopK (X:={ p : List Int × Nat × Nat × Nat × Bool × Bool // p.1.length = l.length∧srt p.2.1 p.2.2.1 p.1 = R∧a≤p.2.1∧p.2.1≤p.2.2.1∧p.2.2.1≤b∧p.2.2.2.1≤64∧lowOk p.2.1 p.2.2.1 p.1 }) [0] (fun p=>[(1,I p.1.2.1),(2,I p.1.2.2.1),(3,I p.1.2.2.2.1),(8,B p.1.2.2.2.2.1),(9,B p.1.2.2.2.2.2)]) [] (fun p=>[(0,arrI 2 p.1.1)]) (fun p=>p.1.2.2.1 - p.1.2.1) (⟨(l,a,b,lim,true,true),rfl,hR.symm,by simp only;omega,hab,by simp only;omega,hlim,hlow⟩) ?_ ?_
 ·skip
  simp only [keepS,keepE,lk_cons,List.cons_append,List.nil_append,↓reduceIte]
  refine Le.lit [] [] _ _ ?_ ?_ ?_ ?_
  ·simp only [zL,simprocAttr]
  ·simp only [zL,simprocAttr]
   all_goals (try (exact drows_nrow _))
  ·simp [rlook]
  ·(intro k hk;simp [rlook];omega)
 rintro ⟨⟨m,x,y,t,wb,wp⟩,h1,h2,h3,h4,h5,h6,h7⟩
 simp only [keepS,keepE,lk_cons,List.cons_append,List.nil_append,↓reduceIte]
 simp only [zX]
 simp only at h1 h2 h3 h4 h5 h6 h7
 have e1 : (y : Int) - x = ((y - x : Nat) : Int):=by omega
 refine aS 112 (fun Q hQ=>by simp (disch:=first | (intros;contradiction) | omega | (simp only [zN];omega)) only [zS,zW,e1,simprocAttr];exact hQ) ?_
 refine aR 208 ?_
 refine aw_cond _ rfl trivial (fun ht=>?_) (fun hf=>?_)
 ·skip
  try simp at ht
  simp only [zX]
  refine aB 272 ?_
  refine rO [0] [] (insert64_con x y m (by omega) h4 (by omega)) ?_
  refine aE ?_
  rw [← h2]
  refine Fin.objs [] [] (.inr rfl) rfl (by exact trivial) ?_ ?_ (by simp [objL,rlook]) (by (simp [objL,rlook];done))
  ·simp only [zL]
  ·simp only [zL,simprocAttr]
   all_goals (try (exact drows_nrow _))
 try simp at hf
 simp only [zX]
 refine aR 368 ?_
 refine aw_cond _ rfl trivial (fun ht=>?_) (fun hf=>?_)
 ·skip
  try simp at ht
  simp only [zX]
  refine aB 432 ?_
  refine rO [0] [] (heapSort64_con x y m (by omega) (by omega) (by omega)) ?_
  refine aE ?_
  rw [← h2]
  refine Fin.objs [] [] (.inr rfl) rfl (by exact trivial) ?_ ?_ (by simp [objL,rlook]) (by (simp [objL,rlook];done))
  ·simp only [zL]
  ·simp only [zL,simprocAttr]
   all_goals (try (exact drows_nrow _))
 try simp at hf
 simp only [zY]
 refine aw_joinS (Y:={ p : List Int × Nat // PO x y m p.1∧p.2≤64 }) [0,1,2,8,9,10] (fun p=>[(3,I p.1.2)]) [] (fun p=>[(0,arrI 2 p.1.1)]) (by (repeat' (first | exact cl_fin | refine cl_block ?_ | refine cl_loop ?_))) ?_ ?_
 ·skip
  simp only [zX]
  refine aR 528 ?_
  refine aw_cond _ rfl trivial (fun ht=>?_) (fun hf=>?_)
  ·skip
   try simp at ht
   simp only [zX]
   refine aB 592 ?_
   refine rO [0] [] (break64_con x y m (by omega) (by omega) (by omega)) ?_
   refine aE ?_
   refine aS 688 (fun Q hQ=>by simp (disch:=first | (intros;contradiction) | omega | (simp only [zN];omega)) only [zS,zW,simprocAttr];exact hQ) ?_
   refine ⟨⟨(brk x (y - x) 3 m (x + (y - x) / 4 * 2 - 1) (y - x : Nat),t - 1),brk_PO (by omega) (by omega) (by omega) 3 m _ _ (by omega) (by omega) (by omega),by simp only;omega⟩,?_⟩
   simp only [keepS,keepE,lk_cons,List.cons_append,List.nil_append,simprocAttr]
   refine Le.lit [] [] _ _ ?_ ?_ ?_ ?_
   ·simp only [zL,simprocAttr]
    all_goals (try ((repeat' ((congr 1;omega)))))
   ·simp only [zL,simprocAttr]
    all_goals (try (exact drows_nrow _))
   ·simp [rlook]
   ·(intro k hk;simp [rlook];omega)
  try simp at hf
  simp only [zX]
  refine ⟨⟨(m,t),PO.refl _ _ _,h6⟩,?_⟩
  simp only [keepS,keepE,lk_cons,List.cons_append,List.nil_append,simprocAttr]
  refine Le.lit [] [] _ _ ?_ ?_ ?_ ?_
  ·simp only [zL,simprocAttr]
  ·simp only [zL,simprocAttr]
   all_goals (try (exact drows_nrow _))
  ·simp [rlook]
  ·(intro k hk;simp [rlook];omega)
 rintro ⟨⟨q,u⟩,k1,k2⟩
 simp only [keepS,keepE,lk_cons,List.cons_append,List.nil_append,simprocAttr]
 simp only [zX]
 simp only at k1 k2
 have kl:=k1.len
 refine aB 768 ?_
 refine rO [0] [] (choose64_con x y q (by omega) (by omega) (by omega)) ?_
 refine RG.go fun Q hQ=>?_
 simp (disch:=intros;contradiction) only [zS,simprocAttr]
 have hcp:=cpF_in (l:=q) (a:=x) (b:=y) (by omega) (by omega)
 generalize cpF q x y = cp at hcp
 obtain ⟨pv,sw⟩:=cp
 simp only at hcp
 refine hQ (RG.nil ?_)
 simp only [zY]
 have e2 : (y : Int) - 1 - ((pv : Int) - x) = ((y - 1 - (pv - x) : Nat) : Int):=by omega
 refine aw_joinS (Y:={ p : List Int × Nat × Int // PO x y m p.1∧x≤p.2.1∧p.2.1 < y }) [0,1,2,3,8,9,10] (fun p=>[(11,I p.1.2.1),(12,I p.1.2.2)]) [] (fun p=>[(0,arrI 2 p.1.1)]) (by (repeat' (first | exact cl_fin | refine cl_block ?_ | refine cl_loop ?_))) ?_ ?_
 ·skip
  simp only [zX]
  refine aR 944 ?_
  refine aw_cond _ rfl trivial (fun ht=>?_) (fun hf=>?_)
  ·skip
   try simp at ht
   simp only [zX]
   refine aB 1008 ?_
   refine rO [0] [] (rev64_con x y q (by omega) (by omega) (by omega)) ?_
   refine aE ?_
   refine aS 1104 (fun Q hQ=>by simp (disch:=first | (intros;contradiction) | omega | (simp only [zN];omega)) only [zS,zW,e2,simprocAttr];exact hQ) ?_
   refine aR 1248 ?_
   refine ⟨⟨(revL q x (y - 1),y - 1 - (pv - x),1),k1.trans (revL_PO x y _ q x (y - 1) (Nat.le_refl _) (Nat.le_refl _) (by omega) (by omega)),by simp only;omega,by simp only;omega⟩,?_⟩
   simp only [keepS,keepE,lk_cons,List.cons_append,List.nil_append,simprocAttr]
   refine Le.lit [] [] _ _ ?_ ?_ ?_ ?_
   ·simp only [zL,simprocAttr]
   ·simp only [zL,simprocAttr]
    all_goals (try (exact drows_nrow _))
   ·simp [rlook]
   ·(intro k hk;simp [rlook];omega)
  try simp at hf
  simp only [zX]
  refine ⟨⟨(q,pv,hintF sw),k1,hcp.1,hcp.2⟩,?_⟩
  simp only [keepS,keepE,lk_cons,List.cons_append,List.nil_append,simprocAttr]
  refine Le.lit [] [] _ _ ?_ ?_ ?_ ?_
  ·simp only [zL,simprocAttr]
  ·simp only [zL,simprocAttr]
   all_goals (try (exact drows_nrow _))
  ·simp [rlook]
  ·(intro k hk;simp [rlook];omega)
 rintro ⟨⟨q2,pv2,hh⟩,l1,l2,l3⟩
 simp only [keepS,keepE,lk_cons,List.cons_append,List.nil_append,simprocAttr]
 simp only at l1 l2 l3
 have ll:=l1.len
 refine aw_joinS (Y:={ p : List Int // PO x y m p }) [0,1,2,3,8,9,10,11] (fun p=>[]) [] (fun p=>[(0,arrI 2 p.1)]) (by (repeat' (first | exact cl_fin | refine cl_block ?_ | refine cl_loop ?_))) ?_ ?_
 ·skip
  simp only [zX]
  refine aR 1296 ?_
  refine aw_cond _ rfl trivial (fun ht=>?_) (fun hf=>?_)
  ·skip
   try simp at ht
   simp only [zX]
   refine aB 1456 ?_
   refine rO [0] [] (pis64_con x y q2 (by omega) (by omega) (by omega)) ?_
   refine aE ?_
   refine aw_cond _ rfl trivial (fun ht=>?_) (fun hf=>?_)
   ·skip
    try simp at ht
    simp only [zX]
    obtain ⟨s1,s2⟩:=pis_spec x y 5 q2 (x + 1) (by omega) (by omega) (by omega) (fun i k i1 i2 i3=>by rw [show i = k by omega];exact Int.le_refl _) (lowOk_PO l1 h4 (by omega) h7)
    have s3:=srt_id h4 (by rw [s1.len];omega) (s2 ht)
    rw [s1.srt h4,l1.srt h4] at s3
    rw [← h2,s3]
    refine Fin.objs [] [] (.inr rfl) rfl (by exact trivial) ?_ ?_ (by simp [objL,rlook]) (by (simp [objL,rlook];done))
    ·simp only [zL]
    ·simp only [zL,simprocAttr]
     all_goals (try (exact drows_nrow _))
   try simp at hf
   simp only [zX]
   refine ⟨⟨(pis x y 5 q2 (x + 1)).1,l1.trans (pis_spec x y 5 q2 (x + 1) (by omega) (by omega) (by omega) (fun i k i1 i2 i3=>by rw [show i = k by omega];exact Int.le_refl _) (lowOk_PO l1 h4 (by omega) h7)).1⟩,?_⟩
   simp only [keepS,keepE,lk_cons,List.cons_append,List.nil_append,simprocAttr]
   refine Le.lit [] [] _ _ ?_ ?_ ?_ ?_
   ·simp only [zL,simprocAttr]
   ·simp only [zL,simprocAttr]
    all_goals (try (exact drows_nrow _))
   ·simp [rlook]
   ·(intro k hk;simp [rlook];omega)
  try simp at hf
  simp only [zX]
  refine ⟨⟨q2,l1⟩,?_⟩
  simp only [keepS,keepE,lk_cons,List.cons_append,List.nil_append,simprocAttr]
  refine Le.lit [] [] _ _ ?_ ?_ ?_ ?_
  ·simp only [zL,simprocAttr]
  ·simp only [zL,simprocAttr]
   all_goals (try (exact drows_nrow _))
  ·simp [rlook]
  ·(intro k hk;simp [rlook];omega)
 rintro ⟨q3,n1⟩
 simp only [keepS,keepE,lk_cons,List.cons_append,List.nil_append,simprocAttr]
 have nl:=n1.len
 have nlow:=lowOk_PO n1 h4 (by omega) h7
 have e3 : 0 < x→(x : Int) - 1 = ((x - 1 : Nat) : Int):=fun h=>by omega
 refine aw_joinS (Y:=Unit) [0,1,2,3,10,11] (fun z=>[]) [] (fun z=>[(0,arrI 2 q3)]) (by (repeat' (first | exact cl_fin | refine cl_block ?_ | refine cl_loop ?_))) ?_ ?_
 ·skip
  simp only [zX]
  by_cases hx : 0 < x
  ·skip
   have e3':=e3 hx
   refine aw_draw 1552 (RG.go fun Q hQ=>?_)
   simp (disch:=first | (intros;contradiction) | omega | (simp only [zN];omega)) only [zS,zW,nrow,gI_get',e3',simprocAttr]
   repeat refine ⟨by ((simp;omega)),?_⟩
   refine hQ ?_
   refine rG _ _ (cmp_Less64_con _ _) ?_
   refine aED ?_
   refine aw_cond _ rfl trivial (fun ht=>?_) (fun hf=>?_)
   ·skip
    try simp at ht
    simp only [zX]
    refine aB 1824 ?_
    refine rO [0] [] (partEqual64_con x y pv2 q3 (by omega) (by omega) (by omega) ⟨l2,l3⟩) ?_
    refine RG.go fun Q hQ=>?_
    simp (disch:=intros;contradiction) only [zS,simprocAttr]
    have hmin : ∀ k,x≤k→k < y→gI q3 pv2≤gI q3 k:=fun k k1 k2=>Int.le_trans (by have:=ht.2;omega) (nlow k k1 k2 hx)
    obtain ⟨r1,r2,r3,r4⟩:=partE_spec (by omega) (by omega) ⟨l2,l3⟩ hmin
    have e4 : ((partE q3 x y pv2).2 : Int) + 1 = (((partE q3 x y pv2).2 + 1 : Nat) : Int):=by omega
    have hE:=pdq_equal (R:=R) h4 (show y≤q3.length by omega) r1 r2 r3 r4 hmin ((n1.srt h4).trans h2)
    have hF:=pdq_equal_low h4 (show y≤q3.length by omega) r1 r2 r3 r4 hmin
    refine hQ (RG.nil ?_)
    simp only [zX]
    refine aw_reg 1952 (RG.go fun Q hQ=>?_)
    simp (disch:=intros;contradiction) only [zS,e4,simprocAttr]
    refine hQ (RG.nil ?_)
    simp only [zX,↓reduceIte]
    refine ⟨⟨((partE q3 x y pv2).1,(partE q3 x y pv2).2 + 1,y,u,wb,wp),by simp only;rw [r1.len];omega,hE,by simp only;omega,by simp only;omega,by simp only;omega,by simp only;omega,hF⟩,?_,by first | omega | (simp only;omega)⟩
    refine Le.lit [] [] _ _ ?_ ?_ ?_ ?_
    ·simp only [zL,simprocAttr]
    ·simp only [zL,simprocAttr]
     all_goals (try (exact drows_nrow _))
    ·simp [rlook]
    ·(intro k hk;simp [rlook];omega)
   try simp at hf
   simp only [zX]
   refine ⟨(),?_⟩
   simp only [keepS,keepE,lk_cons,List.cons_append,List.nil_append,simprocAttr]
   refine Le.lit [] [] _ _ ?_ ?_ ?_ ?_
   ·simp only [zL,simprocAttr]
   ·simp only [zL,simprocAttr]
    all_goals (try (exact drows_nrow _))
   ·simp [rlook]
   ·(intro k hk;simp [rlook];omega)
  refine aw_draw 2016 (RG.go fun Q hQ=>?_)
  simp (disch:=first | (intros;contradiction) | omega | (simp only [zN];omega)) only [zS,zW,nrow,gI_get',simprocAttr]
  repeat refine ⟨by ((simp;omega)),?_⟩
  refine hQ ?_
  refine RG.callg (res:=B false) _ _ [] rfl (fun hg=>by simp at hg;omega) ?_
  refine aED ?_
  refine aw_cond _ rfl trivial (fun ht=>by simp at ht <;> omega) (fun hf=>?_)
  simp only [zX]
  refine ⟨(),?_⟩
  simp only [keepS,keepE,lk_cons,List.cons_append,List.nil_append,simprocAttr]
  refine Le.lit [] [] _ _ ?_ ?_ ?_ ?_
  ·simp only [zL,simprocAttr]
  ·simp only [zL,simprocAttr]
   all_goals (try (exact drows_nrow _))
  ·simp [rlook]
  ·(intro k hk;simp [rlook];omega)
 rintro ⟨⟩
 simp only [keepS,keepE,lk_cons,List.cons_append,List.nil_append,simprocAttr]
 simp only [zX]
 refine aB 2288 ?_
 refine rO [0] [] (partition64_con x y pv2 q3 (by omega) (by omega) (by omega) ⟨l2,l3⟩) ?_
 refine RG.go fun Q hQ=>?_
 simp (disch:=intros;contradiction) only [zS,simprocAttr]
 obtain ⟨r1,r2,r3,r4,r5⟩:=partF_spec (show x + 1 < y by omega) (show y≤q3.length by omega) ⟨l2,l3⟩
 generalize partF q3 x y pv2 = pf at r1 r2 r3 r4 r5
 generalize partB q3 x y pv2 = pb
 obtain ⟨q4,mid⟩:=pf
 simp only at r1 r2 r3 r4 r5
 have rl:=r1.len
 have hq4 : srt x y q4 = R:=by rw [r1.srt h4,n1.srt h4];exact h2
 have rlow:=lowOk_PO r1 h4 (by omega) nlow
 have e5 : (mid : Int) - x = ((mid - x : Nat) : Int):=by omega
 have e6 : (y : Int) - mid = ((y - mid : Nat) : Int):=by omega
 have e7 : ((y - x : Nat) : Int) / 8 = (((y - x) / 8 : Nat) : Int):=by omega
 have e8 : (mid : Int) + 1 = ((mid + 1 : Nat) : Int):=by omega
 refine hQ (RG.nil ?_)
 simp only [zX]
 refine aR 2480 ?_
 refine aS 2544 (fun Q hQ=>by simp (disch:=first | (intros;contradiction) | omega | (simp only [zN];omega)) only [zS,zW,e5,e6,simprocAttr];exact hQ) ?_
 refine aw_reg 2704 (RG.go fun Q hQ=>?_)
 simp (disch:=first | (intros;contradiction) | omega | (simp only [zN];omega)) only [zS,zW,e7,simprocAttr]
 repeat refine ⟨by (omega),?_⟩
 refine hQ (RG.nil ?_)
 simp only [zX]
 refine aR 2784 ?_
 refine aw_cond _ rfl trivial (fun ht=>?_) (fun hf=>?_)
 ·skip
  try simp at ht
  simp only [zX]
  refine aR 2864 ?_
  refine aB 2960 ?_
  refine rO [0] [] (ih (mid - x) (by omega) x mid q4 u rfl (by omega) r2 (by omega) k2 (fun k k1 k2 k3=>rlow k k1 (by omega) k3)) ?_
  refine aE ?_
  have p1:=srt_PO (l:=q4) r2 (by omega)
  have hF : lowOk (mid + 1) y (srt x mid q4):=fun k k1 k2 _=>by rw [show mid + 1 - 1 = mid by omega,p1.out mid (.inr (by omega)),p1.out k (.inr (by omega))];exact r5 k (by omega) k2
  refine aS 3072 (fun Q hQ=>by simp (disch:=first | (intros;contradiction) | omega | (simp only [zN];omega)) only [zS,zW,e8,simprocAttr];exact hQ) ?_
  refine ⟨⟨(srt x mid q4,mid + 1,y,u,decide ((((y - x) / 8 : Nat) : Int)≤((mid - x : Nat) : Int)),pb),by simp only;rw [p1.len];omega,by simp only;rw [pdq_left r2 r3 (by omega) r4 r5];exact hq4,by simp only;omega,by simp only;omega,by simp only;omega,by simp only;omega,hF⟩,?_,by first | omega | (simp only;omega)⟩
  refine Le.lit [] [] _ _ ?_ ?_ ?_ ?_
  ·simp only [zL,simprocAttr]
  ·simp only [zL,simprocAttr]
   all_goals (try (exact drows_nrow _))
  ·simp [rlook]
  ·(intro k hk;simp [rlook];omega)
 try simp at hf
 simp only [zX]
 refine aR 3152 ?_
 refine aBs 3248 (fun Q hQ=>by simp (disch:=first | (intros;contradiction) | omega | (simp only [zN];omega)) only [zS,zW,e8,simprocAttr];exact hQ) ?_
 refine rO [0] [] (ih (y - (mid + 1)) (by omega) (mid + 1) y q4 u rfl (by omega) (by omega) (by omega) k2 (fun k k1 k2 _=>by rw [show mid + 1 - 1 = mid by omega];exact r5 k (by omega) k2)) ?_
 refine aE ?_
 have p1:=srt_PO (l:=q4) (show mid + 1≤y by omega) (by omega)
 have hF : lowOk x mid (srt (mid + 1) y q4):=fun k k1 k2 k3=>by rw [p1.out (x - 1) (.inl (by omega)),p1.out k (.inl (by omega))];exact rlow k k1 (by omega) k3
 refine aR 3376 ?_
 refine ⟨⟨(srt (mid + 1) y q4,x,mid,u,decide ((((y - x) / 8 : Nat) : Int)≤((y - mid : Nat) : Int)),pb),by simp only;rw [p1.len];omega,by simp only;rw [pdq_right r2 r3 (by omega) r4 r5];exact hq4,by simp only;omega,by simp only;omega,by simp only;omega,by simp only;omega,hF⟩,?_,by first | omega | (simp only;omega)⟩
 refine Le.lit [] [] _ _ ?_ ?_ ?_ ?_
 ·simp only [zL,simprocAttr]
 ·simp only [zL,simprocAttr]
  all_goals (try (exact drows_nrow _))
 ·simp [rlook]
 ·(intro k hk;simp [rlook];omega)

theorem sort64_con (l : List Int) (hl : l.length≤60000) : Con Try.prog 66 [.c (.osl 0)] [arrI 2 l] (.tup []) [arrI 2 (isort l)]:=by
 have hb:=bitLen_small (n:=l.length) (k:=16) (by omega)
 have hs : srt 0 l.length l = isort l:=by
  unfold srt seg
  simp
 rw [← hs]
 refine C_slices_Sort_int64_int64 nl nl ?_
 simp only [cz,A_slices_Sort_int64_int64,argL,objL,List.length_nil,List.length_cons,Nat.zero_add,zX]
 refine aS 16 (fun Q hQ=>by simp (disch:=intros;contradiction) only [zS,zW,simprocAttr];exact hQ) ?_
 refine aBs 96 (fun Q hQ=>by simp (disch:=first | (intros;contradiction) | omega | (simp only [zN];omega)) only [zS,zW,simprocAttr];exact hQ) ?_
 refine rC [] (len_con l.length (by omega)) ?_
 refine aM ?_
 refine rO [0] [] (pdq64_con l.length 0 l.length l (bitLen l.length) rfl (by omega) (by omega) (by omega) (by omega) (fun k k1 k2 k3=>by omega)) ?_
 refine RG.go fun Q hQ=>?_
 simp (disch:=intros;contradiction) only [zS,simprocAttr]
 refine hQ (RG.nil ?_)
 refine Fin.objs [] [] (.inl rfl) rfl (by exact trivial) ?_ ?_ (by simp [objL,rlook]) (by (simp [objL,rlook];done))
 ·simp only [zL]
 ·simp only [zL,simprocAttr]
  all_goals (try (exact drows_nrow _))

end Go.Abs

namespace Go.Abs
open Go Go.Proofs
set_option maxRecDepth 100000
set_option linter.unusedSimpArgs false
set_option maxHeartbeats 4000000

theorem Le.win {n : Nat} {l : SL} {es : EL} (t id fr : Nat) (E : TypeId) (s k : Nat) (rows : List (List C)) (ht : lk .dead l t = .c (.ow id 0 k)) (hid : lkE es id = some (.arr E s rows false)) (hfr : lkE es fr = none) (hk : k≤rows.length) :
  Le n (mkSt l es) (mkSt (setS t (.c (.osl fr)) l) (setE fr (.arr E s (rows.take k) false) (setE id .gone es))):=by
 intro g m tmps w _ hR
 have hne : fr≠id:=by rintro rfl;rw [hfr] at hid;cases hid
 have hs:=(hR.ent id _ hid).1
 have he : mkSt (setS t (.c (.osl fr)) l) (setE fr (.arr E s (rows.take k) false) (setE id .gone es)) = { sl:=upd (lk .dead l) t (.c (.osl fr)),σ:=upd (upd (lkE es) id (some .gone)) fr (some (.arr E s (rows.take k) false)) }:=by
  unfold mkSt;rw [lk_setS,lkE_setE,lkE_setE]
 have h0 : RSV (g.env m (mkSt l es) w) (.c (.ow id 0 k)) (tmps.getD t undef):=by
  have h0:=hR.slot t
  have : (mkSt l es).sl t = .c (.ow id 0 k):=ht
  rw [this] at h0;exact h0
 obtain ⟨a,ha,hc⟩:=h0
 have ha' : lkE es id = some a:=ha
 rw [hid] at ha';cases ha'
 obtain ⟨b,o,cap,cur,hm,g1,g2,hv,k1,k2,k3,k4⟩:=hc
 have ho:=k4 rfl
 subst ho
 have hE:=hR.ent id _ hid
 rw [show m id = some b from hm] at hE
 obtain ⟨_,hrl,⟨h,_⟩ | ⟨b',cur',cap',h,q1,q2,q3,q4,q5⟩⟩:=hE
 ·cases h
 cases h
 have g1' : w.heap[b]? = some (.cells cur E (0,0)):=g1
 have q1' : w.heap[b]? = some (.cells cur' E (0,0)):=q1
 rw [g1'] at q1';cases q1'
 have hce : cap = cap':=Nat.eq_of_mul_eq_mul_right hs (by omega)
 subst hce
 have hR':=hR.moved (rows':=rows.take k) hfr hid hm (w':=w) rfl (fun _ _=>rfl) rfl rfl rfl (fun hle=>⟨hs,fun r hr=>hrl r (List.mem_of_mem_take hr),.inr ⟨b,cur,cap,rfl,g1,g2,by simp;omega,q4,fun i r j c h1 h2=>by
  obtain ⟨x,hx,hxr⟩:=q5 i r j c (take_get h1) h2
  exact ⟨x,hx,RC.le hle hxr⟩⟩⟩)
 refine ⟨upd m fr (some b),?_⟩
 rw [he]
 refine ⟨hR'.frame,fun t'=>?_,hR'.ent,hR'.place,hR'.inj,hR'.gr,hR'.org⟩
 show RSV _ (upd (lk .dead l) t (.c (.osl fr)) t') _
 rw [upd_apply]
 split
 ·rename_i h
  subst h
  rw [hv]
  refine ⟨.arr E s (rows.take k) false,?_,?_⟩
  ·show upd _ _ _ _ = _;rw [upd_apply,if_pos rfl]
  ·show (match upd m fr (some b) fr with | none=>_ | some b=>_)
   rw [upd_apply,if_pos rfl]
   have hlen : (rows.take k).length = k:=by simp;omega
   exact ⟨cur,cap,g1,g2,by rw [hlen,Nat.sub_zero]⟩
 ·exact hR'.slot t'

theorem Fin.win {rs : List AR} {E : TypeId} {s k : Nat} {rows rows' : List (List C)} {e : Exit} {l : SL} {es : EL} (F : Nat) (he : e = .normal∨e = .ret) (h : resV (mkSt l es) rs = some (.c (.ow 0 0 k))) (hp : resPre (mkSt l es) rs)
  (h0 : lkE es 0 = some (.arr E s rows false)) (hF : lkE es F = none) (hk : k≤rows.length) (hr : rows.take k = rows') (hd : isDRows rows') : FinQ 1 rs (.c (.osl 1)) [.gone,.arr E s rows' false] e (mkSt l es):=by
 subst hr
 refine ⟨_,Le.refl _ _,he,_,h,hp,?_⟩
 have hF0 : F≠0:=by rintro rfl;rw [hF] at h0;cases h0
 have e0 : ({ sl:=upd (fun _=>.dead) 0 (.c (.ow 0 0 k)),σ:=(mkSt l es).σ } : St) = mkSt [(0,.c (.ow 0 0 k))] es:=by
  unfold mkSt
  congr 1
 rw [e0]
 refine (Le.win 0 0 F E s k rows rfl h0 hF hk).trans ?_
 have h2:=Le.mk (n:=1) (st:=mkSt (setS 0 (.c (.osl F)) [(0,.c (.ow 0 0 k))]) (setE F (.arr E s (rows.take k) false) (setE 0 .gone es))) [(1,F)] [(0,.c (.osl 1))] [(0,.gone),(1,.arr E s (rows.take k) false)]
  ⟨⟨by simp [rlook],by simp [lkE]⟩,trivial⟩
  ⟨⟨.gone,by simp [rlook,mkSt,lkE_setE,upd_apply,Ne.symm hF0],trivial⟩,⟨.arr E s (rows.take k) false,by simp [rlook,mkSt,lkE_setE,upd_apply],rfl,rfl,rfl,.inl rfl,hd⟩,trivial⟩
  (by simp [rlook,Ne.symm hF0]) (by intro k hk;obtain rfl : k = 0:=(by omega);simp [rlook])
 have e1 : mkSt [(0,.c (.osl 1))] [(0,.gone),(1,.arr E s (rows.take k) false)] = { sl:=upd (fun _=>.dead) 0 (.c (.osl 1)),σ:=fun i=>([.gone,.arr E s (rows.take k) false] : List Ent)[i]? }:=by
  unfold mkSt
  congr 1
  funext t
  rcases t with _ | _ | t <;> simp [lkE]
 rw [e1] at h2
 exact h2

theorem delete64_con (l : List Int) (i j : Nat) (hl : l.length≤1000000) (hij : i < j) (hj : j≤l.length) :
  Con Try.prog 68 [.c (.osl 0),I i,I j] [arrI 2 l] (.c (.osl 1)) [.gone,arrI 2 (l.take i ++ l.drop j)]:=by
 have hne : l.map nrow≠[]:=by intro h;rw [List.map_eq_nil_iff] at h;subst h;simp at hj;omega
 have e1 : i + min (l.length - j) (l.length - j) = i + (l.length - j):=by omega
 refine C_slices_Delete_int64_int64 nl nl ?_
 simp only [cz,A_slices_Delete_int64_int64,argL,objL,List.length_nil,List.length_cons,Nat.zero_add,zX,simprocAttr]
 refine aR 16 ?_
 refine aS 64 (fun Q hQ=>by simp (disch:=intros;contradiction) only [zS,zW,simprocAttr];repeat refine ⟨by (omega),?_⟩;exact hQ) ?_
 refine aR 192 ?_
 refine aw_cond _ rfl trivial (fun ht=>by simp at ht;omega) (fun hf=>?_)
 simp only [zX]
 refine aS 272 (fun Q hQ=>by simp (disch:=intros;contradiction) only [zS,zW,simprocAttr];exact hQ) ?_
 refine aw_draw 355 (RG.go fun Q hQ=>?_)
 simp (disch:=intros;contradiction) only [zS,zW,e1,simprocAttr]
 repeat refine ⟨by (first | exact ⟨by (intro q hq;obtain ⟨_,_,rfl⟩:=List.mem_map.1 hq;rfl),by omega⟩ | (refine ⟨?_,?_⟩ <;> (repeat' (first | omega | refine ⟨?_,?_⟩)))),?_⟩
 refine hQ (RG.nil ⟨by decide +kernel,?_⟩)
 simp only [zX]
 refine aw_reg 515 (RG.go fun Q hQ=>?_)
 simp (disch:=intros;contradiction) only [zS,zW,simprocAttr]
 repeat refine ⟨by (omega),?_⟩
 refine hQ (RG.nil ?_)
 simp only [zX]
 refine aR 640 ?_
 refine Fin.win 900000 (.inr rfl) rfl trivial rfl rfl ?_ ?_ (drows_nrow _)
 ·simp;omega
 ·rw [show min (i + (l.length - j)) (min i l.length + min (l.length - j) (l.length - j) + (l.length - (i + (l.length - j)))) = i + (l.length - j) by omega]
  rw [List.append_assoc,List.take_append_of_le_length (by simp;omega),List.take_take,Nat.min_self,List.take_append_of_le_length (by simp;omega),List.take_of_length_le (by simp;omega)]
  rw [List.take_of_length_le (l:=l.drop j) (by simp),List.map_append]

end Go.Abs

namespace Go.Abs
open Go Go.Proofs
set_option maxRecDepth 100000
set_option linter.unusedSimpArgs false
set_option maxHeartbeats 4000000

theorem index64_yes (l : List Int) (t : Int) (k : Nat) (hl : l.length≤1000000) (hk : k < l.length) (h : l[k] = t) (hn : ∀ i (hi : i < l.length),i < k→l[i]≠t) :
  Con Try.prog 67 [.c (.sl (l.map nrow)),I t] [] (I k) []:=by
 refine C_slices_Index_int64_int64 nl nl ?_
 simp only [cz,A_slices_Index_int64_int64,argL,objL,List.length_nil,Nat.zero_add,zX]
 refine aR 16 ?_
 refine aS 64 (fun Q hQ=>by simp (disch:=intros;contradiction) only [zS,zW,simprocAttr];exact hQ) ?_
 refine aw_loopK (X:={ i : Nat // i≤k }) [0,1,7] (fun i=>[(8,I i.1)]) [] (fun i=>[]) (fun i=>l.length - i.1) (⟨0,by omega⟩) ?_ ?_
 ·skip
  simp only [keepS,keepE,lk_cons,List.cons_append,List.nil_append,simprocAttr]
  refine Le.lit [] [] _ _ ?_ ?_ ?_ ?_
  ·simp only [zL,simprocAttr]
  ·simp only [zL,simprocAttr]
  ·simp [rlook]
  ·(simp;done)
 rintro ⟨i,hi⟩
 simp only [keepS,keepE,lk_cons,List.cons_append,List.nil_append,simprocAttr]
 simp only [zX]
 refine aR 144 ?_
 refine aw_cond _ rfl trivial (fun ht=>?_) (fun hf=>by simp at hf;omega)
 simp only [zX]
 refine aR 192 ?_
 refine aS 256 (fun Q hQ=>by simp (disch:=first | (intros;contradiction) | omega | (simp only [zN];omega)) only [zS,zW,nrow,simprocAttr];repeat refine ⟨by (omega),?_⟩;exact hQ) ?_
 refine aw_cond _ rfl trivial (fun ht=>?_) (fun hf=>?_)
 ·skip
  try simp at ht
  simp only [zX]
  have hik : i = k:=by
   rcases Nat.lt_or_ge i k with h1 | h1
   ·exact absurd ht.symm (hn i (by omega) h1)
   ·omega
  subst hik
  refine aR 384 ?_
  exact Fin.scalar (.inr rfl) rfl trivial rfl trivial
 try simp at hf
 simp only [zX]
 have hik : i < k:=by
  rcases Nat.lt_or_ge i k with h1 | h1
  ·exact h1
  ·have : i = k:=by omega
   subst this
   exact absurd h.symm hf
 refine aS 448 (fun Q hQ=>by simp (disch:=first | (intros;contradiction) | omega | (simp only [zN];omega)) only [zS,zW,simprocAttr];exact hQ) ?_
 refine ⟨⟨i + 1,hik⟩,?_,by first | omega | (simp only;omega)⟩
 refine Le.lit [] [] _ _ ?_ ?_ ?_ ?_
 ·simp only [zL,simprocAttr]
  all_goals (try ((repeat' (rfl))))
 ·simp only [zL,simprocAttr]
 ·simp [rlook]
 ·(simp;done)

theorem index64_no (l : List Int) (t : Int) (hl : l.length≤1000000) (hn : ∀ i (hi : i < l.length),l[i]≠t) :
  Con Try.prog 67 [.c (.sl (l.map nrow)),I t] [] (I (-1)) []:=by
 refine C_slices_Index_int64_int64 nl nl ?_
 simp only [cz,A_slices_Index_int64_int64,argL,objL,List.length_nil,Nat.zero_add,zX]
 refine aR 16 ?_
 refine aS 64 (fun Q hQ=>by simp (disch:=intros;contradiction) only [zS,zW,simprocAttr];exact hQ) ?_
 refine aw_loopK (X:={ i : Nat // i≤l.length }) [0,1,7] (fun i=>[(8,I i.1)]) [] (fun i=>[]) (fun i=>l.length - i.1) (⟨0,by omega⟩) ?_ ?_
 ·skip
  simp only [keepS,keepE,lk_cons,List.cons_append,List.nil_append,simprocAttr]
  refine Le.lit [] [] _ _ ?_ ?_ ?_ ?_
  ·simp only [zL,simprocAttr]
  ·simp only [zL,simprocAttr]
  ·simp [rlook]
  ·(simp;done)
 rintro ⟨i,hi⟩
 simp only [keepS,keepE,lk_cons,List.cons_append,List.nil_append,simprocAttr]
 simp only [zX]
 refine aR 144 ?_
 refine aw_cond _ rfl trivial (fun ht=>?_) (fun hf=>?_)
 ·skip
  try simp at ht
  simp only [zX]
  refine aR 192 ?_
  refine aS 256 (fun Q hQ=>by simp (disch:=first | (intros;contradiction) | omega | (simp only [zN];omega)) only [zS,zW,nrow,simprocAttr];repeat refine ⟨by (omega),?_⟩;exact hQ) ?_
  refine aw_cond _ rfl trivial (fun ht=>by simp at ht;exact absurd ht.symm (hn i (by omega))) (fun hf=>?_)
  simp only [zX]
  refine aS 384 (fun Q hQ=>by simp (disch:=first | (intros;contradiction) | omega | (simp only [zN];omega)) only [zS,zW,simprocAttr];exact hQ) ?_
  refine ⟨⟨i + 1,by omega⟩,?_,by first | omega | (simp only;omega)⟩
  refine Le.lit [] [] _ _ ?_ ?_ ?_ ?_
  ·simp only [zL,simprocAttr]
   all_goals (try ((repeat' (rfl))))
  ·simp only [zL,simprocAttr]
  ·simp [rlook]
  ·(simp;done)
 try simp at hf
 simp only [zX,↓reduceIte]
 refine aR 448 ?_
 exact Fin.scalar (.inr rfl) rfl trivial rfl trivial

theorem lowV_le (v : VOL) : lowV v≤lenV v:=by
 have : ∀ (l : List Int) (n : Int),l.foldl min n≤n:=by
  intro l
  induction l with
  | nil=>intro n;exact Int.le_refl _
  | cons x l ih=>intro n;exact Int.le_trans (ih _) (Int.min_le_left ..)
 exact this v.pins v.ws.length

abbrev volA (v : VOL) : List Ent:=[.arr 2 1 (v.pins.map nrow) false,.arr 55 2 (v.ws.map wrow) false]

theorem pins_hid (v : VOL) (c : CMD) (h : v.hid = true) :
  Con Try.prog 48 [.agg (vO v (.osl 0) (.osl 1)),.agg (cmdC c)] (volA v) (.tup [.agg (vO v (.osl 0) (.osl 1)),I 28]) (volA v):=by
 refine C_volume_pins nl nl ?_
 simp only [cz,A_volume_pins,argL,objL,List.length_nil,List.length_cons,Nat.zero_add,zX,simprocAttr]
 refine aS 16 (fun Q hQ=>by simp (disch:=intros;contradiction) only [zS,vO_eq,cmdC,cC,simprocAttr];exact hQ) ?_
 refine aR 112 ?_
 refine aw_cond _ rfl trivial (fun ht=>?_) (fun hf=>?_)
 ·skip
  try simp at ht
  simp only [zX]
  refine aR 176 ?_
  refine Fin.objs [] [] (.inr rfl) rfl (by exact ⟨trivial,trivial⟩) ?_ ?_ (by simp [objL,rlook]) (by (intro k hk;simp [objL,rlook];omega))
  ·simp only [zL,simprocAttr]
   all_goals ((repeat' (first | exact trivial | rfl | (simp;done) | refine ⟨?_,?_⟩)))
  ·simp only [zL,simprocAttr]
   all_goals (exact ⟨drows_nrow _,drows_wrow _⟩)
 try simp at hf
 simp only [zX]
 rw [h] at hf;cases hf

theorem prune_no (v : VOL) (c : CMD) (ok : Vok v) (e : Int) (h : v.hid = false) (hk : c.kind = 3) (he : timeE v.floor c.at' (lowV v) = e) (he0 : e≠0) :
  Con Try.prog 48 [.agg (vO v (.osl 0) (.osl 1)),.agg (cmdC c)] (volA v) (.tup [.agg (vO v (.osl 0) (.osl 1)),I e]) (volA v):=by
 refine C_volume_pins nl nl ?_
 simp only [cz,A_volume_pins,argL,objL,List.length_nil,List.length_cons,Nat.zero_add,zX,simprocAttr]
 refine aS 16 (fun Q hQ=>by simp (disch:=intros;contradiction) only [zS,vO_eq,cmdC,cC,hk,simprocAttr];exact hQ) ?_
 refine aR 112 ?_
 refine aw_cond _ rfl trivial (fun ht=>by rw [h] at ht;cases ht) (fun hf=>?_)
 simp only [zX]
 refine aR 176 ?_
 refine aR 240 ?_
 refine aT ?_
 refine aBD 304 ?_
 refine rC [0,1] (volume_Low_con v ok.pins) ?_
 refine aM ?_
 refine rC [0,1] (volume_time_con v c.at' (lowV v)) ?_
 refine aEDs (fun Q hQ=>by simp (disch:=intros;contradiction) only [zS,he,simprocAttr];exact hQ) ?_
 refine aR 448 ?_
 refine aw_cond _ rfl trivial (fun ht=>?_) (fun hf=>by simp at hf;exact absurd hf he0)
 simp only [zX]
 refine aR 512 ?_
 refine Fin.objs [] [] (.inr rfl) rfl (by exact ⟨trivial,trivial⟩) ?_ ?_ (by simp [objL,rlook]) (by (intro k hk;simp [objL,rlook];omega))
 ·simp only [zL,simprocAttr]
  all_goals ((repeat' (first | exact trivial | rfl | (simp;done) | refine ⟨?_,?_⟩)))
 ·simp only [zL,simprocAttr]
  all_goals (exact ⟨drows_nrow _,drows_wrow _⟩)

theorem prune_yes (v : VOL) (c : CMD) (ok : Vok v) (h : v.hid = false) (hk : c.kind = 3) (he : timeE v.floor c.at' (lowV v) = 0) :
  Con Try.prog 48 [.agg (vO v (.osl 0) (.osl 1)),.agg (cmdC c)] (volA v) (.tup [.agg (vO { v with floor:=c.at' } (.osl 0) (.osl 1)),I 0]) (volA v):=by
 refine C_volume_pins nl nl ?_
 simp only [cz,A_volume_pins,argL,objL,List.length_nil,List.length_cons,Nat.zero_add,zX,simprocAttr]
 refine aS 16 (fun Q hQ=>by simp (disch:=intros;contradiction) only [zS,vO_eq,cmdC,cC,hk,simprocAttr];exact hQ) ?_
 refine aR 112 ?_
 refine aw_cond _ rfl trivial (fun ht=>by rw [h] at ht;cases ht) (fun hf=>?_)
 simp only [zX]
 refine aR 176 ?_
 refine aR 240 ?_
 refine aT ?_
 refine aBD 304 ?_
 refine rC [0,1] (volume_Low_con v ok.pins) ?_
 refine aM ?_
 refine rC [0,1] (volume_time_con v c.at' (lowV v)) ?_
 refine aEDs (fun Q hQ=>by simp (disch:=intros;contradiction) only [zS,he,simprocAttr];exact hQ) ?_
 refine aR 448 ?_
 refine aF ?_
 refine aR 512 ?_
 refine aR 608 ?_
 refine Fin.objs [] [] (.inr rfl) rfl (by exact ⟨trivial,trivial⟩) ?_ ?_ (by simp [objL,rlook]) (by (intro k hk;simp [objL,rlook];omega))
 ·simp only [zL,simprocAttr]
  all_goals ((repeat' (first | exact trivial | rfl | (simp;done) | refine ⟨?_,?_⟩)))
 ·simp only [zL,simprocAttr]
  all_goals (exact ⟨drows_nrow _,drows_wrow _⟩)

theorem pin_no (v : VOL) (c : CMD) (e : Int) (h : v.hid = false) (hk : c.kind = 4) (he : timeE v.floor c.at' (lenV v) = e) (he0 : e≠0) :
  Con Try.prog 48 [.agg (vO v (.osl 0) (.osl 1)),.agg (cmdC c)] (volA v) (.tup [.agg (vO v (.osl 0) (.osl 1)),I e]) (volA v):=by
 refine C_volume_pins nl nl ?_
 simp only [cz,A_volume_pins,argL,objL,List.length_nil,List.length_cons,Nat.zero_add,zX,simprocAttr]
 refine aS 16 (fun Q hQ=>by simp (disch:=intros;contradiction) only [zS,vO_eq,cmdC,cC,hk,simprocAttr];exact hQ) ?_
 refine aR 112 ?_
 refine aw_cond _ rfl trivial (fun ht=>by rw [h] at ht;cases ht) (fun hf=>?_)
 simp only [zX]
 refine aR 176 ?_
 refine aR 240 ?_
 refine aF ?_
 refine aR 304 ?_
 refine aT ?_
 refine aBD 368 ?_
 refine rC [0,1] (volume_Len_con v) ?_
 refine aM ?_
 refine rC [0,1] (volume_time_con v c.at' (lenV v)) ?_
 refine aEDs (fun Q hQ=>by simp (disch:=intros;contradiction) only [zS,he,simprocAttr];exact hQ) ?_
 refine aR 512 ?_
 refine aw_cond _ rfl trivial (fun ht=>?_) (fun hf=>by simp at hf;exact absurd hf he0)
 simp only [zX]
 refine aR 576 ?_
 refine Fin.objs [] [] (.inr rfl) rfl (by exact ⟨trivial,trivial⟩) ?_ ?_ (by simp [objL,rlook]) (by (intro k hk;simp [objL,rlook];omega))
 ·simp only [zL,simprocAttr]
  all_goals ((repeat' (first | exact trivial | rfl | (simp;done) | refine ⟨?_,?_⟩)))
 ·simp only [zL,simprocAttr]
  all_goals (exact ⟨drows_nrow _,drows_wrow _⟩)

theorem pin_yes (v : VOL) (c : CMD) (hp : v.pins.length < 60000) (h : v.hid = false) (hk : c.kind = 4) (he : timeE v.floor c.at' (lenV v) = 0) :
  Con Try.prog 48 [.agg (vO v (.osl 0) (.osl 1)),.agg (cmdC c)] (volA v) (.tup [.agg (vO v (.osl 2) (.osl 1)),I 0]) [.gone,.arr 55 2 (v.ws.map wrow) false,arrI 2 (isort (v.pins ++ [c.at']))]:=by
 have e1 : v.pins.map nrow ++ [[.v (.int .i64 c.at')]] = (v.pins ++ [c.at']).map nrow:=by simp [nrow]
 refine C_volume_pins nl nl ?_
 simp only [cz,A_volume_pins,argL,objL,List.length_nil,List.length_cons,Nat.zero_add,zX,simprocAttr]
 refine aS 16 (fun Q hQ=>by simp (disch:=intros;contradiction) only [zS,vO_eq,cmdC,cC,hk,simprocAttr];exact hQ) ?_
 refine aR 112 ?_
 refine aw_cond _ rfl trivial (fun ht=>by rw [h] at ht;cases ht) (fun hf=>?_)
 simp only [zX]
 refine aR 176 ?_
 refine aR 240 ?_
 refine aF ?_
 refine aR 304 ?_
 refine aT ?_
 refine aBD 368 ?_
 refine rC [0,1] (volume_Len_con v) ?_
 refine aM ?_
 refine rC [0,1] (volume_time_con v c.at' (lenV v)) ?_
 refine aEDs (fun Q hQ=>by simp (disch:=intros;contradiction) only [zS,he,simprocAttr];exact hQ) ?_
 refine aR 512 ?_
 refine aF ?_
 refine aS 576 (fun Q hQ=>by simp (disch:=intros;contradiction) only [zS,zW,e1,simprocAttr];repeat refine ⟨by ((simp;omega)),?_⟩;exact hQ) ?_
 refine aB 736 ?_
 refine rO [656] [] (sort64_con (v.pins ++ [c.at']) (by simp;omega)) ?_
 refine aE ?_
 refine aR 816 ?_
 refine Fin.objs [] [(2,656)] (.inr rfl) rfl (by exact ⟨trivial,trivial⟩) ?_ ?_ (by simp [objL,rlook]) (by (intro k hk;simp [objL,rlook];omega))
 ·simp only [zL,simprocAttr]
  all_goals ((repeat' (first | exact trivial | rfl | (simp;done) | refine ⟨?_,?_⟩)))
 ·simp only [zL,simprocAttr]
  all_goals (exact ⟨drows_wrow _,drows_nrow _⟩)

theorem unpin_no (v : VOL) (c : CMD) (ok : Vok v) (h : v.hid = false) (hk : c.kind = 5) (hn : ∀ i (hi : i < v.pins.length),v.pins[i]≠c.at') :
  Con Try.prog 48 [.agg (vO v (.osl 0) (.osl 1)),.agg (cmdC c)] (volA v) (.tup [.agg (vO v (.osl 0) (.osl 1)),I 28]) (volA v):=by
 refine C_volume_pins nl nl ?_
 simp only [cz,A_volume_pins,argL,objL,List.length_nil,List.length_cons,Nat.zero_add,zX,simprocAttr]
 refine aS 16 (fun Q hQ=>by simp (disch:=intros;contradiction) only [zS,vO_eq,cmdC,cC,hk,simprocAttr];exact hQ) ?_
 refine aR 112 ?_
 refine aw_cond _ rfl trivial (fun ht=>by rw [h] at ht;cases ht) (fun hf=>?_)
 simp only [zX]
 refine aR 176 ?_
 refine aR 240 ?_
 refine aF ?_
 refine aR 304 ?_
 refine aF ?_
 refine aB 368 ?_
 refine rC [0] (index64_no v.pins c.at' ok.pins hn) ?_
 refine aE ?_
 refine aR 496 ?_
 refine aT ?_
 refine aR 560 ?_
 refine Fin.objs [] [] (.inr rfl) rfl (by exact ⟨trivial,trivial⟩) ?_ ?_ (by simp [objL,rlook]) (by (intro k hk;simp [objL,rlook];omega))
 ·simp only [zL,simprocAttr]
  all_goals ((repeat' (first | exact trivial | rfl | (simp;done) | refine ⟨?_,?_⟩)))
 ·simp only [zL,simprocAttr]
  all_goals (exact ⟨drows_nrow _,drows_wrow _⟩)

theorem unpin_yes (v : VOL) (c : CMD) (ok : Vok v) (h : v.hid = false) (hk : c.kind = 5) (k : Nat) (hkl : k < v.pins.length) (hkt : v.pins[k] = c.at') (hn : ∀ i (hi : i < v.pins.length),i < k→v.pins[i]≠c.at') (P : List Int) (hP : v.pins.take k ++ v.pins.drop (k + 1) = P) :
  Con Try.prog 48 [.agg (vO v (.osl 0) (.osl 1)),.agg (cmdC c)] (volA v) (.tup [.agg (vO v (.osl 2) (.osl 1)),I 0]) [.gone,.arr 55 2 (v.ws.map wrow) false,arrI 2 P]:=by
 have cD:=delete64_con v.pins k (k + 1) ok.pins (by omega) (by omega)
 rw [hP] at cD
 have o2:=ok.pins
 have e1 : (k : Int) + 1 = ((k + 1 : Nat) : Int):=by omega
 refine C_volume_pins nl nl ?_
 simp only [cz,A_volume_pins,argL,objL,List.length_nil,List.length_cons,Nat.zero_add,zX,simprocAttr]
 refine aS 16 (fun Q hQ=>by simp (disch:=intros;contradiction) only [zS,vO_eq,cmdC,cC,hk,simprocAttr];exact hQ) ?_
 refine aR 112 ?_
 refine aw_cond _ rfl trivial (fun ht=>by rw [h] at ht;cases ht) (fun hf=>?_)
 simp only [zX]
 refine aR 176 ?_
 refine aR 240 ?_
 refine aF ?_
 refine aR 304 ?_
 refine aF ?_
 refine aB 368 ?_
 refine rC [0] (index64_yes v.pins c.at' k ok.pins hkl hkt hn) ?_
 refine aE ?_
 refine aR 496 ?_
 refine aw_cond _ rfl trivial (fun ht=>by simp at ht;omega) (fun hf=>?_)
 simp only [zX]
 refine aBs 560 (fun Q hQ=>by simp (disch:=first | (intros;contradiction) | omega | (simp only [zN];omega)) only [zS,zW,e1,simprocAttr];exact hQ) ?_
 refine rO [0] [] (cD) ?_
 refine aE ?_
 refine aR 720 ?_
 refine Fin.objs [] [(2,640)] (.inr rfl) rfl (by exact ⟨trivial,trivial⟩) ?_ ?_ (by simp [objL,rlook]) (by (intro k hk;simp [objL,rlook];omega))
 ·simp only [zL,simprocAttr]
  all_goals ((repeat' (first | exact trivial | rfl | (simp;done) | refine ⟨?_,?_⟩)))
 ·simp only [zL,simprocAttr]
  all_goals (exact ⟨drows_wrow _,drows_nrow _⟩)

end Go.Abs

namespace Go.Abs
open Go Go.Proofs
set_option maxRecDepth 100000
set_option linter.unusedSimpArgs false
set_option maxHeartbeats 4000000

theorem timeE_of {f t m : Int} : timeE f t m = 0 ↔ f≤t∧t≤m:=by unfold timeE;split;omega;split <;> omega

theorem Do_hid3 (v : VOL) (c : CMD) (ok : Vok v) (hk : c.kind = 3) (h : v.hid = true) : Con Try.prog 18 [.agg (volC v),.agg (cmdC c)] [] (doR (fail v 28)) []:=by
 have k2 : (c.kind == 2) = false:=by rw [hk];rfl
 have k3 : (c.kind == 3) = true:=by rw [hk];rfl
 have k4 : (c.kind == 4) = false:=by rw [hk];rfl
 have k5 : (c.kind == 5) = false:=by rw [hk];rfl
 have k6 : (c.kind == 6) = false:=by rw [hk];rfl
 have k7 : (c.kind == 7) = false:=by rw [hk];rfl
 have k8 : (c.kind == 8) = false:=by rw [hk];rfl
 refine C_volume_Do nl nl ?_
 simp only [cz,A_volume_Do,argL,objL,List.length_nil,Nat.zero_add,zX]
 refine aS 16 (fun Q hQ=>by simp (disch:=intros;contradiction) only [zS,vC_eq,cmdC,cC,simprocAttr];exact hQ) ?_
 refine aB 112 ?_
 refine rO [] [] (volume_copied_con v ok) ?_
 refine aE ?_
 refine aB 224 ?_
 refine rO [] [] (volume_copied_con v ok) ?_
 refine aE ?_
 refine aR 304 ?_
 refine aS 368 (fun Q hQ=>by simp (disch:=intros;contradiction) only [zS,k2,simprocAttr];exact hQ) ?_
 refine aF ?_
 refine aS 432 (fun Q hQ=>by simp (disch:=intros;contradiction) only [zS,k3,simprocAttr];exact hQ) ?_
 refine aT ?_
 refine aw_cond _ rfl trivial (fun ht=>?_) (fun hf=>by cases hf)
 refine aB 496 ?_
 refine rO [240,241] [] (pins_hid v c h) ?_
 refine aEs (fun Q hQ=>by simp (disch:=intros;contradiction) only [zS,vO_eq,simprocAttr];exact hQ) ?_
 refine aR 656 ?_
 refine aT ?_
 refine aR 720 ?_
 refine Fin.data [128,129] (.inr rfl) rfl (by (exact ⟨trivial,trivial,trivial⟩)) ?_
 simp only [zL,simprocAttr]
 all_goals ((repeat' (first | exact trivial | rfl | (refine ⟨⟨_,_,rfl⟩,?_⟩;(first | exact drows_nrow _ | exact drows_wrow _)) | refine ⟨?_,?_⟩)))

theorem Do_hid4 (v : VOL) (c : CMD) (ok : Vok v) (hk : c.kind = 4) (h : v.hid = true) : Con Try.prog 18 [.agg (volC v),.agg (cmdC c)] [] (doR (fail v 28)) []:=by
 have k2 : (c.kind == 2) = false:=by rw [hk];rfl
 have k3 : (c.kind == 3) = false:=by rw [hk];rfl
 have k4 : (c.kind == 4) = true:=by rw [hk];rfl
 have k5 : (c.kind == 5) = false:=by rw [hk];rfl
 have k6 : (c.kind == 6) = false:=by rw [hk];rfl
 have k7 : (c.kind == 7) = false:=by rw [hk];rfl
 have k8 : (c.kind == 8) = false:=by rw [hk];rfl
 refine C_volume_Do nl nl ?_
 simp only [cz,A_volume_Do,argL,objL,List.length_nil,Nat.zero_add,zX]
 refine aS 16 (fun Q hQ=>by simp (disch:=intros;contradiction) only [zS,vC_eq,cmdC,cC,simprocAttr];exact hQ) ?_
 refine aB 112 ?_
 refine rO [] [] (volume_copied_con v ok) ?_
 refine aE ?_
 refine aB 224 ?_
 refine rO [] [] (volume_copied_con v ok) ?_
 refine aE ?_
 refine aR 304 ?_
 refine aS 368 (fun Q hQ=>by simp (disch:=intros;contradiction) only [zS,k2,simprocAttr];exact hQ) ?_
 refine aF ?_
 refine aS 432 (fun Q hQ=>by simp (disch:=intros;contradiction) only [zS,k3,simprocAttr];exact hQ) ?_
 refine aF ?_
 refine aS 496 (fun Q hQ=>by simp (disch:=intros;contradiction) only [zS,k4,simprocAttr];exact hQ) ?_
 refine aT ?_
 refine aw_cond _ rfl trivial (fun ht=>?_) (fun hf=>by cases hf)
 refine aB 560 ?_
 refine rO [240,241] [] (pins_hid v c h) ?_
 refine aEs (fun Q hQ=>by simp (disch:=intros;contradiction) only [zS,vO_eq,simprocAttr];exact hQ) ?_
 refine aR 720 ?_
 refine aT ?_
 refine aR 784 ?_
 refine Fin.data [128,129] (.inr rfl) rfl (by (exact ⟨trivial,trivial,trivial⟩)) ?_
 simp only [zL,simprocAttr]
 all_goals ((repeat' (first | exact trivial | rfl | (refine ⟨⟨_,_,rfl⟩,?_⟩;(first | exact drows_nrow _ | exact drows_wrow _)) | refine ⟨?_,?_⟩)))

theorem Do_hid5 (v : VOL) (c : CMD) (ok : Vok v) (hk : c.kind = 5) (h : v.hid = true) : Con Try.prog 18 [.agg (volC v),.agg (cmdC c)] [] (doR (fail v 28)) []:=by
 have k2 : (c.kind == 2) = false:=by rw [hk];rfl
 have k3 : (c.kind == 3) = false:=by rw [hk];rfl
 have k4 : (c.kind == 4) = false:=by rw [hk];rfl
 have k5 : (c.kind == 5) = true:=by rw [hk];rfl
 have k6 : (c.kind == 6) = false:=by rw [hk];rfl
 have k7 : (c.kind == 7) = false:=by rw [hk];rfl
 have k8 : (c.kind == 8) = false:=by rw [hk];rfl
 refine C_volume_Do nl nl ?_
 simp only [cz,A_volume_Do,argL,objL,List.length_nil,Nat.zero_add,zX]
 refine aS 16 (fun Q hQ=>by simp (disch:=intros;contradiction) only [zS,vC_eq,cmdC,cC,simprocAttr];exact hQ) ?_
 refine aB 112 ?_
 refine rO [] [] (volume_copied_con v ok) ?_
 refine aE ?_
 refine aB 224 ?_
 refine rO [] [] (volume_copied_con v ok) ?_
 refine aE ?_
 refine aR 304 ?_
 refine aS 368 (fun Q hQ=>by simp (disch:=intros;contradiction) only [zS,k2,simprocAttr];exact hQ) ?_
 refine aF ?_
 refine aS 432 (fun Q hQ=>by simp (disch:=intros;contradiction) only [zS,k3,simprocAttr];exact hQ) ?_
 refine aF ?_
 refine aS 496 (fun Q hQ=>by simp (disch:=intros;contradiction) only [zS,k4,simprocAttr];exact hQ) ?_
 refine aw_cond _ rfl trivial (fun ht=>by cases ht) (fun hf=>?_)
 refine aS 560 (fun Q hQ=>by simp (disch:=intros;contradiction) only [zS,k5,simprocAttr];exact hQ) ?_
 refine aw_cond _ rfl trivial (fun ht=>?_) (fun hf=>by cases hf)
 refine aB 624 ?_
 refine rO [240,241] [] (pins_hid v c h) ?_
 refine aEs (fun Q hQ=>by simp (disch:=intros;contradiction) only [zS,vO_eq,simprocAttr];exact hQ) ?_
 refine aR 784 ?_
 refine aT ?_
 refine aR 848 ?_
 refine Fin.data [128,129] (.inr rfl) rfl (by (exact ⟨trivial,trivial,trivial⟩)) ?_
 simp only [zL,simprocAttr]
 all_goals ((repeat' (first | exact trivial | rfl | (refine ⟨⟨_,_,rfl⟩,?_⟩;(first | exact drows_nrow _ | exact drows_wrow _)) | refine ⟨?_,?_⟩)))

theorem Do_prune_no (v : VOL) (c : CMD) (ok : Vok v) (hk : c.kind = 3) (h : v.hid = false) (e : Int) (he : timeE v.floor c.at' (lowV v) = e) (he0 : e≠0) : Con Try.prog 18 [.agg (volC v),.agg (cmdC c)] [] (doR (fail v e)) []:=by
 have k2 : (c.kind == 2) = false:=by rw [hk];rfl
 have k3 : (c.kind == 3) = true:=by rw [hk];rfl
 have k4 : (c.kind == 4) = false:=by rw [hk];rfl
 have k5 : (c.kind == 5) = false:=by rw [hk];rfl
 have k6 : (c.kind == 6) = false:=by rw [hk];rfl
 have k7 : (c.kind == 7) = false:=by rw [hk];rfl
 have k8 : (c.kind == 8) = false:=by rw [hk];rfl
 refine C_volume_Do nl nl ?_
 simp only [cz,A_volume_Do,argL,objL,List.length_nil,Nat.zero_add,zX]
 refine aS 16 (fun Q hQ=>by simp (disch:=intros;contradiction) only [zS,vC_eq,cmdC,cC,simprocAttr];exact hQ) ?_
 refine aB 112 ?_
 refine rO [] [] (volume_copied_con v ok) ?_
 refine aE ?_
 refine aB 224 ?_
 refine rO [] [] (volume_copied_con v ok) ?_
 refine aE ?_
 refine aR 304 ?_
 refine aS 368 (fun Q hQ=>by simp (disch:=intros;contradiction) only [zS,k2,simprocAttr];exact hQ) ?_
 refine aF ?_
 refine aS 432 (fun Q hQ=>by simp (disch:=intros;contradiction) only [zS,k3,simprocAttr];exact hQ) ?_
 refine aT ?_
 refine aw_cond _ rfl trivial (fun ht=>?_) (fun hf=>by cases hf)
 refine aB 496 ?_
 refine rO [240,241] [] (prune_no v c ok e h hk he he0) ?_
 refine aEs (fun Q hQ=>by simp (disch:=intros;contradiction) only [zS,vO_eq,simprocAttr];exact hQ) ?_
 refine aR 656 ?_
 refine aw_cond _ rfl trivial (fun ht=>?_) (fun hf=>by simp at hf;exact absurd hf he0)
 simp only [zX]
 refine aR 720 ?_
 refine Fin.data [128,129] (.inr rfl) rfl (by (exact ⟨trivial,trivial,trivial⟩)) ?_
 simp only [zL,simprocAttr]
 all_goals ((repeat' (first | exact trivial | rfl | (refine ⟨⟨_,_,rfl⟩,?_⟩;(first | exact drows_nrow _ | exact drows_wrow _)) | refine ⟨?_,?_⟩)))

theorem Do_prune_yes (v : VOL) (c : CMD) (ok : Vok v) (hk : c.kind = 3) (h : v.hid = false) (he : timeE v.floor c.at' (lowV v) = 0) : Con Try.prog 18 [.agg (volC v),.agg (cmdC c)] [] (doR (done { v with floor:=c.at' })) []:=by
 have k2 : (c.kind == 2) = false:=by rw [hk];rfl
 have k3 : (c.kind == 3) = true:=by rw [hk];rfl
 have k4 : (c.kind == 4) = false:=by rw [hk];rfl
 have k5 : (c.kind == 5) = false:=by rw [hk];rfl
 have k6 : (c.kind == 6) = false:=by rw [hk];rfl
 have k7 : (c.kind == 7) = false:=by rw [hk];rfl
 have k8 : (c.kind == 8) = false:=by rw [hk];rfl
 refine C_volume_Do nl nl ?_
 simp only [cz,A_volume_Do,argL,objL,List.length_nil,Nat.zero_add,zX]
 refine aS 16 (fun Q hQ=>by simp (disch:=intros;contradiction) only [zS,vC_eq,cmdC,cC,simprocAttr];exact hQ) ?_
 refine aB 112 ?_
 refine rO [] [] (volume_copied_con v ok) ?_
 refine aE ?_
 refine aB 224 ?_
 refine rO [] [] (volume_copied_con v ok) ?_
 refine aE ?_
 refine aR 304 ?_
 refine aS 368 (fun Q hQ=>by simp (disch:=intros;contradiction) only [zS,k2,simprocAttr];exact hQ) ?_
 refine aF ?_
 refine aS 432 (fun Q hQ=>by simp (disch:=intros;contradiction) only [zS,k3,simprocAttr];exact hQ) ?_
 refine aT ?_
 refine aw_cond _ rfl trivial (fun ht=>?_) (fun hf=>by cases hf)
 refine aB 496 ?_
 refine rO [240,241] [] (prune_yes v c ok h hk he) ?_
 refine aEs (fun Q hQ=>by simp (disch:=intros;contradiction) only [zS,vO_eq,simprocAttr];exact hQ) ?_
 refine aR 656 ?_
 refine aF ?_
 refine aBD 720 ?_
 refine rC [240,241] (volume_Len_con { v with floor:=c.at' }) ?_
 refine aED ?_
 refine Fin.data [240,241] (.inr rfl) rfl (by (exact ⟨trivial,trivial,trivial⟩)) ?_
 simp only [zL,simprocAttr]
 all_goals ((repeat' (first | exact trivial | rfl | (refine ⟨⟨_,_,rfl⟩,?_⟩;(first | exact drows_nrow _ | exact drows_wrow _)) | refine ⟨?_,?_⟩)))

theorem Do_pin_no (v : VOL) (c : CMD) (ok : Vok v) (hk : c.kind = 4) (h : v.hid = false) (e : Int) (he : timeE v.floor c.at' (lenV v) = e) (he0 : e≠0) : Con Try.prog 18 [.agg (volC v),.agg (cmdC c)] [] (doR (fail v e)) []:=by
 have k2 : (c.kind == 2) = false:=by rw [hk];rfl
 have k3 : (c.kind == 3) = false:=by rw [hk];rfl
 have k4 : (c.kind == 4) = true:=by rw [hk];rfl
 have k5 : (c.kind == 5) = false:=by rw [hk];rfl
 have k6 : (c.kind == 6) = false:=by rw [hk];rfl
 have k7 : (c.kind == 7) = false:=by rw [hk];rfl
 have k8 : (c.kind == 8) = false:=by rw [hk];rfl
 refine C_volume_Do nl nl ?_
 simp only [cz,A_volume_Do,argL,objL,List.length_nil,Nat.zero_add,zX]
 refine aS 16 (fun Q hQ=>by simp (disch:=intros;contradiction) only [zS,vC_eq,cmdC,cC,simprocAttr];exact hQ) ?_
 refine aB 112 ?_
 refine rO [] [] (volume_copied_con v ok) ?_
 refine aE ?_
 refine aB 224 ?_
 refine rO [] [] (volume_copied_con v ok) ?_
 refine aE ?_
 refine aR 304 ?_
 refine aS 368 (fun Q hQ=>by simp (disch:=intros;contradiction) only [zS,k2,simprocAttr];exact hQ) ?_
 refine aF ?_
 refine aS 432 (fun Q hQ=>by simp (disch:=intros;contradiction) only [zS,k3,simprocAttr];exact hQ) ?_
 refine aF ?_
 refine aS 496 (fun Q hQ=>by simp (disch:=intros;contradiction) only [zS,k4,simprocAttr];exact hQ) ?_
 refine aT ?_
 refine aw_cond _ rfl trivial (fun ht=>?_) (fun hf=>by cases hf)
 refine aB 560 ?_
 refine rO [240,241] [] (pin_no v c e h hk he he0) ?_
 refine aEs (fun Q hQ=>by simp (disch:=intros;contradiction) only [zS,vO_eq,simprocAttr];exact hQ) ?_
 refine aR 720 ?_
 refine aw_cond _ rfl trivial (fun ht=>?_) (fun hf=>by simp at hf;exact absurd hf he0)
 simp only [zX]
 refine aR 784 ?_
 refine Fin.data [128,129] (.inr rfl) rfl (by (exact ⟨trivial,trivial,trivial⟩)) ?_
 simp only [zL,simprocAttr]
 all_goals ((repeat' (first | exact trivial | rfl | (refine ⟨⟨_,_,rfl⟩,?_⟩;(first | exact drows_nrow _ | exact drows_wrow _)) | refine ⟨?_,?_⟩)))

theorem Do_pin_yes (v : VOL) (c : CMD) (ok : Vok v) (hk : c.kind = 4) (hp : v.pins.length < 60000) (h : v.hid = false) (he : timeE v.floor c.at' (lenV v) = 0) : Con Try.prog 18 [.agg (volC v),.agg (cmdC c)] [] (doR (done { v with pins:=isort (v.pins ++ [c.at']) })) []:=by
 have k2 : (c.kind == 2) = false:=by rw [hk];rfl
 have k3 : (c.kind == 3) = false:=by rw [hk];rfl
 have k4 : (c.kind == 4) = true:=by rw [hk];rfl
 have k5 : (c.kind == 5) = false:=by rw [hk];rfl
 have k6 : (c.kind == 6) = false:=by rw [hk];rfl
 have k7 : (c.kind == 7) = false:=by rw [hk];rfl
 have k8 : (c.kind == 8) = false:=by rw [hk];rfl
 refine C_volume_Do nl nl ?_
 simp only [cz,A_volume_Do,argL,objL,List.length_nil,Nat.zero_add,zX]
 refine aS 16 (fun Q hQ=>by simp (disch:=intros;contradiction) only [zS,vC_eq,cmdC,cC,simprocAttr];exact hQ) ?_
 refine aB 112 ?_
 refine rO [] [] (volume_copied_con v ok) ?_
 refine aE ?_
 refine aB 224 ?_
 refine rO [] [] (volume_copied_con v ok) ?_
 refine aE ?_
 refine aR 304 ?_
 refine aS 368 (fun Q hQ=>by simp (disch:=intros;contradiction) only [zS,k2,simprocAttr];exact hQ) ?_
 refine aF ?_
 refine aS 432 (fun Q hQ=>by simp (disch:=intros;contradiction) only [zS,k3,simprocAttr];exact hQ) ?_
 refine aF ?_
 refine aS 496 (fun Q hQ=>by simp (disch:=intros;contradiction) only [zS,k4,simprocAttr];exact hQ) ?_
 refine aT ?_
 refine aw_cond _ rfl trivial (fun ht=>?_) (fun hf=>by cases hf)
 refine aB 560 ?_
 refine rO [240,241] [] (pin_yes v c hp h hk he) ?_
 refine aEs (fun Q hQ=>by simp (disch:=intros;contradiction) only [zS,vO_eq,simprocAttr];exact hQ) ?_
 refine aR 720 ?_
 refine aF ?_
 refine aBD 784 ?_
 refine rC [592,241] (volume_Len_con { v with pins:=isort (v.pins ++ [c.at']) }) ?_
 refine aED ?_
 refine Fin.data [592,241] (.inr rfl) rfl (by (exact ⟨trivial,trivial,trivial⟩)) ?_
 simp only [zL,simprocAttr]
 all_goals ((repeat' (first | exact trivial | rfl | (refine ⟨⟨_,_,rfl⟩,?_⟩;(first | exact drows_nrow _ | exact drows_wrow _)) | refine ⟨?_,?_⟩)))

theorem Do_unpin_no (v : VOL) (c : CMD) (ok : Vok v) (hk : c.kind = 5) (h : v.hid = false) (hn : ∀ i (hi : i < v.pins.length),v.pins[i]≠c.at') : Con Try.prog 18 [.agg (volC v),.agg (cmdC c)] [] (doR (fail v 28)) []:=by
 have k2 : (c.kind == 2) = false:=by rw [hk];rfl
 have k3 : (c.kind == 3) = false:=by rw [hk];rfl
 have k4 : (c.kind == 4) = false:=by rw [hk];rfl
 have k5 : (c.kind == 5) = true:=by rw [hk];rfl
 have k6 : (c.kind == 6) = false:=by rw [hk];rfl
 have k7 : (c.kind == 7) = false:=by rw [hk];rfl
 have k8 : (c.kind == 8) = false:=by rw [hk];rfl
 refine C_volume_Do nl nl ?_
 simp only [cz,A_volume_Do,argL,objL,List.length_nil,Nat.zero_add,zX]
 refine aS 16 (fun Q hQ=>by simp (disch:=intros;contradiction) only [zS,vC_eq,cmdC,cC,simprocAttr];exact hQ) ?_
 refine aB 112 ?_
 refine rO [] [] (volume_copied_con v ok) ?_
 refine aE ?_
 refine aB 224 ?_
 refine rO [] [] (volume_copied_con v ok) ?_
 refine aE ?_
 refine aR 304 ?_
 refine aS 368 (fun Q hQ=>by simp (disch:=intros;contradiction) only [zS,k2,simprocAttr];exact hQ) ?_
 refine aF ?_
 refine aS 432 (fun Q hQ=>by simp (disch:=intros;contradiction) only [zS,k3,simprocAttr];exact hQ) ?_
 refine aF ?_
 refine aS 496 (fun Q hQ=>by simp (disch:=intros;contradiction) only [zS,k4,simprocAttr];exact hQ) ?_
 refine aw_cond _ rfl trivial (fun ht=>by cases ht) (fun hf=>?_)
 refine aS 560 (fun Q hQ=>by simp (disch:=intros;contradiction) only [zS,k5,simprocAttr];exact hQ) ?_
 refine aw_cond _ rfl trivial (fun ht=>?_) (fun hf=>by cases hf)
 refine aB 624 ?_
 refine rO [240,241] [] (unpin_no v c ok h hk hn) ?_
 refine aEs (fun Q hQ=>by simp (disch:=intros;contradiction) only [zS,vO_eq,simprocAttr];exact hQ) ?_
 refine aR 784 ?_
 refine aT ?_
 refine aR 848 ?_
 refine Fin.data [128,129] (.inr rfl) rfl (by (exact ⟨trivial,trivial,trivial⟩)) ?_
 simp only [zL,simprocAttr]
 all_goals ((repeat' (first | exact trivial | rfl | (refine ⟨⟨_,_,rfl⟩,?_⟩;(first | exact drows_nrow _ | exact drows_wrow _)) | refine ⟨?_,?_⟩)))

theorem Do_unpin_yes (v : VOL) (c : CMD) (ok : Vok v) (hk : c.kind = 5) (h : v.hid = false) (k : Nat) (hkl : k < v.pins.length) (hkt : v.pins[k] = c.at') (hn : ∀ i (hi : i < v.pins.length),i < k→v.pins[i]≠c.at') (P : List Int) (hP : v.pins.take k ++ v.pins.drop (k + 1) = P) : Con Try.prog 18 [.agg (volC v),.agg (cmdC c)] [] (doR (done { v with pins:=P })) []:=by
 have k2 : (c.kind == 2) = false:=by rw [hk];rfl
 have k3 : (c.kind == 3) = false:=by rw [hk];rfl
 have k4 : (c.kind == 4) = false:=by rw [hk];rfl
 have k5 : (c.kind == 5) = true:=by rw [hk];rfl
 have k6 : (c.kind == 6) = false:=by rw [hk];rfl
 have k7 : (c.kind == 7) = false:=by rw [hk];rfl
 have k8 : (c.kind == 8) = false:=by rw [hk];rfl
 refine C_volume_Do nl nl ?_
 simp only [cz,A_volume_Do,argL,objL,List.length_nil,Nat.zero_add,zX]
 refine aS 16 (fun Q hQ=>by simp (disch:=intros;contradiction) only [zS,vC_eq,cmdC,cC,simprocAttr];exact hQ) ?_
 refine aB 112 ?_
 refine rO [] [] (volume_copied_con v ok) ?_
 refine aE ?_
 refine aB 224 ?_
 refine rO [] [] (volume_copied_con v ok) ?_
 refine aE ?_
 refine aR 304 ?_
 refine aS 368 (fun Q hQ=>by simp (disch:=intros;contradiction) only [zS,k2,simprocAttr];exact hQ) ?_
 refine aF ?_
 refine aS 432 (fun Q hQ=>by simp (disch:=intros;contradiction) only [zS,k3,simprocAttr];exact hQ) ?_
 refine aF ?_
 refine aS 496 (fun Q hQ=>by simp (disch:=intros;contradiction) only [zS,k4,simprocAttr];exact hQ) ?_
 refine aw_cond _ rfl trivial (fun ht=>by cases ht) (fun hf=>?_)
 refine aS 560 (fun Q hQ=>by simp (disch:=intros;contradiction) only [zS,k5,simprocAttr];exact hQ) ?_
 refine aw_cond _ rfl trivial (fun ht=>?_) (fun hf=>by cases hf)
 refine aB 624 ?_
 refine rO [240,241] [] (unpin_yes v c ok h hk k hkl hkt hn P hP) ?_
 refine aEs (fun Q hQ=>by simp (disch:=intros;contradiction) only [zS,vO_eq,simprocAttr];exact hQ) ?_
 refine aR 784 ?_
 refine aF ?_
 refine aBD 848 ?_
 refine rC [656,241] (volume_Len_con { v with pins:=P }) ?_
 refine aED ?_
 refine Fin.data [656,241] (.inr rfl) rfl (by (exact ⟨trivial,trivial,trivial⟩)) ?_
 simp only [zL,simprocAttr]
 all_goals ((repeat' (first | exact trivial | rfl | (refine ⟨⟨_,_,rfl⟩,?_⟩;(first | exact drows_nrow _ | exact drows_wrow _)) | refine ⟨?_,?_⟩)))

theorem Do_imp6_no (v : VOL) (c : CMD) (ok : Vok v) (hk : c.kind = 6) (hl : c.items.length≤1000000) (hd : ∀ x ∈ c.items,x.d.length≤1000000) (w : VOL) (e : Int) (h : impS v c = some (w,e)) (he0 : e≠0) : Con Try.prog 18 [.agg (volC v),.agg (cmdC c)] [] (doR (fail v e)) []:=by
 have k2 : (c.kind == 2) = false:=by rw [hk];rfl
 have k3 : (c.kind == 3) = false:=by rw [hk];rfl
 have k4 : (c.kind == 4) = false:=by rw [hk];rfl
 have k5 : (c.kind == 5) = false:=by rw [hk];rfl
 have k6 : (c.kind == 6) = true:=by rw [hk];rfl
 have k7 : (c.kind == 7) = false:=by rw [hk];rfl
 have k8 : (c.kind == 8) = false:=by rw [hk];rfl
 refine C_volume_Do nl nl ?_
 simp only [cz,A_volume_Do,argL,objL,List.length_nil,Nat.zero_add,zX]
 refine aS 16 (fun Q hQ=>by simp (disch:=intros;contradiction) only [zS,vC_eq,cmdC,cC,simprocAttr];exact hQ) ?_
 refine aB 112 ?_
 refine rO [] [] (volume_copied_con v ok) ?_
 refine aE ?_
 refine aB 224 ?_
 refine rO [] [] (volume_copied_con v ok) ?_
 refine aE ?_
 refine aR 304 ?_
 refine aS 368 (fun Q hQ=>by simp (disch:=intros;contradiction) only [zS,k2,simprocAttr];exact hQ) ?_
 refine aF ?_
 refine aS 432 (fun Q hQ=>by simp (disch:=intros;contradiction) only [zS,k3,simprocAttr];exact hQ) ?_
 refine aF ?_
 refine aS 496 (fun Q hQ=>by simp (disch:=intros;contradiction) only [zS,k4,simprocAttr];exact hQ) ?_
 refine aw_cond _ rfl trivial (fun ht=>by cases ht) (fun hf=>?_)
 refine aS 560 (fun Q hQ=>by simp (disch:=intros;contradiction) only [zS,k5,simprocAttr];exact hQ) ?_
 refine aF ?_
 refine aS 624 (fun Q hQ=>by simp (disch:=intros;contradiction) only [zS,k6,simprocAttr];exact hQ) ?_
 refine aT ?_
 refine aw_cond _ rfl trivial (fun ht=>?_) (fun hf=>by cases hf)
 refine aB 688 ?_
 refine rO [240,241] [] (volume_imports_same v c ok hl hd w e h) ?_
 refine aEs (fun Q hQ=>by simp (disch:=intros;contradiction) only [zS,vO_eq,simprocAttr];exact hQ) ?_
 refine aR 848 ?_
 refine aw_cond _ rfl trivial (fun ht=>?_) (fun hf=>by simp at hf;exact absurd hf he0)
 simp only [zX]
 refine aR 912 ?_
 refine Fin.data [128,129] (.inr rfl) rfl (by (exact ⟨trivial,trivial,trivial⟩)) ?_
 simp only [zL,simprocAttr]
 all_goals ((repeat' (first | exact trivial | rfl | (refine ⟨⟨_,_,rfl⟩,?_⟩;(first | exact drows_nrow _ | exact drows_wrow _)) | refine ⟨?_,?_⟩)))

theorem Do_imp6_same (v : VOL) (c : CMD) (ok : Vok v) (hk : c.kind = 6) (hl : c.items.length≤1000000) (hd : ∀ x ∈ c.items,x.d.length≤1000000) (h : impS v c = some (v,0)) : Con Try.prog 18 [.agg (volC v),.agg (cmdC c)] [] (doR (done (v))) []:=by
 have k2 : (c.kind == 2) = false:=by rw [hk];rfl
 have k3 : (c.kind == 3) = false:=by rw [hk];rfl
 have k4 : (c.kind == 4) = false:=by rw [hk];rfl
 have k5 : (c.kind == 5) = false:=by rw [hk];rfl
 have k6 : (c.kind == 6) = true:=by rw [hk];rfl
 have k7 : (c.kind == 7) = false:=by rw [hk];rfl
 have k8 : (c.kind == 8) = false:=by rw [hk];rfl
 refine C_volume_Do nl nl ?_
 simp only [cz,A_volume_Do,argL,objL,List.length_nil,Nat.zero_add,zX]
 refine aS 16 (fun Q hQ=>by simp (disch:=intros;contradiction) only [zS,vC_eq,cmdC,cC,simprocAttr];exact hQ) ?_
 refine aB 112 ?_
 refine rO [] [] (volume_copied_con v ok) ?_
 refine aE ?_
 refine aB 224 ?_
 refine rO [] [] (volume_copied_con v ok) ?_
 refine aE ?_
 refine aR 304 ?_
 refine aS 368 (fun Q hQ=>by simp (disch:=intros;contradiction) only [zS,k2,simprocAttr];exact hQ) ?_
 refine aF ?_
 refine aS 432 (fun Q hQ=>by simp (disch:=intros;contradiction) only [zS,k3,simprocAttr];exact hQ) ?_
 refine aF ?_
 refine aS 496 (fun Q hQ=>by simp (disch:=intros;contradiction) only [zS,k4,simprocAttr];exact hQ) ?_
 refine aw_cond _ rfl trivial (fun ht=>by cases ht) (fun hf=>?_)
 refine aS 560 (fun Q hQ=>by simp (disch:=intros;contradiction) only [zS,k5,simprocAttr];exact hQ) ?_
 refine aF ?_
 refine aS 624 (fun Q hQ=>by simp (disch:=intros;contradiction) only [zS,k6,simprocAttr];exact hQ) ?_
 refine aT ?_
 refine aw_cond _ rfl trivial (fun ht=>?_) (fun hf=>by cases hf)
 refine aB 688 ?_
 refine rO [240,241] [] (volume_imports_same v c ok hl hd _ 0 h) ?_
 refine aEs (fun Q hQ=>by simp (disch:=intros;contradiction) only [zS,vO_eq,simprocAttr];exact hQ) ?_
 refine aR 848 ?_
 refine aF ?_
 refine aBD 912 ?_
 refine rC [240,241] (volume_Len_con (v)) ?_
 refine aED ?_
 refine Fin.data [240,241] (.inr rfl) rfl (by (exact ⟨trivial,trivial,trivial⟩)) ?_
 simp only [zL,simprocAttr]
 all_goals ((repeat' (first | exact trivial | rfl | (refine ⟨⟨_,_,rfl⟩,?_⟩;(first | exact drows_nrow _ | exact drows_wrow _)) | refine ⟨?_,?_⟩)))

theorem Do_imp6_write (v : VOL) (c : CMD) (ok : Vok v) (hk : c.kind = 6) (hl : c.items.length≤1000000) (hd : ∀ x ∈ c.items,x.d.length≤1000000) (hn : v.next≤1099511627776∧0≤v.next) (h : impS v c = none) : Con Try.prog 18 [.agg (volC v),.agg (cmdC c)] [] (doR (done (addN v c.items))) []:=by
 have k2 : (c.kind == 2) = false:=by rw [hk];rfl
 have k3 : (c.kind == 3) = false:=by rw [hk];rfl
 have k4 : (c.kind == 4) = false:=by rw [hk];rfl
 have k5 : (c.kind == 5) = false:=by rw [hk];rfl
 have k6 : (c.kind == 6) = true:=by rw [hk];rfl
 have k7 : (c.kind == 7) = false:=by rw [hk];rfl
 have k8 : (c.kind == 8) = false:=by rw [hk];rfl
 refine C_volume_Do nl nl ?_
 simp only [cz,A_volume_Do,argL,objL,List.length_nil,Nat.zero_add,zX]
 refine aS 16 (fun Q hQ=>by simp (disch:=intros;contradiction) only [zS,vC_eq,cmdC,cC,simprocAttr];exact hQ) ?_
 refine aB 112 ?_
 refine rO [] [] (volume_copied_con v ok) ?_
 refine aE ?_
 refine aB 224 ?_
 refine rO [] [] (volume_copied_con v ok) ?_
 refine aE ?_
 refine aR 304 ?_
 refine aS 368 (fun Q hQ=>by simp (disch:=intros;contradiction) only [zS,k2,simprocAttr];exact hQ) ?_
 refine aF ?_
 refine aS 432 (fun Q hQ=>by simp (disch:=intros;contradiction) only [zS,k3,simprocAttr];exact hQ) ?_
 refine aF ?_
 refine aS 496 (fun Q hQ=>by simp (disch:=intros;contradiction) only [zS,k4,simprocAttr];exact hQ) ?_
 refine aw_cond _ rfl trivial (fun ht=>by cases ht) (fun hf=>?_)
 refine aS 560 (fun Q hQ=>by simp (disch:=intros;contradiction) only [zS,k5,simprocAttr];exact hQ) ?_
 refine aF ?_
 refine aS 624 (fun Q hQ=>by simp (disch:=intros;contradiction) only [zS,k6,simprocAttr];exact hQ) ?_
 refine aT ?_
 refine aw_cond _ rfl trivial (fun ht=>?_) (fun hf=>by cases hf)
 refine aB 688 ?_
 refine rO [240,241] [] (volume_imports_write v c ok hl hd hn h) ?_
 refine aEs (fun Q hQ=>by simp (disch:=intros;contradiction) only [zS,vO_eq,simprocAttr];exact hQ) ?_
 refine aR 848 ?_
 refine aF ?_
 refine aBD 912 ?_
 refine rC [240,720] (volume_Len_con (addN v c.items)) ?_
 refine aED ?_
 refine Fin.data [240,720] (.inr rfl) rfl (by (exact ⟨trivial,trivial,trivial⟩)) ?_
 simp only [zL,simprocAttr]
 all_goals ((repeat' (first | exact trivial | rfl | (refine ⟨⟨_,_,rfl⟩,?_⟩;(first | exact drows_nrow _ | exact drows_wrow _)) | refine ⟨?_,?_⟩)))

theorem Do_imp7_no (v : VOL) (c : CMD) (ok : Vok v) (hk : c.kind = 7) (hl : c.items.length≤1000000) (hd : ∀ x ∈ c.items,x.d.length≤1000000) (w : VOL) (e : Int) (h : impS v c = some (w,e)) (he0 : e≠0) : Con Try.prog 18 [.agg (volC v),.agg (cmdC c)] [] (doR (fail v e)) []:=by
 have k2 : (c.kind == 2) = false:=by rw [hk];rfl
 have k3 : (c.kind == 3) = false:=by rw [hk];rfl
 have k4 : (c.kind == 4) = false:=by rw [hk];rfl
 have k5 : (c.kind == 5) = false:=by rw [hk];rfl
 have k6 : (c.kind == 6) = false:=by rw [hk];rfl
 have k7 : (c.kind == 7) = true:=by rw [hk];rfl
 have k8 : (c.kind == 8) = false:=by rw [hk];rfl
 refine C_volume_Do nl nl ?_
 simp only [cz,A_volume_Do,argL,objL,List.length_nil,Nat.zero_add,zX]
 refine aS 16 (fun Q hQ=>by simp (disch:=intros;contradiction) only [zS,vC_eq,cmdC,cC,simprocAttr];exact hQ) ?_
 refine aB 112 ?_
 refine rO [] [] (volume_copied_con v ok) ?_
 refine aE ?_
 refine aB 224 ?_
 refine rO [] [] (volume_copied_con v ok) ?_
 refine aE ?_
 refine aR 304 ?_
 refine aS 368 (fun Q hQ=>by simp (disch:=intros;contradiction) only [zS,k2,simprocAttr];exact hQ) ?_
 refine aF ?_
 refine aS 432 (fun Q hQ=>by simp (disch:=intros;contradiction) only [zS,k3,simprocAttr];exact hQ) ?_
 refine aF ?_
 refine aS 496 (fun Q hQ=>by simp (disch:=intros;contradiction) only [zS,k4,simprocAttr];exact hQ) ?_
 refine aw_cond _ rfl trivial (fun ht=>by cases ht) (fun hf=>?_)
 refine aS 560 (fun Q hQ=>by simp (disch:=intros;contradiction) only [zS,k5,simprocAttr];exact hQ) ?_
 refine aF ?_
 refine aS 624 (fun Q hQ=>by simp (disch:=intros;contradiction) only [zS,k6,simprocAttr];exact hQ) ?_
 refine aw_cond _ rfl trivial (fun ht=>by cases ht) (fun hf=>?_)
 refine aS 688 (fun Q hQ=>by simp (disch:=intros;contradiction) only [zS,k7,simprocAttr];exact hQ) ?_
 refine aw_cond _ rfl trivial (fun ht=>?_) (fun hf=>by cases hf)
 refine aB 752 ?_
 refine rO [240,241] [] (volume_imports_same v c ok hl hd w e h) ?_
 refine aEs (fun Q hQ=>by simp (disch:=intros;contradiction) only [zS,vO_eq,simprocAttr];exact hQ) ?_
 refine aR 912 ?_
 refine aw_cond _ rfl trivial (fun ht=>?_) (fun hf=>by simp at hf;exact absurd hf he0)
 simp only [zX]
 refine aR 976 ?_
 refine Fin.data [128,129] (.inr rfl) rfl (by (exact ⟨trivial,trivial,trivial⟩)) ?_
 simp only [zL,simprocAttr]
 all_goals ((repeat' (first | exact trivial | rfl | (refine ⟨⟨_,_,rfl⟩,?_⟩;(first | exact drows_nrow _ | exact drows_wrow _)) | refine ⟨?_,?_⟩)))

theorem Do_imp7_same (v : VOL) (c : CMD) (ok : Vok v) (hk : c.kind = 7) (hl : c.items.length≤1000000) (hd : ∀ x ∈ c.items,x.d.length≤1000000) (h : impS v c = some (pubV v,0)) : Con Try.prog 18 [.agg (volC v),.agg (cmdC c)] [] (doR (done (pubV v))) []:=by
 have k2 : (c.kind == 2) = false:=by rw [hk];rfl
 have k3 : (c.kind == 3) = false:=by rw [hk];rfl
 have k4 : (c.kind == 4) = false:=by rw [hk];rfl
 have k5 : (c.kind == 5) = false:=by rw [hk];rfl
 have k6 : (c.kind == 6) = false:=by rw [hk];rfl
 have k7 : (c.kind == 7) = true:=by rw [hk];rfl
 have k8 : (c.kind == 8) = false:=by rw [hk];rfl
 refine C_volume_Do nl nl ?_
 simp only [cz,A_volume_Do,argL,objL,List.length_nil,Nat.zero_add,zX]
 refine aS 16 (fun Q hQ=>by simp (disch:=intros;contradiction) only [zS,vC_eq,cmdC,cC,simprocAttr];exact hQ) ?_
 refine aB 112 ?_
 refine rO [] [] (volume_copied_con v ok) ?_
 refine aE ?_
 refine aB 224 ?_
 refine rO [] [] (volume_copied_con v ok) ?_
 refine aE ?_
 refine aR 304 ?_
 refine aS 368 (fun Q hQ=>by simp (disch:=intros;contradiction) only [zS,k2,simprocAttr];exact hQ) ?_
 refine aF ?_
 refine aS 432 (fun Q hQ=>by simp (disch:=intros;contradiction) only [zS,k3,simprocAttr];exact hQ) ?_
 refine aF ?_
 refine aS 496 (fun Q hQ=>by simp (disch:=intros;contradiction) only [zS,k4,simprocAttr];exact hQ) ?_
 refine aw_cond _ rfl trivial (fun ht=>by cases ht) (fun hf=>?_)
 refine aS 560 (fun Q hQ=>by simp (disch:=intros;contradiction) only [zS,k5,simprocAttr];exact hQ) ?_
 refine aF ?_
 refine aS 624 (fun Q hQ=>by simp (disch:=intros;contradiction) only [zS,k6,simprocAttr];exact hQ) ?_
 refine aw_cond _ rfl trivial (fun ht=>by cases ht) (fun hf=>?_)
 refine aS 688 (fun Q hQ=>by simp (disch:=intros;contradiction) only [zS,k7,simprocAttr];exact hQ) ?_
 refine aw_cond _ rfl trivial (fun ht=>?_) (fun hf=>by cases hf)
 refine aB 752 ?_
 refine rO [240,241] [] (volume_imports_same v c ok hl hd _ 0 h) ?_
 refine aEs (fun Q hQ=>by simp (disch:=intros;contradiction) only [zS,vO_eq,pubV,simprocAttr];exact hQ) ?_
 refine aR 912 ?_
 refine aF ?_
 refine aBD 976 ?_
 refine rC [240,241] (volume_Len_con (pubV v)) ?_
 refine aEDs (fun Q hQ=>by simp (disch:=intros;contradiction) only [zS,pubV,simprocAttr];exact hQ) ?_
 refine Fin.data [240,241] (.inr rfl) rfl (by (exact ⟨trivial,trivial,trivial⟩)) ?_
 simp only [zL,simprocAttr]
 all_goals ((repeat' (first | exact trivial | rfl | (refine ⟨⟨_,_,rfl⟩,?_⟩;(first | exact drows_nrow _ | exact drows_wrow _)) | refine ⟨?_,?_⟩)))

theorem Do_imp7_write (v : VOL) (c : CMD) (ok : Vok v) (hk : c.kind = 7) (hl : c.items.length≤1000000) (hd : ∀ x ∈ c.items,x.d.length≤1000000) (hn : v.next≤1099511627776∧0≤v.next) (h : impS v c = none) : Con Try.prog 18 [.agg (volC v),.agg (cmdC c)] [] (doR (done (addN v c.items))) []:=by
 have k2 : (c.kind == 2) = false:=by rw [hk];rfl
 have k3 : (c.kind == 3) = false:=by rw [hk];rfl
 have k4 : (c.kind == 4) = false:=by rw [hk];rfl
 have k5 : (c.kind == 5) = false:=by rw [hk];rfl
 have k6 : (c.kind == 6) = false:=by rw [hk];rfl
 have k7 : (c.kind == 7) = true:=by rw [hk];rfl
 have k8 : (c.kind == 8) = false:=by rw [hk];rfl
 refine C_volume_Do nl nl ?_
 simp only [cz,A_volume_Do,argL,objL,List.length_nil,Nat.zero_add,zX]
 refine aS 16 (fun Q hQ=>by simp (disch:=intros;contradiction) only [zS,vC_eq,cmdC,cC,simprocAttr];exact hQ) ?_
 refine aB 112 ?_
 refine rO [] [] (volume_copied_con v ok) ?_
 refine aE ?_
 refine aB 224 ?_
 refine rO [] [] (volume_copied_con v ok) ?_
 refine aE ?_
 refine aR 304 ?_
 refine aS 368 (fun Q hQ=>by simp (disch:=intros;contradiction) only [zS,k2,simprocAttr];exact hQ) ?_
 refine aF ?_
 refine aS 432 (fun Q hQ=>by simp (disch:=intros;contradiction) only [zS,k3,simprocAttr];exact hQ) ?_
 refine aF ?_
 refine aS 496 (fun Q hQ=>by simp (disch:=intros;contradiction) only [zS,k4,simprocAttr];exact hQ) ?_
 refine aw_cond _ rfl trivial (fun ht=>by cases ht) (fun hf=>?_)
 refine aS 560 (fun Q hQ=>by simp (disch:=intros;contradiction) only [zS,k5,simprocAttr];exact hQ) ?_
 refine aF ?_
 refine aS 624 (fun Q hQ=>by simp (disch:=intros;contradiction) only [zS,k6,simprocAttr];exact hQ) ?_
 refine aw_cond _ rfl trivial (fun ht=>by cases ht) (fun hf=>?_)
 refine aS 688 (fun Q hQ=>by simp (disch:=intros;contradiction) only [zS,k7,simprocAttr];exact hQ) ?_
 refine aw_cond _ rfl trivial (fun ht=>?_) (fun hf=>by cases hf)
 refine aB 752 ?_
 refine rO [240,241] [] (volume_imports_write v c ok hl hd hn h) ?_
 refine aEs (fun Q hQ=>by simp (disch:=intros;contradiction) only [zS,vO_eq,simprocAttr];exact hQ) ?_
 refine aR 912 ?_
 refine aF ?_
 refine aBD 976 ?_
 refine rC [240,784] (volume_Len_con (addN v c.items)) ?_
 refine aED ?_
 refine Fin.data [240,784] (.inr rfl) rfl (by (exact ⟨trivial,trivial,trivial⟩)) ?_
 simp only [zL,simprocAttr]
 all_goals ((repeat' (first | exact trivial | rfl | (refine ⟨⟨_,_,rfl⟩,?_⟩;(first | exact drows_nrow _ | exact drows_wrow _)) | refine ⟨?_,?_⟩)))

theorem Do_stat (v : VOL) (c : CMD) (ok : Vok v) (hk : c.kind = 8) : Con Try.prog 18 [.agg (volC v),.agg (cmdC c)] [] (doR (done v)) []:=by
 have k2 : (c.kind == 2) = false:=by rw [hk];rfl
 have k3 : (c.kind == 3) = false:=by rw [hk];rfl
 have k4 : (c.kind == 4) = false:=by rw [hk];rfl
 have k5 : (c.kind == 5) = false:=by rw [hk];rfl
 have k6 : (c.kind == 6) = false:=by rw [hk];rfl
 have k7 : (c.kind == 7) = false:=by rw [hk];rfl
 have k8 : (c.kind == 8) = true:=by rw [hk];rfl
 refine C_volume_Do nl nl ?_
 simp only [cz,A_volume_Do,argL,objL,List.length_nil,Nat.zero_add,zX]
 refine aS 16 (fun Q hQ=>by simp (disch:=intros;contradiction) only [zS,vC_eq,cmdC,cC,simprocAttr];exact hQ) ?_
 refine aB 112 ?_
 refine rO [] [] (volume_copied_con v ok) ?_
 refine aE ?_
 refine aB 224 ?_
 refine rO [] [] (volume_copied_con v ok) ?_
 refine aE ?_
 refine aR 304 ?_
 refine aS 368 (fun Q hQ=>by simp (disch:=intros;contradiction) only [zS,k2,simprocAttr];exact hQ) ?_
 refine aF ?_
 refine aS 432 (fun Q hQ=>by simp (disch:=intros;contradiction) only [zS,k3,simprocAttr];exact hQ) ?_
 refine aF ?_
 refine aS 496 (fun Q hQ=>by simp (disch:=intros;contradiction) only [zS,k4,simprocAttr];exact hQ) ?_
 refine aw_cond _ rfl trivial (fun ht=>by cases ht) (fun hf=>?_)
 refine aS 560 (fun Q hQ=>by simp (disch:=intros;contradiction) only [zS,k5,simprocAttr];exact hQ) ?_
 refine aF ?_
 refine aS 624 (fun Q hQ=>by simp (disch:=intros;contradiction) only [zS,k6,simprocAttr];exact hQ) ?_
 refine aw_cond _ rfl trivial (fun ht=>by cases ht) (fun hf=>?_)
 refine aS 688 (fun Q hQ=>by simp (disch:=intros;contradiction) only [zS,k7,simprocAttr];exact hQ) ?_
 refine aF ?_
 refine aS 752 (fun Q hQ=>by simp (disch:=intros;contradiction) only [zS,k8,simprocAttr];exact hQ) ?_
 refine aT ?_
 refine aR 816 ?_
 refine aF ?_
 refine aBD 880 ?_
 refine rC [240,241] (volume_Len_con v) ?_
 refine aED ?_
 refine Fin.data [240,241] (.inr rfl) rfl (by (exact ⟨trivial,trivial,trivial⟩)) ?_
 simp only [zL,simprocAttr]
 all_goals ((repeat' (first | exact trivial | rfl | (refine ⟨⟨_,_,rfl⟩,?_⟩;(first | exact drows_nrow _ | exact drows_wrow _)) | refine ⟨?_,?_⟩)))

theorem Do_other (v : VOL) (c : CMD) (ok : Vok v) (hk : c.kind < 2∨8 < c.kind) : Con Try.prog 18 [.agg (volC v),.agg (cmdC c)] [] (doR (fail v 23)) []:=by
 have k2 : (c.kind == 2) = false:=by rw [beq_eq_false_iff_ne];omega
 have k3 : (c.kind == 3) = false:=by rw [beq_eq_false_iff_ne];omega
 have k4 : (c.kind == 4) = false:=by rw [beq_eq_false_iff_ne];omega
 have k5 : (c.kind == 5) = false:=by rw [beq_eq_false_iff_ne];omega
 have k6 : (c.kind == 6) = false:=by rw [beq_eq_false_iff_ne];omega
 have k7 : (c.kind == 7) = false:=by rw [beq_eq_false_iff_ne];omega
 have k8 : (c.kind == 8) = false:=by rw [beq_eq_false_iff_ne];omega
 refine C_volume_Do nl nl ?_
 simp only [cz,A_volume_Do,argL,objL,List.length_nil,Nat.zero_add,zX]
 refine aS 16 (fun Q hQ=>by simp (disch:=intros;contradiction) only [zS,vC_eq,cmdC,cC,simprocAttr];exact hQ) ?_
 refine aB 112 ?_
 refine rO [] [] (volume_copied_con v ok) ?_
 refine aE ?_
 refine aB 224 ?_
 refine rO [] [] (volume_copied_con v ok) ?_
 refine aE ?_
 refine aR 304 ?_
 refine aS 368 (fun Q hQ=>by simp (disch:=intros;contradiction) only [zS,k2,simprocAttr];exact hQ) ?_
 refine aF ?_
 refine aS 432 (fun Q hQ=>by simp (disch:=intros;contradiction) only [zS,k3,simprocAttr];exact hQ) ?_
 refine aF ?_
 refine aS 496 (fun Q hQ=>by simp (disch:=intros;contradiction) only [zS,k4,simprocAttr];exact hQ) ?_
 refine aw_cond _ rfl trivial (fun ht=>by cases ht) (fun hf=>?_)
 refine aS 560 (fun Q hQ=>by simp (disch:=intros;contradiction) only [zS,k5,simprocAttr];exact hQ) ?_
 refine aF ?_
 refine aS 624 (fun Q hQ=>by simp (disch:=intros;contradiction) only [zS,k6,simprocAttr];exact hQ) ?_
 refine aw_cond _ rfl trivial (fun ht=>by cases ht) (fun hf=>?_)
 refine aS 688 (fun Q hQ=>by simp (disch:=intros;contradiction) only [zS,k7,simprocAttr];exact hQ) ?_
 refine aF ?_
 refine aS 752 (fun Q hQ=>by simp (disch:=intros;contradiction) only [zS,k8,simprocAttr];exact hQ) ?_
 refine aw_cond _ rfl trivial (fun ht=>by cases ht) (fun hf=>?_)
 refine aR 816 ?_
 refine aR 864 ?_
 refine aT ?_
 refine aR 928 ?_
 refine Fin.data [128,129] (.inr rfl) rfl (by (exact ⟨trivial,trivial,trivial⟩)) ?_
 simp only [zL,simprocAttr]
 all_goals ((repeat' (first | exact trivial | rfl | (refine ⟨⟨_,_,rfl⟩,?_⟩;(first | exact drows_nrow _ | exact drows_wrow _)) | refine ⟨?_,?_⟩)))

end Go.Abs

namespace Go.Abs
open Go Go.Proofs
set_option maxRecDepth 100000
set_option linter.unusedSimpArgs false
set_option maxHeartbeats 4000000

theorem while_parts {p : Int→Bool} : ∀ l : List Int,l.takeWhile p ++ l.dropWhile p = l:=fun l=>List.takeWhile_append_dropWhile
theorem insP_eq {t : Int} {l : List Int} (hs : l.Pairwise (·≤·)) : isort (l ++ [t]) = insP t l:=by
 symm
 have hp:=while_parts (p:=fun x=>decide (x≤t)) l
 refine isort_unique ?_ ?_
 ·unfold insP
  conv=>rhs;rw [← hp]
  rw [List.append_assoc]
  exact List.Perm.append_left _ (List.perm_append_comm (l₁:=[t]))
 ·have hs':=hs
  rw [← hp,List.pairwise_append] at hs'
  unfold insP
  rw [List.pairwise_append,List.pairwise_cons]
  refine ⟨hs'.1,⟨fun y hy=>?_,hs'.2.1⟩,fun x hx y hy=>?_⟩
  ·cases hd : l.dropWhile (fun x=>decide (x≤t)) with
   | nil=>rw [hd] at hy;cases hy
   | cons z r =>
    have hz : ¬ z≤t:=by
     have:=List.head_dropWhile_not (fun x=>decide (x≤t)) (l:=l) (by rw [hd];simp)
     simpa [hd] using this
    rw [hd] at hy hs'
    rcases List.mem_cons.1 hy with rfl | hy
    ·omega
    ·have:=(List.pairwise_cons.1 hs'.2.1).1 y hy;omega
  ·have hxt : x≤t:=by
    have:=List.all_takeWhile (p:=fun x=>decide (x≤t)) (l:=l)
    simpa using List.all_eq_true.1 this x hx
   rcases List.mem_cons.1 hy with rfl | hy
   ·exact hxt
   ·exact hs'.2.2 x hx y hy

theorem first_idx {t : Int} : ∀ {l : List Int},t ∈ l→∃ (k : Nat) (hk : k < l.length),l[k] = t∧∀ i (hi : i < l.length),i < k→l[i]≠t
 | x :: l,h=>by
  by_cases hx : x = t
  ·exact ⟨0,by simp,by simp [hx],fun i _ h=>by omega⟩
  ·obtain ⟨k,hk,h1,h2⟩:=first_idx (l:=l) (by rcases List.mem_cons.1 h with h | h;exact absurd h.symm hx;exact h)
   refine ⟨k + 1,by simpa using hk,by simpa using h1,fun i hi h=>?_⟩
   match i with
   | 0=>simpa using hx
   | i + 1=>simpa using h2 i (by simpa using hi) (by omega)

structure DoOk (v : VOL) (c : CMD) : Prop where
 ok : Vok v
 pins : v.pins.length < 60000
 sorted : v.pins.Pairwise (·≤·)
 next : 0≤v.next∧v.next≤1099511627776
 items : c.items.length≤1000000
 data : ∀ x ∈ c.items,x.d.length≤1000000

theorem volume_Do_con (v : VOL) (c : CMD) (h : DoOk v c) : Con Try.prog 18 [.agg (volC v),.agg (cmdC c)] [] (doR (doV v c)) []:=by
 obtain ⟨ok,hp,hs,hn,hl,hd⟩:=h
 unfold doV
 split
 ·rename_i hk;exact volume_Do_put v c ok hk hl hd
 split
 ·rename_i hk
  unfold doPrune
  split
  ·rename_i hh;exact Do_hid3 v c ok hk hh
  ·rename_i hh
   have hh : v.hid = false:=by simpa using hh
   split
   ·rename_i h1;exact Do_prune_no v c ok hk hh 30 (by unfold timeE;rw [if_pos h1]) (by decide)
   split
   ·rename_i h1 h2;exact Do_prune_no v c ok hk hh 31 (by unfold timeE;rw [if_neg h1,if_pos h2]) (by decide)
   ·rename_i h1 h2;exact Do_prune_yes v c ok hk hh (timeE_of.2 (by omega))
 split
 ·rename_i hk
  unfold doPin
  split
  ·rename_i hh;exact Do_hid4 v c ok hk hh
  ·rename_i hh
   have hh : v.hid = false:=by simpa using hh
   split
   ·rename_i h1;exact Do_pin_no v c ok hk hh 30 (by unfold timeE;rw [if_pos h1]) (by decide)
   split
   ·rename_i h1 h2;exact Do_pin_no v c ok hk hh 31 (by unfold timeE;rw [if_neg h1,if_pos h2]) (by decide)
   ·rename_i h1 h2
    rw [← insP_eq hs]
    exact Do_pin_yes v c ok hk hp hh (timeE_of.2 (by omega))
 split
 ·rename_i hk
  unfold doUnpin
  split
  ·rename_i hh;exact Do_hid5 v c ok hk hh
  ·rename_i hh
   have hh : v.hid = false:=by simpa using hh
   split
   ·rename_i hm
    obtain ⟨k,hkl,h1,h2⟩:=first_idx hm
    rw [delP_at hkl h1 (fun x hx=>by
     obtain ⟨i,hi,rfl⟩:=List.mem_iff_getElem.1 hx
     rw [List.getElem_take]
     simp at hi
     exact h2 i (by omega) (by omega))]
    exact Do_unpin_yes v c ok hk hh k hkl h1 h2 _ rfl
   ·rename_i hm
    exact Do_unpin_no v c ok hk hh fun i hi he=>hm (by rw [← he];exact List.getElem_mem hi)
 split
 ·rename_i h2 h3 h4 h5 hk
  unfold doImp
  split
  ·rename_i hi
   rcases hk with hk | hk
   ·exact Do_imp6_write v c ok hk hl hd ⟨hn.2,hn.1⟩ hi
   ·exact Do_imp7_write v c ok hk hl hd ⟨hn.2,hn.1⟩ hi
  ·rename_i w e hi
   split
   ·rename_i he
    subst he
    rcases hk with hk | hk
    ·have hw : w = v:=by
      unfold impS at hi
      rw [if_neg (show ¬ c.kind = 7 by omega)] at hi
      split at hi
      ·cases hi
      split at hi
      ·cases hi;rfl
      split at hi
      ·cases hi
      split at hi <;> cases hi
     subst hw
     exact Do_imp6_same w c ok hk hl hd hi
    ·have hw : w = pubV v:=by
      unfold impS at hi
      rw [if_pos hk] at hi
      split at hi
      ·cases hi
      split at hi
      ·cases hi;rfl
      ·cases hi
     subst hw
     exact Do_imp7_same v c ok hk hl hd hi
   ·rename_i he
    rcases hk with hk | hk
    ·exact Do_imp6_no v c ok hk hl hd w e hi he
    ·exact Do_imp7_no v c ok hk hl hd w e hi he
 split
 ·rename_i hk;exact Do_stat v c ok hk
 ·exact Do_other v c ok (by omega)

end Go.Abs

namespace Go.Abs
open Go Go.Proofs
set_option maxRecDepth 100000
set_option linter.unusedSimpArgs false
set_option maxHeartbeats 4000000

end Go.Abs

namespace Go.Abs
open Go Go.Proofs
set_option maxRecDepth 100000
set_option linter.unusedSimpArgs false
set_option maxHeartbeats 4000000

def dataN (n k : Nat) : List Nat:=(List.range n).map fun i=>(k + i * 7) % 256
theorem dataN_succ (n k : Nat) : dataN (n + 1) k = dataN n k ++ [(k + n * 7) % 256]:=by simp [dataN,List.range_succ]
theorem dataN_len (n k : Nat) : (dataN n k).length = n:=by simp [dataN]
theorem dataN_by (n k : Nat) : ∀ c ∈ dataN n k,c < 256:=by
 intro c hc;obtain ⟨i,_,rfl⟩:=List.mem_map.1 hc;omega

theorem Data_con (n k : Nat) (hn : n≤200) (hk : k < 256) : Con Try.prog 59 [I n,.c (.v (.int .u8 k))] [] (.c (.osl 0)) [.arr 5 1 ((dataN n k).map brow) false]:=by
 refine C_mementoseat_Data nl nl ?_
 simp only [cz,A_mementoseat_Data,argL,objL,List.length_nil,Nat.zero_add,zX]
 refine aR 16 ?_
 refine aR 64 ?_
 refine aR 112 ?_
 refine aw_loopK (X:={ i : Nat // i≤n }) [0,1] (fun i=>[(5,.c (.osl 5000)),(6,I i.1)]) [] (fun i=>[(5000,.arr 5 1 ((dataN i.1 k).map brow) false)]) (fun i=>n - i.1) (⟨0,by omega⟩) ?_ ?_
 ·skip
  simp only [keepS,keepE,lk_cons,List.cons_append,List.nil_append,simprocAttr]
  refine (Le.own 5 5000 5 1 rfl rfl (by decide)).trans ?_
  simp only [setS_cons,setE_nil,simprocAttr]
  refine Le.lit [] [] _ _ ?_ ?_ ?_ ?_
  ·simp only [zL,simprocAttr]
  ·simp only [zL,simprocAttr]
   all_goals (try ((repeat' (first | (exact drows_brow _) | rfl | refine ⟨?_,?_⟩))))
  ·simp [rlook]
  ·(simp;done)
 rintro ⟨i,hi⟩
 simp only [keepS,keepE,lk_cons,List.cons_append,List.nil_append,simprocAttr]
 simp only [zX]
 have hl:=dataN_len i k
 refine aR 160 ?_
 refine aw_cond _ rfl trivial (fun ht=>?_) (fun hf=>?_)
 ·skip
  try simp at ht
  simp only [zX]
  have e1 : IntKind.u8.wrap ((k : Int) + IntKind.u8.wrap ((i : Int) * 7)) = (((k + i * 7) % 256 : Nat) : Int):=by rw [w_u8,w_u8];omega
  have e2 : (dataN i k).map brow ++ [[.v (.int .u8 (((k + i * 7) % 256 : Nat) : Int))]] = (dataN (i + 1) k).map brow:=by rw [dataN_succ,List.map_append];rfl
  refine aS 240 (fun Q hQ=>by simp (disch:=first | (intros;contradiction) | omega | (simp only [zN];omega)) only [zS,zW,e1,e2,hl,simprocAttr];repeat refine ⟨by ((simp;omega)),?_⟩;exact hQ) ?_
  refine aS 416 (fun Q hQ=>by simp (disch:=first | (intros;contradiction) | omega | (simp only [zN];omega)) only [zS,zW,simprocAttr];exact hQ) ?_
  refine ⟨⟨i + 1,by omega⟩,?_,by first | omega | (simp only;omega)⟩
  refine Le.lit [] [(5000,352)] _ _ ?_ ?_ ?_ ?_
  ·simp only [zL,simprocAttr]
   all_goals (try ((repeat' (rfl))))
  ·simp only [zL,simprocAttr]
   all_goals (try ((repeat' ((exact drows_brow _)))))
  ·simp [rlook]
  ·(simp;done)
 try simp at hf
 simp only [zX,↓reduceIte]
 obtain rfl : i = n:=by omega
 refine aw_reg 496 (RG.go fun Q hQ=>?_)
 simp (disch:=intros;contradiction) only [zS,simprocAttr]
 refine hQ (RG.nil ?_)
 simp only [zX]
 refine Fin.objs [] [(0,5000)] (.inr rfl) rfl (by exact trivial) ?_ ?_ (by simp [objL,rlook]) (by (simp [objL,rlook];done))
 ·simp only [zL,simprocAttr]
 ·simp only [zL,simprocAttr]
  all_goals (try ((repeat' ((exact drows_brow _)))))

theorem DataD_con (n k : Nat) (hn : n≤200) (hk : k < 256) : Con Try.prog 59 [I n,.c (.v (.int .u8 k))] [] (.c (.sl ((dataN n k).map brow))) [] :=
 (Data_con n k hn hk).rows (drows_brow _)

def hasB (b : Int) (l : List IT) : Bool:=l.any fun y=>decide (y.b = b)
def itsStep (blocks size : Nat) (acc : List IT) (c : Nat) : List IT:=if hasB ((c % max blocks 1 : Nat)) acc then acc else acc ++ [⟨(c % max blocks 1 : Nat),dataN size c⟩]
def itsF (blocks size : Nat) : List Nat→List IT→List IT
 | [],acc=>acc
 | c :: l,acc=>if acc.length < 8 then itsF blocks size l (itsStep blocks size acc c) else acc
def itsN (blocks size : Nat) (l : List Nat) : List IT:=itsF blocks size l []

theorem Items_con (blocks size : Nat) (l : List Nat) (hb : blocks≤1000000) (hs : size≤200) (hl : l.length≤1000000) (h8 : ∀ c ∈ l,c < 256) :
  Con Try.prog 38 [I blocks,I size,.c (.sl (l.map brow))] [] (.c (.osl 0)) [.arr 76 2 ((itsN blocks size l).map irow) false]:=by
 obtain ⟨q,hq⟩ : ∃ q,q = max blocks 1:=⟨_,rfl⟩
 have hqi : (if (blocks : Int) < 1 then 1 else (blocks : Int)) = (q : Int):=by split <;> omega
 obtain ⟨R,hR⟩ : ∃ R,R = itsN blocks size l:=⟨_,rfl⟩
 rw [← hR]
 refine C_mementoseat_Items nl nl ?_
 simp only [cz,A_mementoseat_Items,argL,objL,List.length_nil,Nat.zero_add,zX,simprocAttr]
 refine aR 16 ?_
 refine aR 64 ?_
 refine aR 112 ?_
 refine aw_loopK (X:={ p : Nat × List IT // p.1≤l.length∧itsF blocks size (l.drop p.1) p.2 = R∧p.2.length≤8 }) [0,1,2] (fun p=>[(7,.c (.osl 5000)),(8,I p.1.1)]) [] (fun p=>[(5000,.arr 76 2 (p.1.2.map irow) false)]) (fun p=>l.length - p.1.1) (⟨(0,[]),by simp only;omega,hR.symm,by simp⟩) ?_ ?_
 ·skip
  simp only [keepS,keepE,lk_cons,List.cons_append,List.nil_append,simprocAttr]
  refine (Le.own 7 5000 76 2 rfl rfl (by decide)).trans ?_
  simp only [setS_cons,setE_nil,simprocAttr]
  refine Le.lit [] [] _ _ ?_ ?_ ?_ ?_
  ·simp only [zL,simprocAttr]
  ·simp only [zL,simprocAttr]
   all_goals (try ((repeat' (((simp [C.isD];done))))))
  ·simp [rlook]
  ·(simp;done)
 rintro ⟨⟨i,acc⟩,h1,h2,h3⟩
 simp only [keepS,keepE,lk_cons,List.cons_append,List.nil_append,simprocAttr]
 simp only [zX]
 simp only at h1 h2 h3
 refine aS 160 (fun Q hQ=>by simp (disch:=intros;contradiction) only [zS,zW,simprocAttr];exact hQ) ?_
 refine aw_cond _ rfl trivial (fun ht=>?_) (fun hf=>?_)
 rotate_left
 ·skip
  try simp at hf
  simp only [zX,↓reduceIte]
  have hd : itsF blocks size (l.drop i) acc = acc:=by
   rcases Nat.lt_or_ge i l.length with h | h
   ·rw [drop_get h];unfold itsF;rw [if_neg (by omega)]
   ·rw [List.drop_of_length_le h];rfl
  rw [hd] at h2
  subst h2
  refine aR 336 ?_
  refine Fin.objs [] [(0,5000)] (.inr rfl) rfl (by exact trivial) ?_ ?_ (by simp [objL,rlook]) (by (simp [objL,rlook];done))
  ·simp only [zL,simprocAttr]
  ·simp only [zL,simprocAttr]
   all_goals (try ((repeat' ((exact drows_irow _)))))
 try simp at ht
 simp only [zX]
 have hi : i < l.length:=by omega
 have hc8:=h8 _ (List.getElem_mem hi)
 rw [drop_get hi] at h2
 unfold itsF at h2
 rw [if_pos (by omega)] at h2
 have e1 : (l[i] : Int) % (q : Int) = ((l[i] % q : Nat) : Int):=by omega
 obtain ⟨b,hb2⟩ : ∃ b,b = l[i] % q:=⟨_,rfl⟩
 rw [← hb2] at e1
 have hstep : itsStep blocks size acc l[i] = if hasB b acc then acc else acc ++ [⟨b,dataN size l[i]⟩]:=by unfold itsStep;rw [← hq,← hb2]
 rw [hstep] at h2
 refine aw_reg 400 (RG.go fun Q hQ=>?_)
 simp (disch:=first | (intros;contradiction) | omega | (simp only [zN];omega)) only [zS,zW,brow,hqi,e1,simprocAttr]
 repeat refine ⟨by (omega),?_⟩
 refine hQ (RG.nil ?_)
 simp only [zX]
 refine aR 576 ?_
 refine aR 624 ?_
 refine aw_loopK (X:={ k : Nat // k≤acc.length }) [0,1,2,7,8,9] (fun k=>[(10,B (hasB b (acc.take k.1))),(11,I k.1)]) [5000] (fun k=>[]) (fun k=>acc.length - k.1) (⟨0,by omega⟩) ?_ ?_
 ·skip
  simp only [keepS,keepE,Option.getD_some,lk_cons,lkE_cons,List.cons_append,List.nil_append,simprocAttr]
  refine Le.lit [] [] _ _ ?_ ?_ ?_ ?_
  ·simp only [zL,simprocAttr]
   all_goals (try ((repeat' (rfl))))
  ·simp only [zL,simprocAttr]
   all_goals (try ((repeat' ((exact drows_irow _)))))
  ·simp [rlook]
  ·(simp;done)
 rintro ⟨k,hk⟩
 simp only [keepS,keepE,Option.getD_some,lk_cons,lkE_cons,List.cons_append,List.nil_append,simprocAttr]
 simp only [zX]
 refine aS 672 (fun Q hQ=>by simp (disch:=intros;contradiction) only [zS,zW,simprocAttr];exact hQ) ?_
 refine aw_cond _ rfl trivial (fun ht=>?_) (fun hf=>?_)
 ·skip
  try simp at ht
  simp only [zX]
  have hkl : k < acc.length:=by omega
  have e3 : hasB b (acc.take (k + 1)) = (hasB b (acc.take k) || (acc[k].b == (b : Int))):=by
   unfold hasB;rw [take_one _ _ hkl,List.any_append];simp;rw [Bool.eq_iff_iff];simp
  refine aw_reg 768 (RG.go fun Q hQ=>?_)
  simp (disch:=first | (intros;contradiction) | omega | (simp only [zN];omega)) only [zS,zW,irow,itC,simprocAttr]
  repeat refine ⟨by (first | (simp;done) | (intro h;refine ⟨?_,h⟩;simp [] at h;omega)),?_⟩
  refine hQ (RG.nil ?_)
  simp only [zX]
  refine aS 976 (fun Q hQ=>by simp (disch:=first | (intros;contradiction) | omega | (simp only [zN];omega)) only [zS,zW,simprocAttr];exact hQ) ?_
  refine ⟨⟨k + 1,hkl⟩,?_,by first | omega | (simp only;omega)⟩
  refine Le.lit [] [] _ _ ?_ ?_ ?_ ?_
  ·simp only [zL,simprocAttr]
   all_goals (rw [e3];(repeat' ((simp;done))))
  ·simp only [zL,simprocAttr]
   all_goals (try ((repeat' ((exact drows_irow _)))))
  ·simp [rlook]
  ·(simp;done)
 try simp at hf
 simp only [zX,↓reduceIte]
 obtain rfl : k = acc.length:=by omega
 refine aS 1056 (fun Q hQ=>by simp (disch:=intros;contradiction) only [zS,zW,simprocAttr];exact hQ) ?_
 refine aw_cond _ rfl trivial (fun ht=>?_) (fun hf=>?_)
 ·skip
  try simp at ht
  refine aBs 1120 (fun Q hQ=>by simp (disch:=first | (intros;contradiction) | omega | (simp only [zN];omega)) only [zS,zW,brow,simprocAttr];repeat refine ⟨by (omega),?_⟩;exact hQ) ?_
  refine rC [] (DataD_con size l[i] hs hc8) ?_
  refine RG.go fun Q hQ=>?_
  simp (disch:=intros;contradiction) only [zS,zW,simprocAttr]
  rw [if_neg (by simp [ht])] at h2
  have e2 : (acc ++ [(⟨(b : Int),dataN size l[i]⟩ : IT)]).map irow = acc.map irow ++ [[.v (.int .i64 b),.sl ((dataN size l[i]).map brow)]]:=by rw [List.map_append];rfl
  repeat refine ⟨by ((simp;omega)),?_⟩
  refine hQ (RG.nil ?_)
  simp only [zX]
  refine aS 1344 (fun Q hQ=>by simp (disch:=first | (intros;contradiction) | omega | (simp only [zN];omega)) only [zS,zW,simprocAttr];exact hQ) ?_
  refine ⟨⟨(i + 1,acc ++ [⟨b,dataN size l[i]⟩]),by simp only;omega,h2,by simp;omega⟩,?_,by first | omega | (simp only;omega)⟩
  refine Le.lit [] [(5000,1280)] _ _ ?_ ?_ ?_ ?_
  ·simp only [zL,simprocAttr]
   all_goals (try ((repeat' (rfl))))
  ·simp only [zL,simprocAttr]
   all_goals (rw [e2];exact ⟨rfl,by rw [← e2];exact drows_irow _⟩;skip)
  ·simp [rlook]
  ·(simp;done)
 try simp at hf
 simp only [zX]
 rw [if_pos hf] at h2
 refine aS 1424 (fun Q hQ=>by simp (disch:=first | (intros;contradiction) | omega | (simp only [zN];omega)) only [zS,zW,simprocAttr];exact hQ) ?_
 refine ⟨⟨(i + 1,acc),by simp only;omega,h2,h3⟩,?_,by first | omega | (simp only;omega)⟩
 refine Le.lit [] [] _ _ ?_ ?_ ?_ ?_
 ·simp only [zL,simprocAttr]
  all_goals (try ((repeat' (rfl))))
 ·simp only [zL,simprocAttr]
  all_goals (try ((repeat' ((exact drows_irow _)))))
 ·simp [rlook]
 ·(simp;done)

end Go.Abs

namespace Go.Abs
open Go Go.Proofs
set_option maxRecDepth 100000
set_option linter.unusedSimpArgs false
set_option maxHeartbeats 4000000

def placeN (per n : Nat) : List Int:=(List.range n).map fun i=>((1 + (i + per) % 2 : Nat) : Int)
theorem placeN_succ (per n : Nat) : placeN per (n + 1) = placeN per n ++ [((1 + (n + per) % 2 : Nat) : Int)]:=by simp [placeN,List.range_succ]
theorem placeN_len (per n : Nat) : (placeN per n).length = n:=by simp [placeN]
def createC (vol blocks size per total : Nat) : CMD :=
 ⟨1,(vol % 3 : Nat),(blocks % 9 + 1 : Nat),(size % 3 + 1 : Nat),(per % (blocks % 9 + 1) + 1 : Nat),placeN per (chunksN (blocks % 9 + 1 : Nat) (per % (blocks % 9 + 1) + 1 : Nat)).toNat,total,0,0,[]⟩

theorem Create_con (vol blocks size per total : Nat) (h1 : vol < 256) (h2 : blocks < 256) (h3 : size < 256) (h4 : per < 256) (h5 : total < 1000) :
  Con Try.prog 16 [.c (.v (.int .u8 vol)),.c (.v (.int .u8 blocks)),.c (.v (.int .u8 size)),.c (.v (.int .u8 per)),I total] [] (.agg (cmdC (createC vol blocks size per total))) []:=by
 obtain ⟨b,hb⟩ : ∃ b,b = blocks % 9 + 1:=⟨_,rfl⟩
 obtain ⟨p,hp⟩ : ∃ p,p = per % b + 1:=⟨_,rfl⟩
 have hpb : p≤b:=by have:=Nat.mod_lt per (show 0 < b by omega);omega
 obtain ⟨c1,c2⟩:=chunks_nn (b:=b) (p:=p) (by omega) (by omega)
 obtain ⟨m,hm⟩ : ∃ m,m = (chunksN b p).toNat:=⟨_,rfl⟩
 have hmc : chunksN b p = (m : Int):=by omega
 have e1 : (blocks : Int) % 9 + 1 = (b : Int):=by omega
 have e2 : (per : Int) % (b : Int) + 1 = (p : Int):=by omega
 have e3 : (vol : Int) % 3 = ((vol % 3 : Nat) : Int):=by omega
 have e4 : (size : Int) % 3 + 1 = ((size % 3 + 1 : Nat) : Int):=by omega
 have cC:=mementoref16_Chunks_con b p (by omega) (by omega)
 rw [hmc] at cC
 have hres : cmdC (createC vol blocks size per total) = [.v (.int .i64 1),.v (.int .i64 (vol % 3 : Nat)),.v (.int .i64 b),.v (.int .i64 (size % 3 + 1 : Nat)),.v (.int .i64 p),.sl ((placeN per m).map nrow),.v (.int .i64 total),.v (.int .i64 0),.v (.int .i64 0),.sl []]:=by
  unfold createC;rw [← hb,← hp,← hm];rfl
 rw [hres]
 refine C_mementoseat_Create nl nl ?_
 simp only [cz,A_mementoseat_Create,argL,objL,List.length_nil,Nat.zero_add,zX,simprocAttr]
 refine aR 16 ?_
 refine aw_reg 64 (RG.go fun Q hQ=>?_)
 simp (disch:=first | (intros;contradiction) | omega | (simp only [zN];omega)) only [zS,zW,e1,e3,e4,simprocAttr]
 repeat refine ⟨by (omega),?_⟩
 refine hQ (RG.nil ?_)
 simp only [zX]
 refine aS 336 (fun Q hQ=>by simp (disch:=first | (intros;contradiction) | omega | (simp only [zN];omega)) only [zS,zW,e2,simprocAttr];repeat refine ⟨by (omega),?_⟩;exact hQ) ?_
 refine aR 496 ?_
 refine aw_loopK (X:={ i : Nat // i≤m }) [3,10,11] (fun i=>[(12,I i.1)]) [16] (fun i=>[(272,.box [.v (.int .i64 1),.v (.int .i64 (vol % 3 : Nat)),.v (.int .i64 b),.v (.int .i64 (size % 3 + 1 : Nat)),.v (.int .i64 p),.osl 5000,.v (.int .i64 total),.v (.int .i64 0),.v (.int .i64 0),.v (.slice none 0 0)]),(5000,.arr 3 1 ((placeN per i.1).map nrow) false)]) (fun i=>m - i.1) (⟨0,by omega⟩) ?_ ?_
 ·skip
  simp only [keepS,keepE,Option.getD_some,lk_cons,lkE_cons,List.cons_append,List.nil_append,simprocAttr]
  refine (Le.ownB 272 5 5000 _ 3 1 rfl rfl rfl (by decide)).trans ?_
  simp only [List.set_cons_succ,List.set_cons_zero,setE_cons,setE_nil,simprocAttr]
  refine Le.lit [] [] _ _ ?_ ?_ ?_ ?_
  ·simp only [zL,simprocAttr]
  ·simp only [zL,simprocAttr]
   all_goals (try ((repeat' (first | (exact drows_nrow _) | rfl | refine ⟨?_,?_⟩))))
  ·simp [rlook]
  ·(simp;done)
 rintro ⟨i,hi⟩
 simp only [keepS,keepE,Option.getD_some,lk_cons,lkE_cons,List.cons_append,List.nil_append,simprocAttr]
 simp only [zX]
 have hl:=placeN_len per i
 refine aB 544 ?_
 refine rC [] (cC) ?_
 refine aE ?_
 refine aw_cond _ rfl trivial (fun ht=>?_) (fun hf=>?_)
 ·skip
  try simp at ht
  simp only [zX]
  have e5 : 1 + ((i : Int) + per) % 2 = ((1 + (i + per) % 2 : Nat) : Int):=by omega
  have e6 : (placeN per i).map nrow ++ [[.v (.int .i64 ((1 + (i + per) % 2 : Nat) : Int))]] = (placeN per (i + 1)).map nrow:=by rw [placeN_succ,List.map_append];rfl
  refine aS 688 (fun Q hQ=>by simp (disch:=first | (intros;contradiction) | omega | (simp only [zN];omega)) only [zS,zW,e5,e6,hl,simprocAttr];repeat refine ⟨by (first | omega | (simp;omega)),?_⟩;exact hQ) ?_
  refine aS 912 (fun Q hQ=>by simp (disch:=first | (intros;contradiction) | omega | (simp only [zN];omega)) only [zS,zW,simprocAttr];exact hQ) ?_
  refine ⟨⟨i + 1,by omega⟩,?_,by first | omega | (simp only;omega)⟩
  refine Le.lit [] [(5000,832)] _ _ ?_ ?_ ?_ ?_
  ·simp only [zL,simprocAttr]
   all_goals (try ((repeat' (rfl))))
  ·simp only [zL,simprocAttr]
   all_goals (try (exact drows_nrow _))
  ·simp [rlook]
  ·(simp;done)
 try simp at hf
 simp only [zX,↓reduceIte]
 obtain rfl : i = m:=by omega
 refine aR 992 ?_
 refine Fin.data [5000] (.inr rfl) rfl (by (exact ⟨trivial,trivial⟩)) ?_
 simp only [zL,simprocAttr]
 all_goals ((repeat' (first | exact trivial | rfl | (refine ⟨⟨_,_,rfl⟩,?_⟩;(exact drows_nrow _)) | refine ⟨?_,?_⟩)))

end Go.Abs

namespace Go.Abs
open Go Go.Proofs
set_option maxRecDepth 100000
set_option linter.unusedSimpArgs false
set_option maxHeartbeats 8000000

end Go.Abs

namespace Go.Abs
open Go Go.Proofs
set_option maxRecDepth 100000
set_option linter.unusedSimpArgs false
set_option maxHeartbeats 8000000

def bodyR (d : List Nat) : List C:=[.sl (d.map brow)]
theorem Bodies_con (a b : List (List Nat)) (ha : a.length≤1000000) (h1 : ∀ x ∈ a,∀ c ∈ x,c < 256) (h2 : ∀ x ∈ b,∀ c ∈ x,c < 256) :
  Con Try.prog 37 [.c (.sl (a.map bodyR)),.c (.sl (b.map bodyR))] [] (B (decide (a = b))) []:=by
 refine C_mementohelp_Bodies nl nl ?_
 simp only [cz,A_mementohelp_Bodies,argL,objL,List.length_nil,Nat.zero_add,zX]
 refine aR 16 ?_
 refine aS 64 (fun Q hQ=>by simp (disch:=intros;contradiction) only [zS,zW,simprocAttr];exact hQ) ?_
 refine aw_cond _ rfl trivial (fun ht=>?_) (fun hf=>?_)
 ·skip
  try simp at ht
  simp only [zX]
  refine aR 176 ?_
  refine Fin.b (.inr rfl) rfl trivial ?_
  rw [eq_comm,decide_eq_false_iff_not];rintro rfl;exact ht rfl
 try simp at hf
 simp only [zX]
 refine aR 224 ?_
 refine aw_loopK (X:={ i : Nat // i≤a.length∧a.take i = b.take i }) [0,1] (fun i=>[(5,I i.1)]) [] (fun i=>[]) (fun i=>a.length - i.1) (⟨0,by omega,rfl⟩) ?_ ?_
 ·skip
  simp only [keepS,keepE,lk_cons,List.cons_append,List.nil_append,simprocAttr]
  refine Le.lit [] [] _ _ ?_ ?_ ?_ ?_
  ·simp only [zL,simprocAttr]
  ·simp only [zL,simprocAttr]
  ·simp [rlook]
  ·(simp;done)
 rintro ⟨i,hi,he⟩
 simp only [keepS,keepE,lk_cons,List.cons_append,List.nil_append,simprocAttr]
 simp only [zX]
 refine aS 272 (fun Q hQ=>by simp (disch:=intros;contradiction) only [zS,zW,simprocAttr];exact hQ) ?_
 refine aw_cond _ rfl trivial (fun ht=>?_) (fun hf=>?_)
 ·skip
  try simp at ht
  simp only [zX]
  have k1 : i < a.length:=by omega
  have k2 : i < b.length:=by omega
  have hs:=str_eq a[i] b[i] (h1 _ (List.getElem_mem k1)) (h2 _ (List.getElem_mem k2))
  refine aw_draw 368 (RG.go fun Q hQ=>?_)
  simp (disch:=first | (intros;contradiction) | omega | (simp only [zN];omega)) only [zS,zW,bodyR,hs,simprocAttr]
  repeat refine ⟨by (first | omega | exact isByteRow_brow _),?_⟩
  refine hQ (RG.nil ⟨by decide +kernel,?_⟩)
  simp only [zX]
  refine aw_cond _ rfl trivial (fun ht=>?_) (fun hf=>?_)
  ·skip
   try simp at ht
   simp only [zX]
   refine aR 576 ?_
   refine Fin.b (.inr rfl) rfl trivial ?_
   rw [eq_comm,decide_eq_false_iff_not]
   exact neq_of_take k1 k2 ht
  try simp at hf
  simp only [zX]
  refine aS 624 (fun Q hQ=>by simp (disch:=first | (intros;contradiction) | omega | (simp only [zN];omega)) only [zS,zW,simprocAttr];exact hQ) ?_
  refine ⟨⟨i + 1,by omega,take_next k1 k2 he hf⟩,?_,by first | omega | (simp only;omega)⟩
  refine Le.lit [] [] _ _ ?_ ?_ ?_ ?_
  ·simp only [zL,simprocAttr]
   all_goals (try ((repeat' (rfl))))
  ·simp only [zL,simprocAttr]
  ·simp [rlook]
  ·(simp;done)
 try simp at hf
 simp only [zX,↓reduceIte]
 have hi' : i = a.length:=by omega
 refine aR 704 ?_
 refine Fin.b (.inr rfl) rfl trivial ?_
 rw [eq_comm,decide_eq_true_iff]
 rw [List.take_of_length_le (by omega),List.take_of_length_le (by omega)] at he
 exact he

end Go.Abs

namespace Go.Abs
open Go Go.Proofs
set_option maxRecDepth 100000
set_option linter.unusedSimpArgs false
set_option maxHeartbeats 4000000

theorem rightV_iff {v : VOL} : rightV v = true ↔ shapeV v = true∧(0≤v.next∧v.next≤v.total)∧(v.hid = true∨v.next = v.total)∧(v.hid = false∨v.total≠0)∧0≤v.floor∧v.floor≤lenV v∧pinsR (lenV v) v.floor v.pins = true∧wsR v.blocks v.size 0 v.ws = true:=by
 unfold rightV
 simp [inR,and_assoc]

theorem pinsR_iff {n : Int} : ∀ {l : List Int} {last : Int},pinsR n last l = true ↔ (∀ p ∈ l,last≤p∧p≤n)∧l.Pairwise (·≤·)
 | [],last=>by simp [pinsR]
 | p :: l,last=>by
  simp only [pinsR,Bool.and_eq_true,decide_eq_true_eq,pinsR_iff (l:=l),List.mem_cons,List.pairwise_cons]
  constructor
  ·rintro ⟨⟨h1,h2⟩,h3,h4⟩
   refine ⟨?_,fun q hq=>(h3 q hq).1,h4⟩
   rintro q (rfl | hq)
   ·exact ⟨h1,h2⟩
   ·exact ⟨by have:=(h3 q hq).1;omega,(h3 q hq).2⟩
  ·rintro ⟨h1,h2,h3⟩
   exact ⟨h1 p (.inl rfl),fun q hq=>⟨h2 q hq,(h1 q (.inr hq)).2⟩,h3⟩

theorem wsR_app {b s : Int} {w : WR} : ∀ {l : List WR} {i : Nat},wsR b s i (l ++ [w]) = (wsR b s i l && (decide (w.s = (i : Int) + l.length + 1) && itemsR b s w.its))
 | [],i=>by simp [wsR]
 | x :: l,i=>by
  simp only [List.cons_append,wsR,wsR_app (l:=l),List.length_cons,Bool.and_assoc]
  congr 3
  rw [show ((i + 1 : Nat) : Int) + l.length + 1 = (i : Int) + ((l.length + 1 : Nat) : Int) + 1 by omega]

structure Vgood (v : VOL) (n : Nat) : Prop where
 right : rightV v = true
 by8 : byW v.ws
 ws : v.ws.length≤n
 pins : v.pins.length≤n
 hidp : v.hid = true→v.pins = []

theorem Vgood.mono {v : VOL} {n m : Nat} (h : Vgood v n) (hm : n≤m) : Vgood v m:=⟨h.right,h.by8,by have:=h.ws;omega,by have:=h.pins;omega,h.hidp⟩

theorem shape_lims {v : VOL} (h : shapeV v = true) : (0≤v.id∧v.id≤7)∧(1≤v.blocks∧v.blocks≤256)∧(1≤v.size∧v.size≤32)∧(1≤v.per∧v.per≤v.blocks)∧(v.place.length : Int) = chunksN v.blocks v.per∧(0≤v.total∧v.total≤1099511627776)∧v.place.length≤512:=by
 have h':=h
 simp only [shapeV,shapeP,Bool.and_eq_true,inR_iff,decide_eq_true_eq] at h'
 obtain ⟨⟨⟨⟨⟨⟨h1,h2⟩,h3⟩,h4⟩,h5⟩,h6⟩,_⟩:=h'
 have:=(chunks_nn (b:=v.blocks) (p:=v.per) (by omega) (by omega)).2
 exact ⟨h1,h2,h3,h4,h5,h6,by omega⟩

theorem Vgood.ok {v : VOL} {n : Nat} (h : Vgood v n) (hn : n≤50000) : Vok v:=by
 obtain ⟨h1,h2,h3,h4,h5⟩:=h
 obtain ⟨r1,r2,r3,r4,r5,r6,r7,r8⟩:=rightV_iff.1 h1
 obtain ⟨s1,s2,s3,s4,s5,s6,s7⟩:=shape_lims r1
 refine ⟨by omega,by omega,by omega,fun w hw=>?_⟩
 have hi:=wsR_mem r8 w hw
 exact ⟨by have:=(itemsR_len hi).2;omega,fun x hx=>by have:=(itemsR_mem hi x hx).2.2;omega⟩

theorem Vgood.next {v : VOL} {n : Nat} (h : Vgood v n) : 0≤v.next∧v.next≤1099511627776:=by
 obtain ⟨r1,r2,r3,r4,r5,r6,r7,r8⟩:=rightV_iff.1 h.right
 obtain ⟨s1,s2,s3,s4,s5,s6,s7⟩:=shape_lims r1
 omega

theorem Vgood.do {v : VOL} {n : Nat} (h : Vgood v n) (hn : n≤50000) {c : CMD} (hl : c.items.length≤1000000) (hd : ∀ x ∈ c.items,x.d.length≤1000000) : DoOk v c:=by
 have h0:=h
 obtain ⟨h1,h2,h3,h4,h5⟩:=h
 obtain ⟨r1,r2,r3,r4,r5,r6,r7,r8⟩:=rightV_iff.1 h1
 exact ⟨h0.ok hn,by omega,(pinsR_iff.1 r7).2,h0.next,hl,hd⟩

theorem Vgood.new {c : CMD} (h : shapeV (newV c) = true) : Vgood (newV c) 0:=by
 have s6 : 0≤c.total:=(shape_lims h).2.2.2.2.2.1.1
 refine ⟨rightV_iff.2 ⟨h,⟨Int.le_refl _,s6⟩,?_,?_,Int.le_refl _,?_,rfl,rfl⟩,fun w hw=>(by cases hw),Nat.le_refl _,Nat.le_refl _,fun _=>rfl⟩
 ·show decide (0 < c.total) = true∨0 = c.total
  simp;omega
 ·show decide (0 < c.total) = false∨c.total≠0
  simp;omega
 ·simp [newV,lenV]

theorem insP_mem {t x : Int} {l : List Int} (hs : l.Pairwise (·≤·)) : x ∈ insP t l ↔ x ∈ l∨x = t:=by
 rw [← insP_eq hs]
 have:=(isort_perm (l ++ [t])).mem_iff (a:=x)
 rw [this];simp
theorem insP_sorted {t : Int} {l : List Int} (hs : l.Pairwise (·≤·)) : (insP t l).Pairwise (·≤·):=by
 rw [← insP_eq hs];exact isort_sorted _
theorem insP_len {t : Int} {l : List Int} (hs : l.Pairwise (·≤·)) : (insP t l).length = l.length + 1:=by
 rw [← insP_eq hs,isort_len];simp
theorem delP_sub {t : Int} : ∀ l : List Int,(delP t l).Sublist l
 | []=>.slnil
 | x :: l=>by
  unfold delP
  split
  ·exact List.sublist_cons_self _ _
  ·exact (delP_sub l).cons_cons _
theorem lowL_le : ∀ (l : List Int) (n : Int),lowL n l≤n∧∀ p ∈ l,lowL n l≤p
 | [],n=>⟨Int.le_refl _,fun p hp=>(by cases hp)⟩
 | x :: l,n=>by
  have:=lowL_le l (min n x)
  have e : lowL n (x :: l) = lowL (min n x) l:=rfl
  rw [e]
  refine ⟨by omega,fun p hp=>?_⟩
  rcases List.mem_cons.1 hp with rfl | hp
  ·omega
  ·exact this.2 p hp

theorem Vgood.add {v : VOL} {n : Nat} (h : Vgood v n) {l : List IT} (hr : itemsR v.blocks v.size l = true) (hb : byI l) : Vgood (addW v l) (n + 1):=by
 obtain ⟨h1,h2,h3,h4,h5⟩:=h
 obtain ⟨r1,r2,r3,r4,r5,r6,r7,r8⟩:=rightV_iff.1 h1
 have hlen : lenV (addW v l) = lenV v + 1:=by simp [lenV,addW]
 refine ⟨rightV_iff.2 ⟨r1,r2,r3,r4,r5,by rw [hlen];show v.floor≤_;omega,?_,?_⟩,fun w hw=>?_,by simp [addW];omega,by show v.pins.length≤_;omega,h5⟩
 ·rw [hlen];show pinsR _ v.floor v.pins = true
  obtain ⟨p1,p2⟩:=pinsR_iff.1 r7
  exact pinsR_iff.2 ⟨fun p hp=>by have:=p1 p hp;omega,p2⟩
 ·show wsR v.blocks v.size 0 (v.ws ++ [⟨v.ws.length + 1,l⟩]) = true
  rw [wsR_app,r8];simp [hr]
 ·simp only [addW,List.mem_append,List.mem_singleton] at hw
  rcases hw with hw | rfl
  ·exact h2 w hw
  ·exact hb

theorem Vgood.doV {v : VOL} {n : Nat} (h : Vgood v n) {c : CMD} (hb : byI c.items) : Vgood (doV v c).v (n + 1):=by
 have hm:=h.mono (Nat.le_succ n)
 have hf : ∀ e,Vgood (fail v e).v (n + 1):=fun e=>hm
 obtain ⟨h1,h2,h3,h4,h5⟩:=h
 obtain ⟨r1,r2,r3,r4,r5,r6,r7,r8⟩:=rightV_iff.1 h1
 obtain ⟨p1,p2⟩:=pinsR_iff.1 r7
 have himp : Vgood (doImp v c).v (n + 1):=by
  unfold doImp
  split
  ·rename_i hi
   unfold impS at hi
   split at hi
   ·cases hi
   split at hi
   ·split at hi <;> cases hi
   split at hi
   ·cases hi
   split at hi
   ·cases hi
   rename_i g1 g2 g3 g4
   split at hi
   ·rename_i g5
    have ha:=Vgood.add ⟨h1,h2,h3,h4,h5⟩ g5 hb
    obtain ⟨a1,a2,a3,a4,a5⟩:=ha
    obtain ⟨q1,q2,q3,q4,q5,q6,q7,q8⟩:=rightV_iff.1 a1
    have g1' : v.hid = true:=by simpa using g1
    exact ⟨rightV_iff.2 ⟨q1,⟨by show 0≤v.next + 1;omega,by show v.next + 1≤v.total;omega⟩,.inl g1',q4,q5,q6,q7,q8⟩,a2,a3,a4,a5⟩
   ·cases hi
  ·rename_i w e hi
   split
   ·rename_i he
    subst he
    unfold impS at hi
    split at hi
    ·cases hi
    split at hi
    ·split at hi
     ·cases hi
      rename_i g1 g2 g3
      have g1' : v.hid = true:=by simpa using g1
      have hp:=h5 g1'
      refine ⟨rightV_iff.2 ⟨r1,r2,.inr g3,.inl rfl,?_,Int.le_refl _,?_,r8⟩,h2,by show v.ws.length≤_;omega,by show v.pins.length≤_;omega,fun h=>by cases h⟩
      ·show (0 : Int)≤(v.ws.length : Int);omega
      ·show pinsR _ _ v.pins = true;rw [hp];rfl
     ·cases hi
    split at hi
    ·cases hi;exact hm
    split at hi
    ·cases hi
    split at hi <;> cases hi
   ·exact hm
 unfold Go.Abs.doV
 split
 ·unfold doPut
  split
  ·exact hm
  split
  ·rename_i g;exact Vgood.add ⟨h1,h2,h3,h4,h5⟩ g hb
  ·exact hm
 split
 ·unfold doPrune
  split
  ·exact hm
  split
  ·exact hm
  split
  ·exact hm
  ·rename_i g1 g2 g3
   have hl:=lowL_le v.pins v.ws.length
   refine ⟨rightV_iff.2 ⟨r1,r2,r3,r4,by show 0≤c.at';omega,?_,?_,r8⟩,h2,by show v.ws.length≤_;omega,by show v.pins.length≤_;omega,h5⟩
   ·show c.at'≤lenV v
    have:=lowV_le v;omega
   ·show pinsR (lenV v) c.at' v.pins = true
    refine pinsR_iff.2 ⟨fun p hp=>⟨?_,(p1 p hp).2⟩,p2⟩
    have : lowV v≤p:=hl.2 p hp
    omega
 split
 ·unfold doPin
  split
  ·exact hm
  split
  ·exact hm
  split
  ·exact hm
  ·rename_i g1 g2 g3
   have g1' : v.hid = false:=by simpa using g1
   refine ⟨rightV_iff.2 ⟨r1,r2,r3,r4,r5,r6,?_,r8⟩,h2,by show v.ws.length≤_;omega,?_,fun h=>by rw [show v.hid = true from h] at g1';cases g1'⟩
   ·show pinsR (lenV v) v.floor (insP c.at' v.pins) = true
    refine pinsR_iff.2 ⟨fun p hp=>?_,insP_sorted p2⟩
    rcases (insP_mem p2).1 hp with hp | rfl
    ·exact p1 p hp
    ·omega
   ·show (insP c.at' v.pins).length≤_
    rw [insP_len p2];omega
 split
 ·unfold doUnpin
  split
  ·exact hm
  split
  ·rename_i g1 g2
   have g1' : v.hid = false:=by simpa using g1
   refine ⟨rightV_iff.2 ⟨r1,r2,r3,r4,r5,r6,?_,r8⟩,h2,by show v.ws.length≤_;omega,?_,fun h=>by rw [show v.hid = true from h] at g1';cases g1'⟩
   ·show pinsR (lenV v) v.floor (delP c.at' v.pins) = true
    exact pinsR_iff.2 ⟨fun p hp=>p1 p ((delP_sub _).subset hp),p2.sublist (delP_sub _)⟩
   ·show (delP c.at' v.pins).length≤_
    have:=(delP_sub (t:=c.at') v.pins).length_le;omega
  ·exact hm
 split
 ·exact himp
 split
 ·exact hm
 ·exact hm

theorem createC_shape (vol blocks size per total : Nat) (h : total < 1000) : shapeV (newV (createC vol blocks size per total)) = true:=by
 obtain ⟨b,hb⟩ : ∃ b,b = blocks % 9 + 1:=⟨_,rfl⟩
 obtain ⟨p,hp⟩ : ∃ p,p = per % b + 1:=⟨_,rfl⟩
 have hpb : p≤b:=by have:=Nat.mod_lt per (show 0 < b by omega);omega
 obtain ⟨c1,c2⟩:=chunks_nn (b:=b) (p:=p) (by omega) (by omega)
 have e : createC vol blocks size per total = ⟨1,(vol % 3 : Nat),b,(size % 3 + 1 : Nat),p,placeN per (chunksN b p).toNat,total,0,0,[]⟩:=by unfold createC;rw [← hb,← hp]
 rw [e]
 obtain ⟨m,hm⟩ : ∃ m,m = (chunksN b p).toNat:=⟨_,rfl⟩
 rw [← hm]
 show (inR ((vol % 3 : Nat) : Int) 0 7 && inR b 1 256 && inR ((size % 3 + 1 : Nat) : Int) 1 32 && inR p 1 b && decide (((placeN per m).length : Int) = chunksN b p) && inR total 0 1099511627776 && (placeN per m).all fun n=>inR n 1 7) = true
 rw [placeN_len]
 simp only [Bool.and_eq_true,inR_iff,decide_eq_true_eq]
 refine ⟨⟨⟨⟨⟨⟨by omega,by omega⟩,by omega⟩,by omega⟩,by omega⟩,by omega⟩,List.all_eq_true.2 fun x hx=>?_⟩
 obtain ⟨i,_,rfl⟩:=List.mem_map.1 hx
 rw [inR_iff];omega

theorem new_of {c : CMD} (h : shapeV (newV c) = true) : newR c = (newV c,0):=by unfold newR;rw [if_pos h]

end Go.Abs

namespace Go.Abs
open Go Go.Proofs
set_option maxRecDepth 100000
set_option linter.unusedSimpArgs false
set_option maxHeartbeats 4000000

def cmd0 (v : VOL) (B S L k a b c : Nat) : CMD :=
 if k≤3 then ⟨2,v.id,0,0,0,[],0,0,0,itsN B S [a,b,c]⟩
 else if k = 4 then ⟨3,v.id,0,0,0,[],0,(a % (L + 2) : Nat),0,[]⟩
 else if k = 5 then ⟨4,v.id,0,0,0,[],0,(a % (L + 2) : Nat),0,[]⟩
 else if k = 6 then ⟨5,v.id,0,0,0,[],0,(a % (L + 2) : Nat),0,[]⟩
 else if k = 7 then ⟨8,v.id,0,0,0,[],0,0,0,[]⟩
 else if k = 8 then ⟨6,v.id,0,0,0,[],0,0,max (v.next - (c % 5 / 4 : Nat)) 0,itsN B S [a,b]⟩
 else ⟨7,v.id,0,0,0,[],0,0,0,[]⟩
def cmdV (v : VOL) (B S L w a b c : Nat) : CMD :=
 if v.hid = true∧w % 10 < 5 then ⟨6,v.id,0,0,0,[],0,0,v.next,itsN B S [a,b,c]⟩ else cmd0 v B S L (w % 10) a b c

def zeroC0 : CMD:=⟨0,0,0,0,0,[],0,0,0,[]⟩
theorem Cmd_there (v : VOL) (n : Nat) (g : Vgood v n) (hn : n≤50000) (w a b c : Nat) (hw : w < 256) (ha : a < 256) (hb : b < 256) (hc : c < 256) :
  Con Try.prog 17 [.agg (volC v),B true,.c (.v (.int .u8 w)),.c (.v (.int .u8 a)),.c (.v (.int .u8 b)),.c (.v (.int .u8 c))] [] (.agg (cmdC (cmdV v v.blocks.toNat v.size.toNat v.ws.length w a b c))) []:=by
 obtain ⟨r1,r2,r3,r4,r5,r6,r7,r8⟩:=rightV_iff.1 g.right
 obtain ⟨s1,s2,s3,s4,s5,s6,s7⟩:=shape_lims r1
 have hlen:=g.ws
 obtain ⟨bl,hbl⟩ : ∃ bl : Nat,v.blocks = bl:=⟨v.blocks.toNat,by omega⟩
 obtain ⟨sz,hsz⟩ : ∃ sz : Nat,v.size = sz:=⟨v.size.toNat,by omega⟩
 obtain ⟨k,hk⟩ : ∃ k,k = w % 10:=⟨_,rfl⟩
 have e1 : (w : Int) % 10 = (k : Int):=by omega
 rw [hbl,hsz]
 simp only [Int.toNat_natCast]
 have m1 : (a : Int).tmod ((v.ws.length : Int) + 2) = ((a % (v.ws.length + 2) : Nat) : Int):=by
  rw [Int.tmod_eq_emod_of_nonneg (by omega)];push_cast;rfl
 have cI3 : Con Try.prog 38 [I v.blocks,I v.size,.c (.sl [[.v (.int .u8 a)],[.v (.int .u8 b)],[.v (.int .u8 c)]])] [] (.c (.sl ((itsN bl sz [a,b,c]).map irow))) []:=by
  rw [hbl,hsz];exact (Items_con bl sz [a,b,c] (by omega) (by omega) (by simp) (by intro x hx;simp at hx;omega)).rows (drows_irow _)
 have cI2 : Con Try.prog 38 [I v.blocks,I v.size,.c (.sl [[.v (.int .u8 a)],[.v (.int .u8 b)]])] [] (.c (.sl ((itsN bl sz [a,b]).map irow))) []:=by
  rw [hbl,hsz];exact (Items_con bl sz [a,b] (by omega) (by omega) (by simp) (by intro x hx;simp at hx;omega)).rows (drows_irow _)
 have cL:=mementoref16_Len_con v
 refine C_mementoseat_Cmd nl nl ?_
 simp only [cz,A_mementoseat_Cmd,argL,objL,List.length_nil,Nat.zero_add,zX,simprocAttr]
 refine aS 16 (fun Q hQ=>by simp (disch:=intros;contradiction) only [zS,vC_eq,simprocAttr];exact hQ) ?_
 refine aR 80 ?_
 refine aF ?_
 refine aw_reg 144 (RG.go fun Q hQ=>?_)
 simp (disch:=intros;contradiction) only [zS,simprocAttr]
 refine hQ (RG.nil ?_)
 simp only [zY]
 refine aw_joinS (Y:=Unit) [2,3,4,5,6,12,14] (fun y=>[]) [16] (fun y=>[(32,.box (cmdC zeroC0)),(192,.box (cmdC (cmd0 v bl sz v.ws.length k a b c)))]) (by (repeat' (exact cl_fin))) ?_ ?_
 ·skip
  simp only [zX]
  refine aw_reg 256 (RG.go fun Q hQ=>?_)
  simp (disch:=first | (intros;contradiction) | omega | (simp only [zN];omega)) only [zS,zW,e1,simprocAttr]
  repeat refine ⟨by (omega),?_⟩
  refine hQ (RG.nil ?_)
  simp only [zY]
  refine aw_block ?_
  refine aw_joinS (Y:={ q : Bool // q = decide (k≤3) }) [2,3,4,5,6,12,14,37] (fun q=>[(39,B q.1)]) [16,32,192] (fun q=>[]) (by (repeat' (first | exact cl_fin | refine cl_block ?_ | refine cl_goto ?_))) ?_ ?_
  ·skip
   simp only [zX]
   refine aR 320 ?_
   refine aw_cond _ rfl trivial (fun ht=>?_) (fun hf=>?_)
   ·skip
    try simp at ht
    simp only [zX]
    refine ⟨⟨decide (k≤3),rfl⟩,?_⟩
    simp only [keepS,keepE,Option.getD_some,lk_cons,lkE_cons,List.cons_append,List.nil_append,simprocAttr]
    refine Le.lit [] [] _ _ ?_ ?_ ?_ ?_
    ·simp only [zL,simprocAttr]
     all_goals (rw [Value.bool.injEq,Bool.eq_iff_iff];simp;omega;skip)
    ·simp only [zL,simprocAttr]
    ·simp [rlook]
    ·(simp;done)
   try simp at hf
   simp only [zX]
   refine aR 384 ?_
   refine aw_cond _ rfl trivial (fun ht=>?_) (fun hf=>?_)
   ·skip
    try simp at ht
    simp only [zX]
    refine ⟨⟨decide (k≤3),rfl⟩,?_⟩
    simp only [keepS,keepE,Option.getD_some,lk_cons,lkE_cons,List.cons_append,List.nil_append,simprocAttr]
    refine Le.lit [] [] _ _ ?_ ?_ ?_ ?_
    ·simp only [zL,simprocAttr]
     all_goals (rw [Value.bool.injEq,Bool.eq_iff_iff];simp;omega;skip)
    ·simp only [zL,simprocAttr]
    ·simp [rlook]
    ·(simp;done)
   try simp at hf
   simp only [zX]
   refine aR 448 ?_
   refine aw_cond _ rfl trivial (fun ht=>?_) (fun hf=>?_)
   ·skip
    try simp at ht
    simp only [zX]
    refine ⟨⟨decide (k≤3),rfl⟩,?_⟩
    simp only [keepS,keepE,Option.getD_some,lk_cons,lkE_cons,List.cons_append,List.nil_append,simprocAttr]
    refine Le.lit [] [] _ _ ?_ ?_ ?_ ?_
    ·simp only [zL,simprocAttr]
     all_goals (rw [Value.bool.injEq,Bool.eq_iff_iff];simp;omega;skip)
    ·simp only [zL,simprocAttr]
    ·simp [rlook]
    ·(simp;done)
   try simp at hf
   refine aR 512 ?_
   refine ⟨⟨decide (k≤3),rfl⟩,?_⟩
   simp only [keepS,keepE,Option.getD_some,lk_cons,lkE_cons,List.cons_append,List.nil_append,simprocAttr]
   refine Le.lit [] [] _ _ ?_ ?_ ?_ ?_
   ·simp only [zL,simprocAttr]
    all_goals (rw [Value.bool.injEq,Bool.eq_iff_iff];simp;omega;skip)
   ·simp only [zL,simprocAttr]
   ·simp [rlook]
   ·(simp;done)
  rintro ⟨q,hq⟩
  simp only [keepS,keepE,Option.getD_some,lk_cons,lkE_cons,List.cons_append,List.nil_append,simprocAttr]
  refine aw_cond _ rfl trivial (fun ht=>?_) (fun hf=>?_)
  ·skip
   try simp at ht
   have hE : cmd0 v bl sz v.ws.length k a b c = ⟨2,v.id,0,0,0,[],0,0,0,itsN bl sz [a,b,c]⟩:=by unfold cmd0;rw [if_pos (by simp [hq] at ht;omega)]
   refine aB 576 ?_
   refine rO [] [688] (cI3) ?_
   refine aE ?_
   refine ⟨(),?_⟩
   refine Le.lit [] [] _ _ ?_ ?_ ?_ ?_
   ·simp only [zL,simprocAttr]
   ·simp only [zL,simprocAttr]
    all_goals (rw [hE];trivial;skip)
   ·simp [rlook]
   ·(simp;done)
  try simp at hf
  simp only [zX]
  have hq3 : ¬ k≤3:=by simp [hq] at hf;omega
  refine aR 816 ?_
  refine aw_cond _ rfl trivial (fun ht=>?_) (fun hf=>?_)
  ·skip
   try simp at ht
   have hE : cmd0 v bl sz v.ws.length k a b c = ⟨3,v.id,0,0,0,[],0,(a % (v.ws.length + 2) : Nat),0,[]⟩:=by unfold cmd0;rw [if_neg hq3,if_pos (by omega)]
   refine aBDs 880 (fun Q hQ=>by simp (disch:=first | (intros;contradiction) | omega | (simp only [zN];omega)) only [zS,zW,simprocAttr];exact hQ) ?_
   refine rC [] (cL) ?_
   refine aEDs (fun Q hQ=>by simp (disch:=first | (intros;contradiction) | omega | (simp only [zN];omega)) only [zS,zW,lenV,simprocAttr];repeat refine ⟨by (omega),?_⟩;exact hQ) ?_
   refine ⟨(),?_⟩
   refine Le.lit [] [] _ _ ?_ ?_ ?_ ?_
   ·simp only [zL,simprocAttr]
   ·simp only [zL,simprocAttr]
    all_goals (rw [hE];trivial;skip)
   ·simp [rlook]
   ·(simp;done)
  try simp at hf
  simp only [zX]
  refine aR 1072 ?_
  refine aw_cond _ rfl trivial (fun ht=>?_) (fun hf=>?_)
  ·skip
   try simp at ht
   have hE : cmd0 v bl sz v.ws.length k a b c = ⟨4,v.id,0,0,0,[],0,(a % (v.ws.length + 2) : Nat),0,[]⟩:=by unfold cmd0;rw [if_neg hq3,if_neg (by omega),if_pos (by omega)]
   refine aBDs 1136 (fun Q hQ=>by simp (disch:=first | (intros;contradiction) | omega | (simp only [zN];omega)) only [zS,zW,simprocAttr];exact hQ) ?_
   refine rC [] (cL) ?_
   refine aEDs (fun Q hQ=>by simp (disch:=first | (intros;contradiction) | omega | (simp only [zN];omega)) only [zS,zW,lenV,simprocAttr];repeat refine ⟨by (omega),?_⟩;exact hQ) ?_
   refine ⟨(),?_⟩
   refine Le.lit [] [] _ _ ?_ ?_ ?_ ?_
   ·simp only [zL,simprocAttr]
   ·simp only [zL,simprocAttr]
    all_goals (rw [hE];trivial;skip)
   ·simp [rlook]
   ·(simp;done)
  try simp at hf
  simp only [zX]
  refine aR 1328 ?_
  refine aw_cond _ rfl trivial (fun ht=>?_) (fun hf=>?_)
  ·skip
   try simp at ht
   have hE : cmd0 v bl sz v.ws.length k a b c = ⟨5,v.id,0,0,0,[],0,(a % (v.ws.length + 2) : Nat),0,[]⟩:=by unfold cmd0;rw [if_neg hq3,if_neg (by omega),if_neg (by omega),if_pos (by omega)]
   refine aBDs 1392 (fun Q hQ=>by simp (disch:=first | (intros;contradiction) | omega | (simp only [zN];omega)) only [zS,zW,simprocAttr];exact hQ) ?_
   refine rC [] (cL) ?_
   refine aEDs (fun Q hQ=>by simp (disch:=first | (intros;contradiction) | omega | (simp only [zN];omega)) only [zS,zW,lenV,simprocAttr];repeat refine ⟨by (omega),?_⟩;exact hQ) ?_
   refine ⟨(),?_⟩
   refine Le.lit [] [] _ _ ?_ ?_ ?_ ?_
   ·simp only [zL,simprocAttr]
   ·simp only [zL,simprocAttr]
    all_goals (rw [hE];trivial;skip)
   ·simp [rlook]
   ·(simp;done)
  try simp at hf
  simp only [zX]
  refine aR 1584 ?_
  refine aw_cond _ rfl trivial (fun ht=>?_) (fun hf=>?_)
  ·skip
   try simp at ht
   have hE : cmd0 v bl sz v.ws.length k a b c = ⟨8,v.id,0,0,0,[],0,0,0,[]⟩:=by unfold cmd0;rw [if_neg hq3,if_neg (by omega),if_neg (by omega),if_neg (by omega),if_pos (by omega)]
   refine aR 1648 ?_
   refine ⟨(),?_⟩
   refine Le.lit [] [] _ _ ?_ ?_ ?_ ?_
   ·simp only [zL,simprocAttr]
   ·simp only [zL,simprocAttr]
    all_goals (rw [hE];trivial;skip)
   ·simp [rlook]
   ·(simp;done)
  try simp at hf
  simp only [zX]
  refine aR 1712 ?_
  refine aw_cond _ rfl trivial (fun ht=>?_) (fun hf=>?_)
  ·skip
   try simp at ht
   have hE : cmd0 v bl sz v.ws.length k a b c = ⟨6,v.id,0,0,0,[],0,0,max (v.next - (c % 5 / 4 : Nat)) 0,itsN bl sz [a,b]⟩:=by unfold cmd0;rw [if_neg hq3,if_neg (by omega),if_neg (by omega),if_neg (by omega),if_neg (by omega),if_pos (by omega)]
   have m2 : (c : Int) % 5 = ((c % 5 : Nat) : Int):=by omega
   have m3 : ((c % 5 : Nat) : Int) / 4 = ((c % 5 / 4 : Nat) : Int):=by omega
   have m4 : ((c % 5 : Nat) : Int).tdiv 4 = ((c % 5 / 4 : Nat) : Int):=by rw [Int.tdiv_eq_ediv_of_nonneg (by omega)];omega
   refine aw_draw 1776 (RG.go fun Q hQ=>?_)
   simp (disch:=first | (intros;contradiction) | omega | (simp only [zN];omega)) only [zS,zW,m2,m3,simprocAttr]
   repeat refine ⟨by (omega),?_⟩
   refine hQ ?_
   refine rO [] [2000] (cI2) ?_
   refine RG.go fun Q hQ=>?_
   simp (disch:=intros;contradiction) only [zS,simprocAttr]
   have m5:=max_if (v.next - (c % 5 / 4 : Nat)) 0
   refine hQ (RG.nil ⟨by decide +kernel,?_⟩)
   simp only [zX]
   refine ⟨(),?_⟩
   refine Le.lit [] [] _ _ ?_ ?_ ?_ ?_
   ·simp only [zL,simprocAttr]
   ·simp only [zL,simprocAttr]
    all_goals (rw [hE];simp only [m5];trivial;skip)
   ·simp [rlook]
   ·(simp;done)
  try simp at hf
  have hE : cmd0 v bl sz v.ws.length k a b c = ⟨7,v.id,0,0,0,[],0,0,0,[]⟩:=by unfold cmd0;rw [if_neg hq3,if_neg (by omega),if_neg (by omega),if_neg (by omega),if_neg (by omega),if_neg (by omega)]
  refine aR 2160 ?_
  refine ⟨(),?_⟩
  refine Le.lit [] [] _ _ ?_ ?_ ?_ ?_
  ·simp only [zL,simprocAttr]
  ·simp only [zL,simprocAttr]
   all_goals (rw [hE];trivial;skip)
  ·simp [rlook]
  ·(simp;done)
 rintro y
 simp only [keepS,keepE,Option.getD_some,lk_cons,lkE_cons,List.cons_append,List.nil_append,simprocAttr]
 simp only [zX]
 refine aw_reg 2224 (RG.go fun Q hQ=>?_)
 simp (disch:=first | (intros;contradiction) | omega | (simp only [zN];omega)) only [zS,zW,cmdC,cC,e1,simprocAttr]
 repeat refine ⟨by ((simp;done)),?_⟩
 refine hQ (RG.nil ?_)
 simp only [zX]
 refine aw_cond _ rfl trivial (fun ht=>?_) (fun hf=>?_)
 ·skip
  try simp at ht
  have hE : cmdV v bl sz v.ws.length w a b c = ⟨6,v.id,0,0,0,[],0,0,v.next,itsN bl sz [a,b,c]⟩:=by unfold cmdV;rw [if_pos ⟨ht.1,by have:=ht.2;omega⟩]
  rw [hE]
  refine aBD 2368 ?_
  refine rO [] [2544] (cI3) ?_
  refine aED ?_
  refine aR 2640 ?_
  refine Fin.data [] (.inr rfl) rfl (by (exact ⟨trivial,trivial⟩)) ?_
  simp only [zL]
  all_goals ((repeat' (first | exact trivial | rfl | refine ⟨?_,?_⟩)))
 try simp at hf
 simp only [zX]
 have hE : cmdV v bl sz v.ws.length w a b c = cmd0 v bl sz v.ws.length k a b c:=by unfold cmdV;rw [if_neg (by rintro ⟨h1,h2⟩;have:=hf h1;omega),hk]
 rw [hE]
 refine aR 2704 ?_
 refine Fin.data [] (.inr rfl) rfl (by (exact ⟨trivial,trivial⟩)) ?_
 simp only [zL]
 all_goals ((repeat' (first | exact trivial | rfl | refine ⟨?_,?_⟩)))

end Go.Abs

namespace Go.Abs
open Go Go.Proofs
set_option maxRecDepth 100000
set_option linter.unusedSimpArgs false
set_option maxHeartbeats 4000000

def u64N (n : Int) : Nat:=(n % 18446744073709551616).toNat
theorem u64N_wrap (n : Int) : IntKind.u64.wrap n = (u64N n : Int):=by rw [w_u64];unfold u64N;omega
theorem u64N_lt (n : Int) : u64N n < 18446744073709551616:=by unfold u64N;omega
def numsL (l : List Int) : List Nat:=putS (l.map u64N)
theorem numsL_len (l : List Int) : (numsL l).length≤l.length * 10:=by
 have:=putS_len (l.map u64N) (fun n hn=>by obtain ⟨m,_,rfl⟩:=List.mem_map.1 hn;exact u64N_lt m)
 simpa [numsL] using this
theorem numsL_succ (l : List Int) (i : Nat) (hi : i < l.length) : numsL (l.take (i + 1)) = numsL (l.take i) ++ putS [u64N l[i]]:=by
 unfold numsL;rw [take_one l i hi,List.map_append];unfold putS;rw [List.flatMap_append];rfl
theorem putS1_len (n : Int) : (putS [u64N n]).length≤10:=by
 have:=putS_len [u64N n] (fun m hm=>by simp at hm;rw [hm];exact u64N_lt n)
 simpa using this
theorem Put1_con (n : Int) : Con Try.prog 84 [.c (.sl [[.v (.int .u64 (u64N n))]])] [] (.c (.osl 0)) [.arr 5 1 ((putS [u64N n]).map brow) false] :=
 mementoref1_Put_con [u64N n] (by simp) (by intro m hm;simp at hm;rw [hm];exact u64N_lt n)

theorem nums16_con (l : List Int) (hl : l.length≤1000000) : Con Try.prog 72 [.c (.sl (l.map nrow))] [] (.c (.osl 0)) [.arr 5 1 ((numsL l).map brow) false]:=by
 refine C_mementoref16_nums nl nl ?_
 simp only [cz,A_mementoref16_nums,argL,objL,List.length_nil,zX]
 refine aR 16 ?_
 refine aR 64 ?_
 refine aR 112 ?_
 refine aw_loopK (X:={ i : Nat // i≤l.length }) [0] (fun i=>[(3,.c (.osl 5000)),(4,I i.1)]) [] (fun i=>[(5000,.arr 5 1 ((numsL (l.take i.1)).map brow) false)]) (fun i=>l.length - i.1) (⟨0,by omega⟩) ?_ ?_
 ·skip
  simp only [keepS,keepE,lk_cons,List.cons_append,List.nil_append,↓reduceIte]
  refine (Le.own 3 5000 5 1 rfl rfl (by decide)).trans ?_
  simp only [setS_cons,setE_nil,simprocAttr]
  refine Le.lit [] [] _ _ ?_ ?_ ?_ ?_
  ·simp only [zL,simprocAttr]
  ·simp only [zL,simprocAttr]
   all_goals (try ((repeat' (first | (exact drows_brow _) | rfl | refine ⟨?_,?_⟩))))
  ·simp [rlook]
  ·(simp;done)
 rintro ⟨i,hi⟩
 simp only [keepS,keepE,lk_cons,List.cons_append,List.nil_append,↓reduceIte]
 simp only [zX]
 refine aS 160 (fun Q hQ=>by simp (disch:=intros;contradiction) only [zS,zW,simprocAttr];exact hQ) ?_
 refine aw_cond _ rfl trivial (fun ht=>?_) (fun hf=>?_)
 ·skip
  try simp at ht
  simp only [zX]
  have hi' : i < l.length:=by omega
  have e1:=u64N_wrap l[i]
  have e2:=numsL_len (l.take i)
  have e3:=putS1_len l[i]
  have e4 : (numsL (l.take i)).map brow ++ (putS [u64N l[i]]).map brow = (numsL (l.take (i + 1))).map brow:=by rw [numsL_succ l i hi',List.map_append]
  simp only [List.length_take] at e2
  refine aBs 256 (fun Q hQ=>by simp (disch:=first | (intros;contradiction) | omega | (simp only [zN];omega)) only [zS,zW,nrow,e1,simprocAttr];repeat refine ⟨by (omega),?_⟩;exact hQ) ?_
  refine rO [] [352] (Put1_con l[i]) ?_
  refine aEs (fun Q hQ=>by simp (disch:=intros;contradiction) only [zS,zW,e4,simprocAttr];repeat refine ⟨by (exact ⟨by (intro q hq;obtain ⟨_,_,rfl⟩:=List.mem_map.1 hq;rfl),by omega⟩),?_⟩;exact hQ) ?_
  refine aS 448 (fun Q hQ=>by simp (disch:=first | (intros;contradiction) | omega | (simp only [zN];omega)) only [zS,zW,simprocAttr];exact hQ) ?_
  refine ⟨⟨i + 1,by omega⟩,?_,by first | omega | (simp only;omega)⟩
  refine Le.lit [] [(5000,384)] _ _ ?_ ?_ ?_ ?_
  ·simp only [zL,simprocAttr]
   all_goals (try ((repeat' (rfl))))
  ·simp only [zL,simprocAttr]
   all_goals (try ((repeat' ((exact drows_brow _)))))
  ·simp [rlook]
  ·(simp;done)
 try simp at hf
 simp only [zX,↓reduceIte]
 obtain rfl : i = l.length:=by omega
 refine aS 528 (fun Q hQ=>by simp (disch:=intros;contradiction) only [zS,zW,simprocAttr];exact hQ) ?_
 refine Fin.objs [] [(0,5000)] (.inr rfl) rfl (by exact trivial) ?_ ?_ (by simp [objL,rlook]) (by (simp [objL,rlook];done))
 ·simp only [zL,simprocAttr]
 ·simp only [zL,simprocAttr]
  all_goals (try ((repeat' ((exact drows_brow _)))))

theorem nums13_con (l : List Int) (hl : l.length≤1000000) : Con Try.prog 85 [.c (.sl (l.map nrow))] [] (.c (.osl 0)) [.arr 5 1 ((numsL l).map brow) false]:=by
 refine C_mementoref13_nums nl nl ?_
 simp only [cz,A_mementoref13_nums,argL,objL,List.length_nil,zX]
 refine aR 16 ?_
 refine aR 64 ?_
 refine aR 112 ?_
 refine aw_loopK (X:={ i : Nat // i≤l.length }) [0] (fun i=>[(3,.c (.osl 5000)),(4,I i.1)]) [] (fun i=>[(5000,.arr 5 1 ((numsL (l.take i.1)).map brow) false)]) (fun i=>l.length - i.1) (⟨0,by omega⟩) ?_ ?_
 ·skip
  simp only [keepS,keepE,lk_cons,List.cons_append,List.nil_append,↓reduceIte]
  refine (Le.own 3 5000 5 1 rfl rfl (by decide)).trans ?_
  simp only [setS_cons,setE_nil,simprocAttr]
  refine Le.lit [] [] _ _ ?_ ?_ ?_ ?_
  ·simp only [zL,simprocAttr]
  ·simp only [zL,simprocAttr]
   all_goals (try ((repeat' (first | (exact drows_brow _) | rfl | refine ⟨?_,?_⟩))))
  ·simp [rlook]
  ·(simp;done)
 rintro ⟨i,hi⟩
 simp only [keepS,keepE,lk_cons,List.cons_append,List.nil_append,↓reduceIte]
 simp only [zX]
 refine aS 160 (fun Q hQ=>by simp (disch:=intros;contradiction) only [zS,zW,simprocAttr];exact hQ) ?_
 refine aw_cond _ rfl trivial (fun ht=>?_) (fun hf=>?_)
 ·skip
  try simp at ht
  simp only [zX]
  have hi' : i < l.length:=by omega
  have e1:=u64N_wrap l[i]
  have e2:=numsL_len (l.take i)
  have e3:=putS1_len l[i]
  have e4 : (numsL (l.take i)).map brow ++ (putS [u64N l[i]]).map brow = (numsL (l.take (i + 1))).map brow:=by rw [numsL_succ l i hi',List.map_append]
  simp only [List.length_take] at e2
  refine aBs 256 (fun Q hQ=>by simp (disch:=first | (intros;contradiction) | omega | (simp only [zN];omega)) only [zS,zW,nrow,e1,simprocAttr];repeat refine ⟨by (omega),?_⟩;exact hQ) ?_
  refine rO [] [352] (Put1_con l[i]) ?_
  refine aEs (fun Q hQ=>by simp (disch:=intros;contradiction) only [zS,zW,e4,simprocAttr];repeat refine ⟨by (exact ⟨by (intro q hq;obtain ⟨_,_,rfl⟩:=List.mem_map.1 hq;rfl),by omega⟩),?_⟩;exact hQ) ?_
  refine aS 448 (fun Q hQ=>by simp (disch:=first | (intros;contradiction) | omega | (simp only [zN];omega)) only [zS,zW,simprocAttr];exact hQ) ?_
  refine ⟨⟨i + 1,by omega⟩,?_,by first | omega | (simp only;omega)⟩
  refine Le.lit [] [(5000,384)] _ _ ?_ ?_ ?_ ?_
  ·simp only [zL,simprocAttr]
   all_goals (try ((repeat' (rfl))))
  ·simp only [zL,simprocAttr]
   all_goals (try ((repeat' ((exact drows_brow _)))))
  ·simp [rlook]
  ·(simp;done)
 try simp at hf
 simp only [zX,↓reduceIte]
 obtain rfl : i = l.length:=by omega
 refine aS 528 (fun Q hQ=>by simp (disch:=intros;contradiction) only [zS,zW,simprocAttr];exact hQ) ?_
 refine Fin.objs [] [(0,5000)] (.inr rfl) rfl (by exact trivial) ?_ ?_ (by simp [objL,rlook]) (by (simp [objL,rlook];done))
 ·simp only [zL,simprocAttr]
 ·simp only [zL,simprocAttr]
  all_goals (try ((repeat' ((exact drows_brow _)))))

theorem num1_16 (n : Int) : Con Try.prog 72 [.c (.sl [[.v (.int .i64 n)]])] [] (.c (.osl 0)) [.arr 5 1 ((putS [u64N n]).map brow) false]:=nums16_con [n] (by simp)
theorem num1_13 (n : Int) : Con Try.prog 85 [.c (.sl [[.v (.int .i64 n)]])] [] (.c (.osl 0)) [.arr 5 1 ((putS [u64N n]).map brow) false]:=nums13_con [n] (by simp)

def placeB (l : List Int) : List Nat:=putS [u64N l.length] ++ numsL l
theorem placeB_succ (n : Nat) (l : List Int) (i : Nat) (hi : i < l.length) : putS [u64N n] ++ numsL (l.take (i + 1)) = putS [u64N n] ++ numsL (l.take i) ++ putS [u64N l[i]]:=by
 rw [numsL_succ l i hi,List.append_assoc]

theorem place_con (l : List Int) (hl : l.length≤1000000) : Con Try.prog 73 [.c (.sl (l.map nrow))] [] (.c (.osl 0)) [.arr 5 1 ((placeB l).map brow) false]:=by
 refine C_mementoref16_place nl nl ?_
 simp only [cz,A_mementoref16_place,argL,objL,List.length_nil,zX]
 refine aR 16 ?_
 refine aBs 64 (fun Q hQ=>by simp (disch:=intros;contradiction) only [zS,zW,simprocAttr];exact hQ) ?_
 refine rO [] [96] (num1_16 (l.length : Int)) ?_
 refine aE ?_
 refine aR 176 ?_
 refine aw_loopK (X:={ i : Nat // i≤l.length }) [0] (fun i=>[(3,.c (.osl 5000)),(4,I i.1)]) [] (fun i=>[(5000,.arr 5 1 ((putS [u64N l.length] ++ numsL (l.take i.1)).map brow) false)]) (fun i=>l.length - i.1) (⟨0,by omega⟩) ?_ ?_
 ·skip
  simp only [keepS,keepE,lk_cons,List.cons_append,List.nil_append,↓reduceIte]
  refine Le.lit [] [(5000,112)] _ _ ?_ ?_ ?_ ?_
  ·simp only [zL,simprocAttr]
  ·simp only [zL,simprocAttr]
   all_goals (simp [numsL,putS];(repeat' (((simp [brow,C.isD];done)))))
  ·simp [rlook]
  ·(simp;done)
 rintro ⟨i,hi⟩
 simp only [keepS,keepE,lk_cons,List.cons_append,List.nil_append,↓reduceIte]
 simp only [zX]
 refine aS 224 (fun Q hQ=>by simp (disch:=intros;contradiction) only [zS,zW,simprocAttr];exact hQ) ?_
 refine aw_cond _ rfl trivial (fun ht=>?_) (fun hf=>?_)
 ·skip
  try simp at ht
  simp only [zX]
  have hi' : i < l.length:=by omega
  have e1:=numsL_len (l.take i)
  have e2:=putS1_len l[i]
  have e3:=putS1_len l.length
  simp only [List.length_take] at e1
  have e4 : (putS [u64N l.length] ++ numsL (l.take i)).map brow ++ (putS [u64N l[i]]).map brow = (putS [u64N l.length] ++ numsL (l.take (i + 1))).map brow:=by rw [placeB_succ _ l i hi',List.map_append (l₁:=_ ++ _)]
  refine aBs 320 (fun Q hQ=>by simp (disch:=first | (intros;contradiction) | omega | (simp only [zN];omega)) only [zS,zW,nrow,simprocAttr];repeat refine ⟨by (omega),?_⟩;exact hQ) ?_
  refine rO [] [400] (num1_16 l[i]) ?_
  refine aEs (fun Q hQ=>by simp (disch:=intros;contradiction) only [zS,zW,e4,simprocAttr];repeat refine ⟨by (exact ⟨by (intro q hq;obtain ⟨_,_,rfl⟩:=List.mem_map.1 hq;rfl),by omega⟩),?_⟩;exact hQ) ?_
  refine aS 496 (fun Q hQ=>by simp (disch:=first | (intros;contradiction) | omega | (simp only [zN];omega)) only [zS,zW,simprocAttr];exact hQ) ?_
  refine ⟨⟨i + 1,by omega⟩,?_,by first | omega | (simp only;omega)⟩
  refine Le.lit [] [(5000,432)] _ _ ?_ ?_ ?_ ?_
  ·simp only [zL,simprocAttr]
   all_goals (try ((repeat' (rfl))))
  ·simp only [zL,simprocAttr]
   all_goals (try ((repeat' ((exact drows_brow _)))))
  ·simp [rlook]
  ·(simp;done)
 try simp at hf
 simp only [zX,↓reduceIte]
 obtain rfl : i = l.length:=by omega
 rw [List.take_length]
 refine aR 576 ?_
 refine Fin.objs [] [(0,5000)] (.inr rfl) rfl (by exact trivial) ?_ ?_ (by simp [objL,rlook]) (by (simp [objL,rlook];done))
 ·simp only [zL,simprocAttr]
 ·simp only [zL,simprocAttr]
  all_goals (try ((repeat' (first | (exact drows_brow _) | rfl | refine ⟨?_,?_⟩))))

def itB (x : IT) : List Nat:=putS [u64N x.b] ++ (num7 x.d.length ++ x.d)
def itsB (l : List IT) : List Nat:=l.flatMap itB
def itemsB (l : List IT) : List Nat:=putS [u64N l.length] ++ itsB l
theorem itsB_succ (l : List IT) (i : Nat) (hi : i < l.length) : itsB (l.take (i + 1)) = itsB (l.take i) ++ itB l[i]:=by
 unfold itsB;rw [take_one l i hi,List.flatMap_append];simp
theorem itB_len (x : IT) (h : x.d.length≤1000000) : (itB x).length≤x.d.length + 20:=by
 have h1:=putS1_len x.b
 have h2:=num7_len x.d.length (by omega)
 unfold itB;simp only [List.length_append];omega
theorem itsB_len : ∀ (l : List IT),(∀ x ∈ l,x.d.length≤1000000)→(itsB l).length≤l.length * 1000020
 | [],_=>by simp [itsB]
 | x :: l,h=>by
  have h1:=itB_len x (h x (by simp))
  have h2:=itsB_len l fun y hy=>h y (by simp [hy])
  have h3:=h x (by simp)
  have : itsB (x :: l) = itB x ++ itsB l:=rfl
  rw [this,List.length_append,List.length_cons];omega

theorem PutItems_con (l : List IT) (hl : l.length≤1000000) (hd : ∀ x ∈ l,x.d.length≤1000000) : Con Try.prog 74 [.c (.sl (l.map irow))] [] (.c (.osl 0)) [.arr 5 1 ((itemsB l).map brow) false]:=by
 refine C_mementoref13_PutItems nl nl ?_
 simp only [cz,A_mementoref13_PutItems,argL,objL,List.length_nil,zX]
 refine aR 16 ?_
 refine aBs 64 (fun Q hQ=>by simp (disch:=intros;contradiction) only [zS,zW,simprocAttr];exact hQ) ?_
 refine rO [] [96] (num1_13 (l.length : Int)) ?_
 refine aE ?_
 refine aR 176 ?_
 refine aw_loopK (X:={ i : Nat // i≤l.length }) [0] (fun i=>[(3,.c (.osl 5000)),(4,I i.1)]) [] (fun i=>[(5000,.arr 5 1 ((putS [u64N l.length] ++ itsB (l.take i.1)).map brow) false)]) (fun i=>l.length - i.1) (⟨0,by omega⟩) ?_ ?_
 ·skip
  simp only [keepS,keepE,lk_cons,List.cons_append,List.nil_append,↓reduceIte]
  refine Le.lit [] [(5000,112)] _ _ ?_ ?_ ?_ ?_
  ·simp only [zL,simprocAttr]
  ·simp only [zL,simprocAttr]
   all_goals (simp [itsB];(repeat' (((simp [brow,C.isD];done)))))
  ·simp [rlook]
  ·(simp;done)
 rintro ⟨i,hi⟩
 simp only [keepS,keepE,lk_cons,List.cons_append,List.nil_append,↓reduceIte]
 simp only [zX]
 refine aS 224 (fun Q hQ=>by simp (disch:=intros;contradiction) only [zS,zW,simprocAttr];exact hQ) ?_
 refine aw_cond _ rfl trivial (fun ht=>?_) (fun hf=>?_)
 ·skip
  try simp at ht
  simp only [zX]
  have hi' : i < l.length:=by omega
  have hx:=hd _ (List.getElem_mem hi')
  have e1:=itsB_len (l.take i) (fun x hx=>hd x (List.mem_of_mem_take hx))
  have e2:=putS1_len l[i].b
  have e3:=putS1_len l.length
  have e5:=num7_len l[i].d.length (by omega)
  simp only [List.length_take] at e1
  have e4 : (putS [u64N l.length] ++ itsB (l.take i)).map brow ++ (putS [u64N l[i].b]).map brow ++ (num7 l[i].d.length ++ l[i].d).map brow = (putS [u64N l.length] ++ itsB (l.take (i + 1))).map brow:=by
   rw [itsB_succ l i hi',← List.map_append,← List.map_append];simp only [itB,List.append_assoc]
  refine aBDs 320 (fun Q hQ=>by simp (disch:=first | (intros;contradiction) | omega | (simp only [zN];omega)) only [zS,zW,irow,itC,simprocAttr];repeat refine ⟨by (omega),?_⟩;exact hQ) ?_
  refine rO [] [416] (num1_13 l[i].b) ?_
  refine RG.go fun Q hQ=>?_
  simp (disch:=first | (intros;contradiction) | omega | (simp only [zN];omega)) only [zS,zW,irow,itC,simprocAttr]
  repeat refine ⟨by (first | omega | exact ⟨by (intro q hq;obtain ⟨_,_,rfl⟩:=List.mem_map.1 hq;rfl),by omega⟩),?_⟩
  refine hQ ?_
  refine rO [] [] (mementoref1_Lump_con l[i].d (by omega)) ?_
  refine aEDs (fun Q hQ=>by simp (disch:=intros;contradiction) only [zS,zW,e4,simprocAttr];repeat refine ⟨by (exact ⟨by (intro q hq;obtain ⟨_,_,rfl⟩:=List.mem_map.1 hq;rfl),by omega⟩),?_⟩;exact hQ) ?_
  refine aS 624 (fun Q hQ=>by simp (disch:=first | (intros;contradiction) | omega | (simp only [zN];omega)) only [zS,zW,simprocAttr];exact hQ) ?_
  refine ⟨⟨i + 1,by omega⟩,?_,by first | omega | (simp only;omega)⟩
  refine Le.lit [] [(5000,560)] _ _ ?_ ?_ ?_ ?_
  ·simp only [zL,simprocAttr]
   all_goals (try ((repeat' (rfl))))
  ·simp only [zL,simprocAttr]
   all_goals (try ((repeat' ((exact drows_brow _)))))
  ·simp [rlook]
  ·(simp;done)
 try simp at hf
 simp only [zX,↓reduceIte]
 obtain rfl : i = l.length:=by omega
 rw [List.take_length]
 refine aR 704 ?_
 refine Fin.objs [] [(0,5000)] (.inr rfl) rfl (by exact trivial) ?_ ?_ (by simp [objL,rlook]) (by (simp [objL,rlook];done))
 ·simp only [zL,simprocAttr]
 ·simp only [zL,simprocAttr]
  all_goals (try ((repeat' (first | (exact drows_brow _) | rfl | refine ⟨?_,?_⟩))))

end Go.Abs

namespace Go.Abs
open Go Go.Proofs
set_option maxRecDepth 100000
set_option linter.unusedSimpArgs false
set_option maxHeartbeats 4000000

theorem within16_con (n : Int) : Con Try.prog 83 [I n] [] (B (inR n 0 1099511627776)) []:=by
 refine C_mementoref16_within nl nl ?_
 simp only [cz,A_mementoref16_within,argL,objL,List.length_nil,zX]
 refine aw_reg 16 (RG.go fun Q hQ=>?_)
 simp (disch:=intros;contradiction) only [zS,simprocAttr]
 refine hQ (RG.nil ?_)
 simp only [zX]
 refine aw_reg 64 (RG.go fun Q hQ=>?_)
 simp (disch:=intros;contradiction) only [zS,simprocAttr]
 refine hQ (RG.nil ?_)
 simp only [zX]
 refine Fin.b (.inr rfl) rfl trivial ?_
 simp [inR]

def itC8 (x : IT) : Bool:=inR x.b 0 255 && decide (x.d.length≤32)
def cmdR (c : CMD) : Bool :=
 inR c.kind 1 8 && inR c.vol 0 7 && inR c.blocks 0 1099511627776 && inR c.size 0 1099511627776 && inR c.per 0 1099511627776 && inR c.total 0 1099511627776 && inR c.index 0 1099511627776 && inR c.at' 0 1099511627776 &&
  decide (c.place.length≤256) && decide (c.items.length≤8) && (c.place.all fun n=>inR n 0 7) && c.items.all itC8

theorem CmdRight_con (c : CMD) (hp : c.place.length≤1000000) (hl : c.items.length≤1000000) : Con Try.prog 71 [.agg (cmdC c)] [] (B (cmdR c)) []:=by
 obtain ⟨c1,c2,c3,c4,c5,c6,c7,c8,c9,c10⟩:=c
 simp only at hp hl
 have hs : cmdR ⟨c1,c2,c3,c4,c5,c6,c7,c8,c9,c10⟩ = (inR c1 1 8 && inR c2 0 7 && inR c3 0 1099511627776 && inR c4 0 1099511627776 && inR c5 0 1099511627776 && inR c7 0 1099511627776 && inR c9 0 1099511627776 && inR c8 0 1099511627776 &&
  decide (c6.length≤256) && decide (c10.length≤8) && (c6.all fun n=>inR n 0 7) && c10.all itC8):=rfl
 refine C_mementoref16_CmdRight nl nl ?_
 simp only [cz,A_mementoref16_CmdRight,argL,objL,List.length_nil,zX]
 refine aS 16 (fun Q hQ=>by simp (disch:=intros;contradiction) only [zS,cmdC,cC,simprocAttr];exact hQ) ?_
 refine aw_reg 80 (RG.go fun Q hQ=>?_)
 simp (disch:=intros;contradiction) only [zS,simprocAttr]
 repeat refine ⟨by ((simp;done)),?_⟩
 refine hQ ?_
 refine rG _ _ (within16_con c3) ?_
 refine aMs (fun Q hQ=>by simp (disch:=intros;contradiction) only [zS,simprocAttr];repeat refine ⟨by ((simp;done)),?_⟩;exact hQ) ?_
 refine rG _ _ (within16_con c4) ?_
 refine aMs (fun Q hQ=>by simp (disch:=intros;contradiction) only [zS,simprocAttr];repeat refine ⟨by ((simp;done)),?_⟩;exact hQ) ?_
 refine rG _ _ (within16_con c5) ?_
 refine aMs (fun Q hQ=>by simp (disch:=intros;contradiction) only [zS,simprocAttr];repeat refine ⟨by ((simp;done)),?_⟩;exact hQ) ?_
 refine rG _ _ (within16_con c7) ?_
 refine aMs (fun Q hQ=>by simp (disch:=intros;contradiction) only [zS,simprocAttr];repeat refine ⟨by ((simp;done)),?_⟩;exact hQ) ?_
 refine rG _ _ (within16_con c9) ?_
 refine aMs (fun Q hQ=>by simp (disch:=intros;contradiction) only [zS,simprocAttr];repeat refine ⟨by ((simp;done)),?_⟩;exact hQ) ?_
 refine rG _ _ (within16_con c8) ?_
 refine RG.go fun Q hQ=>?_
 simp (disch:=intros;contradiction) only [zS,zW,simprocAttr]
 repeat refine ⟨by ((simp;done)),?_⟩
 refine hQ (RG.nil ?_)
 simp only [zX]
 refine aw_cond _ rfl trivial (fun ht=>?_) (fun hf=>?_)
 ·skip
  try simp at ht
  simp only [zX]
  refine aR 1168 ?_
  refine Fin.b (.inr rfl) rfl trivial ?_
  rw [hs,eq_comm,Bool.eq_false_iff]
  intro h
  simp only [Bool.and_eq_true,inR_iff,decide_eq_true_eq] at h
  simp only [Bool.eq_false_iff,ne_eq,inR_iff] at ht
  omega
 try simp at hf
 simp only [zX]
 simp only [inR_iff] at hf
 have hq : cmdR ⟨c1,c2,c3,c4,c5,c6,c7,c8,c9,c10⟩ = ((c6.all fun n=>inR n 0 7) && c10.all itC8):=by
  rw [hs]
  have : inR c1 1 8 = true∧inR c2 0 7 = true∧inR c3 0 1099511627776 = true∧inR c4 0 1099511627776 = true∧inR c5 0 1099511627776 = true∧inR c7 0 1099511627776 = true∧inR c9 0 1099511627776 = true∧inR c8 0 1099511627776 = true∧c6.length≤256∧c10.length≤8:=by
   simp only [inR_iff];omega
  obtain ⟨q1,q2,q3,q4,q5,q6,q7,q8,q9,q10⟩:=this
  simp [q1,q2,q3,q4,q5,q6,q7,q8,q9,q10]
 rw [hq]
 refine aR 1216 ?_
 refine aw_loopK (X:={ i : Nat // i≤c6.length∧(c6.take i).all (fun n=>inR n 0 7) = true }) [1] (fun i=>[(3,I i.1)]) [16] (fun i=>[]) (fun i=>c6.length - i.1) (⟨0,by omega,rfl⟩) ?_ ?_
 ·skip
  simp only [keepS,keepE,Option.getD_some,lk_cons,lkE_cons,List.cons_append,List.nil_append,simprocAttr]
  refine Le.lit [] [] _ _ ?_ ?_ ?_ ?_
  ·simp only [zL,simprocAttr]
  ·simp only [zL,↓reduceIte]
  ·simp [rlook]
  ·(simp;done)
 rintro ⟨i,hi,ha⟩
 simp only [keepS,keepE,Option.getD_some,lk_cons,lkE_cons,List.cons_append,List.nil_append,simprocAttr]
 simp only [zX]
 refine aS 1264 (fun Q hQ=>by simp (disch:=intros;contradiction) only [zS,zW,simprocAttr];exact hQ) ?_
 refine aw_cond _ rfl trivial (fun ht=>?_) (fun hf=>?_)
 ·skip
  try simp at ht
  simp only [zX]
  have h1 : i < c6.length:=by omega
  refine aw_reg 1376 (RG.go fun Q hQ=>?_)
  simp (disch:=first | (intros;contradiction) | omega | (simp only [zN];omega)) only [zS,zW,nrow,simprocAttr]
  repeat refine ⟨by (first | omega | (simp;omega) | (simp;done)),?_⟩
  refine hQ (RG.nil ?_)
  simp only [zX]
  refine aw_cond _ rfl trivial (fun ht=>?_) (fun hf=>?_)
  ·skip
   try simp at ht
   simp only [zX]
   refine aR 1632 ?_
   refine Fin.b (.inr rfl) rfl trivial ?_
   rw [all_no h1]
   ·rfl
   rw [← Bool.not_eq_true,inR_iff];omega
  try simp at hf
  simp only [zX]
  refine aS 1680 (fun Q hQ=>by simp (disch:=first | (intros;contradiction) | omega | (simp only [zN];omega)) only [zS,zW,simprocAttr];exact hQ) ?_
  refine ⟨⟨i + 1,by omega,by rw [all_succ h1,ha,Bool.true_and,inR_iff];omega⟩,?_,by first | omega | (simp only;omega)⟩
  refine Le.lit [] [] _ _ ?_ ?_ ?_ ?_
  ·simp only [zL,simprocAttr]
   all_goals (try ((repeat' (rfl))))
  ·simp only [zL,↓reduceIte]
  ·simp [rlook]
  ·(simp;done)
 try simp at hf
 simp only [zX,↓reduceIte]
 have ha6:=all_yes (by omega) ha
 rw [ha6,Bool.true_and]
 refine aR 1760 ?_
 refine aw_loopK (X:={ i : Nat // i≤c10.length∧(c10.take i).all itC8 = true }) [1] (fun i=>[(4,I i.1)]) [16] (fun i=>[]) (fun i=>c10.length - i.1) (⟨0,by omega,rfl⟩) ?_ ?_
 ·skip
  simp only [keepS,keepE,Option.getD_some,lk_cons,lkE_cons,List.cons_append,List.nil_append,simprocAttr]
  refine Le.lit [] [] _ _ ?_ ?_ ?_ ?_
  ·simp only [zL,simprocAttr]
  ·simp only [zL,↓reduceIte]
  ·simp [rlook]
  ·(simp;done)
 rintro ⟨i,hi,ha⟩
 simp only [keepS,keepE,Option.getD_some,lk_cons,lkE_cons,List.cons_append,List.nil_append,simprocAttr]
 simp only [zX]
 refine aS 1808 (fun Q hQ=>by simp (disch:=intros;contradiction) only [zS,zW,simprocAttr];exact hQ) ?_
 refine aw_cond _ rfl trivial (fun ht=>?_) (fun hf=>?_)
 ·skip
  try simp at ht
  simp only [zX]
  have h1 : i < c10.length:=by omega
  refine aw_reg 1920 (RG.go fun Q hQ=>?_)
  simp (disch:=first | (intros;contradiction) | omega | (simp only [zN];omega)) only [zS,zW,irow,itC,simprocAttr]
  repeat refine ⟨by (first | omega | (simp;omega) | (simp;done)),?_⟩
  refine hQ (RG.nil ?_)
  simp only [zX]
  refine aw_cond _ rfl trivial (fun ht=>?_) (fun hf=>?_)
  ·skip
   try simp at ht
   simp only [zX]
   refine aR 2368 ?_
   refine Fin.b (.inr rfl) rfl trivial ?_
   rw [all_no h1]
   rw [← Bool.not_eq_true,itC8];simp only [Bool.and_eq_true,inR_iff,decide_eq_true_eq];omega
  try simp at hf
  simp only [zX]
  refine aS 2416 (fun Q hQ=>by simp (disch:=first | (intros;contradiction) | omega | (simp only [zN];omega)) only [zS,zW,simprocAttr];exact hQ) ?_
  refine ⟨⟨i + 1,by omega,by rw [all_succ h1,ha,Bool.true_and];simp only [itC8,Bool.and_eq_true,inR_iff,decide_eq_true_eq];omega⟩,?_,by first | omega | (simp only;omega)⟩
  refine Le.lit [] [] _ _ ?_ ?_ ?_ ?_
  ·simp only [zL,simprocAttr]
   all_goals (try ((repeat' (rfl))))
  ·simp only [zL,↓reduceIte]
  ·simp [rlook]
  ·(simp;done)
 try simp at hf
 simp only [zX,↓reduceIte]
 refine aR 2496 ?_
 refine Fin.b (.inr rfl) rfl trivial ?_
 rw [all_yes (by omega) ha]

def cmdB (c : CMD) : List Nat:=numsL [c.kind,c.vol,c.blocks,c.size,c.per,c.total,c.at',c.index] ++ placeB c.place ++ itemsB c.items
abbrev putC (c : CMD) : SV:=.tup [.c (.sl ((if cmdR c = true then cmdB c else []).map brow)),I (if cmdR c = true then 0 else 23)]

theorem PutCmd_con (c : CMD) (hp : c.place.length≤1000000) (hl : c.items.length≤1000000) (hd : ∀ x ∈ c.items,x.d.length≤1000000) : Con Try.prog 53 [.agg (cmdC c)] [] (putC c) []:=by
 have cR:=CmdRight_con c hp hl
 have e1:=numsL_len [c.kind,c.vol,c.blocks,c.size,c.per,c.total,c.at',c.index]
 have e2:=numsL_len c.place
 have e3:=putS1_len c.place.length
 have e4:=itsB_len c.items hd
 have e5:=putS1_len c.items.length
 cases hr : cmdR c
 ·have hE : putC c = .tup [.c (.sl []),I 23]:=by simp [putC,hr]
  rw [hE]
  rw [hr] at cR
  refine C_mementoref16_PutCmd nl nl ?_
  simp only [cz,A_mementoref16_PutCmd,argL,objL,List.length_nil,zX]
  refine aS 16 (fun Q hQ=>by simp (disch:=intros;contradiction) only [zS,cmdC,cC,simprocAttr];exact hQ) ?_
  refine aB 96 ?_
  refine rC [] (cR) ?_
  refine aE ?_
  refine aT ?_
  refine aR 176 ?_
  refine Fin.data [] (.inr rfl) rfl (by (exact trivial)) ?_
  simp only [zL,simprocAttr]
  all_goals (skip)

 ·have hE : putC c = .tup [.c (.sl ((numsL [c.kind,c.vol,c.blocks,c.size,c.per,c.total,c.at',c.index]).map brow ++ (placeB c.place).map brow ++ (itemsB c.items).map brow)),I 0]:=by
   simp [putC,hr,cmdB,List.map_append]
  have hE2 : (cmdB c).map brow = (numsL [c.kind,c.vol,c.blocks,c.size,c.per,c.total,c.at',c.index]).map brow ++ (placeB c.place).map brow ++ (itemsB c.items).map brow:=by
   unfold cmdB;rw [List.map_append,List.map_append]
  have hdr : isDRows ((numsL [c.kind,c.vol,c.blocks,c.size,c.per,c.total,c.at',c.index]).map brow ++ (placeB c.place).map brow ++ (itemsB c.items).map brow):=by rw [← hE2];exact drows_brow _
  rw [hE]
  rw [hr] at cR
  have e6 : (numsL [c.kind,c.vol,c.blocks,c.size,c.per,c.total,c.at',c.index]).length≤80:=by simpa using e1
  have e7 : (placeB c.place).length≤10000010:=by unfold placeB;rw [List.length_append];omega
  have e8 : (itemsB c.items).length≤10 + c.items.length * 1000020:=by unfold itemsB;rw [List.length_append];omega
  refine C_mementoref16_PutCmd nl nl ?_
  simp only [cz,A_mementoref16_PutCmd,argL,objL,List.length_nil,zX]
  refine aS 16 (fun Q hQ=>by simp (disch:=intros;contradiction) only [zS,cmdC,cC,simprocAttr];exact hQ) ?_
  refine aB 96 ?_
  refine rC [] (cR) ?_
  refine aE ?_
  refine aF ?_
  refine aB 176 ?_
  refine rO [] [432] (nums16_con [c.kind,c.vol,c.blocks,c.size,c.per,c.total,c.at',c.index] (by simp)) ?_
  refine aE ?_
  refine aBD 512 ?_
  refine rO [] [] (place_con c.place hp) ?_
  refine aMs (fun Q hQ=>by simp (disch:=intros;contradiction) only [zS,zW,simprocAttr];repeat refine ⟨by (exact ⟨by (intro q hq;obtain ⟨_,_,rfl⟩:=List.mem_map.1 hq;rfl),by omega⟩),?_⟩;exact hQ) ?_
  refine rO [] [] (PutItems_con c.items hl hd) ?_
  refine aEDs (fun Q hQ=>by simp (disch:=intros;contradiction) only [zS,zW,simprocAttr];repeat refine ⟨by (exact ⟨by (intro q hq;obtain ⟨_,_,rfl⟩:=List.mem_map.1 hq;rfl),by omega⟩),?_⟩;exact hQ) ?_
  refine Fin.data [640] (.inr rfl) rfl (by (exact trivial)) ?_
  simp only [zL,simprocAttr]
  all_goals ((repeat' ((refine ⟨⟨_,_,rfl⟩,?_⟩;(assumption)))))

end Go.Abs

