/- What the functions that the law comes to do, part 3. No condition. -/
import Derived.Test.YtpmnjikihmpobaaConb
set_option linter.unusedVariables false
set_option linter.unusedSimpArgs false
set_option linter.unnecessarySimpa false
namespace Go.Abs
open Go Go.Proofs
set_option maxRecDepth 100000
set_option linter.unusedSimpArgs false
set_option maxHeartbeats 8000000

def kP : PU:=⟨0,0,2,1,0,3,0,[⟨2,[⟨1,[120]⟩]⟩]⟩
def kC : CH:=⟨0,0,2,1,3,0,[[],[⟨2,[120]⟩]]⟩
theorem num7_small {n : Nat} (h : n < 128) : num7 n = [n]:=by rw [num7,if_pos h]
theorem kP_apply : applyC (newC kP) kP = kC:=by decide
theorem kP_right : pushR kP = true:=by decide
theorem kC_right : rightC kC = true:=by decide
theorem kC_bytes : chB kC = [0,0,2,1,3,0,0,1,2,1,120]:=by
 simp [chB,kC,numsL,putS,hsB,itemsB,itsB,itB,u64N,num7_small]
theorem kC_take : takeC (chB kC) 0 = ((kC,true),[],0):=by rw [kC_bytes];decide

theorem awp_preL {P : Program} {n : Nat} {ops : List AO} {d : Bool} {Q : Exit→St→Prop} {l : SL} {es : EL} {st' : St} (h : Le n (mkSt l es) st') (h2 : awp P n (.region ops d) Q st') : awp P n (.region ops d) Q (mkSt l es):=by
 obtain ⟨s0,h3,h4⟩:=h2
 exact ⟨s0,h.trans h3,h4⟩

theorem kC_csm : Csm kC:=⟨by decide,by decide⟩
theorem kC_rise : ∀ h ∈ kC.hist,rise h:=by
 intro h hh
 simp [kC] at hh
 rcases hh with rfl | rfl
 ·trivial
 ·exact ⟨fun y hy=>(by cases hy),trivial⟩
theorem kC_by : byH kC.hist:=by
 intro h hh x hx c hc
 simp [kC] at hh
 rcases hh with rfl | rfl
 ·cases hx
 ·simp at hx;subst hx;simp at hc;omega
theorem kC_by8 : ∀ x ∈ chB kC,x < 256:=by rw [kC_bytes];decide
theorem kP_ok : Pok kP∧byW kP.ws:=by
 refine ⟨⟨by decide,fun w hw=>?_⟩,fun w hw x hx c hc=>?_⟩
 ·simp [kP] at hw;subst hw;exact ⟨by simp,fun x hx=>by simp at hx;subst hx;simp⟩
 ·simp [kP] at hw;subst hw;simp at hx;subst hx;simp at hc;omega
theorem kP_new : Cok (newC kP) 0:=⟨by decide,by decide,fun h hh=>by
 have : h = []:=List.eq_of_mem_replicate hh
 subst this
 exact ⟨rfl,by simp,fun x hx=>by cases hx⟩⟩

theorem pushC_pure (p : PU) : (SV.agg (pushC p)).pureD:=by
 intro c hc
 simp only [pushC,puC,List.mem_cons,List.not_mem_nil,or_false] at hc
 rcases hc with rfl | rfl | rfl | rfl | rfl | rfl | rfl | rfl <;> rfl
theorem pushT_pure (p : PU) (x : Value) : (SV.tup [.agg (pushC p),.c (.v x)]).pureD:=by
 intro s hs
 simp only [List.mem_cons,List.not_mem_nil,or_false] at hs
 rcases hs with rfl | rfl
 ·exact pushC_pure p
 ·rfl
theorem mementolaw14_known_con : Con Try.prog 9 [] [] (B true) []:=by
 have cN:=chunk_New_con kP
 have cA:=chunk_Apply_con (newC kP) kP 0 (by omega) kP_new kP_ok.1 kP_ok.2
 rw [kP_apply] at cA
 have cin:=kC_csm.cin
 have r1:=chunk_Read_con kC 1 2 cin kC_rise (by decide)
 have r2:=chunk_Read_con kC 1 1 cin kC_rise (by decide)
 have r3:=chunk_Read_con kC 1 4 cin kC_rise (by decide)
 have r4:=chunk_Read_con kC 2 1 cin kC_rise (by decide)
 rw [show rdC kC 1 2 = ([120],0) by decide] at r1
 rw [show rdC kC 1 1 = ([0],0) by decide] at r2
 rw [show rdC kC 1 4 = ([],32) by decide] at r3
 rw [show rdC kC 2 1 = ([],28) by decide] at r4
 have cPP:=chunk_PutPush_con kP kP_ok.1
 have hpp : putP kP = (pushB kP,0):=by unfold putP;rw [if_pos kP_right]
 rw [hpp] at cPP
 have hbl : (pushB kP).length≤1000000:=by simp [pushB,kP,numsL,putS,pwB,wB,itemsB,itsB,itB,u64N,num7_small]
 have cRP:=chunk_ReadPush_con (pushB kP) (pushB_by kP kP_ok.2) hbl
 rw [readP_yes kP_right rfl] at cRP
 have cPut:=chunk_Put_con kC kC_csm
 have hcl : (chB kC).length≤100000:=by rw [kC_bytes];decide
 have cTk:=chunk_Take_con (chB kC) 0 ⟨kC_by8,by omega⟩
 rw [kC_take] at cTk
 have cS:=chunk_Same_con kC kC kC_csm kC_csm kC_by kC_by
 have cR:=chunk_Right_con kC cin
 rw [kC_right] at cR
 have cPR:=chunk_PushRight_con kP kP_ok.1
 rw [kP_right] at cPR
 have f1 : kC.mark = 3:=rfl
 have f2 : kP.to = 3:=rfl
 generalize hkc : kC = c at *
 refine C_mementolaw14_known nl nl ?_
 simp only [cz,A_mementolaw14_known,argL,objL,List.length_nil,zX]
 refine aR 16 ?_
 refine aw_reg 64 (RG.go fun Q hQ=>?_)
 simp (disch:=intros;contradiction) only [zS,simprocAttr]
 refine ⟨⟨by simp,drows_brow [120]⟩,hQ (RG.nil ?_)⟩
 simp only [zX]
 refine awp_preL (Le.tell [112] 144 30 2 _ (kP.ws.map wrow) false rfl ⟨⟨.inl rfl,.inr (.inr ⟨_,_,_,_,rfl,rfl,rfl,drows_irow [⟨1,[120]⟩]⟩),trivial⟩,trivial⟩) ?_
 refine awp_pre [(0,.c (.v (.bool false))),(1,.c (.bp 176 0))] [(176,.box [.v (.int .i64 kP.vol),.v (.int .i64 kP.chunk),.v (.int .i64 kP.count),.v (.int .i64 kP.size),.v (.int .i64 kP.frm),.v (.int .i64 kP.to),.v (.int .i64 kP.floor),.sl (kP.ws.map wrow)])] ?_ ?_
 ·skip
  refine Le.lit [144] [] _ _ ?_ ?_ ?_ ?_
  ·simp only [zL,simprocAttr]
   all_goals (exact ⟨rfl,rfl,rfl,rfl,rfl,rfl,rfl,⟨_,_,rfl⟩,drows_wrow _⟩;skip)
  ·simp only [zL,simprocAttr]
   all_goals (try ((repeat' (first | (first | exact drows_wrow _ | (simp [C.isD];done)) | rfl | refine ⟨?_,?_⟩))))
  ·simp [rlook]
  ·(simp;done)
 refine aBD 240 ?_
 refine rC [] (cN) ?_ (hs:=(by exact .inr ⟨chC_pure _,trivial⟩))
 refine aMs (fun Q hQ=>by simp (disch:=intros;contradiction) only [zS,chC,chO,simprocAttr];exact hQ) ?_
 refine rC [] (cA) ?_ (hs:=(by exact .inr ⟨chC_pure _,trivial⟩))
 refine aEDs (fun Q hQ=>by simp (disch:=intros;contradiction) only [zS,chC,chO,simprocAttr];exact hQ) ?_
 refine aB 368 ?_
 refine rC [] (r1) ?_ (hs:=(by exact .inr ⟨pureTC,trivial⟩))
 refine aE ?_
 refine aB 512 ?_
 refine rC [] (r2) ?_ (hs:=(by exact .inr ⟨pureTC,trivial⟩))
 refine aE ?_
 refine aB 656 ?_
 refine rC [] (r3) ?_ (hs:=(by exact .inr ⟨pureTC,trivial⟩))
 refine aE ?_
 refine aB 800 ?_
 refine rC [] (r4) ?_ (hs:=(by exact .inr ⟨pureTC,trivial⟩))
 refine aE ?_
 refine aB 944 ?_
 refine rC [] (cPP) ?_ (hs:=(by exact .inr ⟨pureTC,trivial⟩))
 refine aE ?_
 refine aB 1088 ?_
 refine rC [] (cRP) ?_ (hs:=(by exact .inr ⟨pushT_pure _ _,trivial⟩))
 refine aEs (fun Q hQ=>by simp (disch:=intros;contradiction) only [zS,pushC,puC,simprocAttr];exact hQ) ?_
 refine aB 1248 ?_
 refine rO [] [] (cPut.rows (drows_brow _)) ?_
 refine aM ?_
 refine rO [] [] (pack_New_con ((chB c).map brow) (drows_brow _) (brow_len _) (by simp;omega)) ?_
 refine RG.go fun Q hQ=>?_
 simp (disch:=intros;contradiction) only [zS,simprocAttr]
 have hm1 : (c.mark == 3) = true:=by rw [f1];rfl
 refine hQ ?_
 refine rO [1280] [] (cTk) ?_
 refine aEs (fun Q hQ=>by simp (disch:=intros;contradiction) only [zS,chC,chO,simprocAttr];exact hQ) ?_
 refine aw_reg 1440 (RG.go fun Q hQ=>?_)
 simp (disch:=intros;contradiction) only [zS,hm1,simprocAttr]
 refine ⟨fun r hr=>isByteRow_brow [120] r hr,fun _=>⟨fun r hr=>isByteRow_brow [0] r hr,by simp [ba_toList,rowByte,brow]⟩,hQ ?_⟩
 refine rG _ _ (cS) ?_
 refine aM ?_
 refine rG _ _ (cR) ?_
 refine aM ?_
 refine rG _ _ (cPR) ?_
 refine aE ?_
 refine Fin.b (.inr rfl) rfl trivial ?_
 simp [f2,ba_toList,rowByte,brow]

end Go.Abs

namespace Go.Abs
open Go Go.Proofs
set_option maxRecDepth 100000
set_option linter.unusedSimpArgs false
set_option maxHeartbeats 8000000

theorem behN_snoc {f : Int} {x : IT} (hx : f < x.b) : ∀ h : List IT,behN f (h ++ [x]) = behN f h:=fun h=>by
 unfold behN
 rw [takeW_snoc (by simp;omega)]
theorem pruneH_snoc {f : Int} {h : List IT} {x : IT} (hx : f < x.b) : pruneH f (h ++ [x]) = pruneH f h ++ [x]:=by
 have:=behN_le f h
 unfold pruneH
 rw [behN_snoc hx,List.drop_append_of_le_length (by omega)]
theorem pruneH_mem {f : Int} {h : List IT} {x : IT} (hx : x ∈ pruneH f h) : x ∈ h:=List.mem_of_mem_drop hx
theorem behN_eq {f : Int} {h : List IT} {k : Nat} (hk : k≤h.length) (h1 : ∀ i (hi : i < h.length),i < k→h[i].b≤f) (h2 : ∀ i (hi : i < h.length),k≤i→f < h[i].b) : behN f h = k:=by
 have a:=behN_le f h
 rcases Nat.lt_trichotomy (behN f h) k with h0 | h0 | h0
 ·have hi : behN f h < h.length:=by omega
  have b : f < h[behN f h].b:=by
   have key : ∀ (l : List IT) (hb : behN f l < l.length),f < l[behN f l].b:=by
    intro l
    induction l with
    | nil=>intro hb;simp at hb
    | cons x l ih =>
     intro hb
     unfold behN at hb ⊢
     rw [List.takeWhile_cons] at hb
     by_cases hx : x.b≤f
     ·have e : (List.takeWhile (fun x=>decide (x.b≤f)) (x :: l)).length = (List.takeWhile (fun x=>decide (x.b≤f)) l).length + 1:=by rw [List.takeWhile_cons];simp [hx]
      simp only [hx,decide_true,if_true,List.length_cons] at hb
      have:=ih (by unfold behN;omega)
      simp only [e,List.getElem_cons_succ]
      exact this
     ·have e : (List.takeWhile (fun x=>decide (x.b≤f)) (x :: l)).length = 0:=by rw [List.takeWhile_cons];simp [hx]
      simp only [e,List.getElem_cons_zero]
      omega
   exact key h hi
  have:=h1 _ hi h0
  omega
 ·exact h0
 ·have hi : k < h.length:=by omega
  have:=behN_lt f h k hi h0
  have:=h2 k hi (Nat.le_refl _)
  omega
theorem behN_mono {f g : Int} (hfg : f≤g) {h : List IT} (hr : rise h) : behN f h≤behN g h:=Decidable.by_contra fun hh=>by
 have a:=behN_le f h
 have hi : behN g h < h.length:=by omega
 have b:=behN_ge g h hr _ hi (Nat.le_refl _)
 have c:=behN_lt f h _ hi (by omega)
 omega
theorem pruneH_two {f g : Int} (hfg : f≤g) {h : List IT} (hr : rise h) : pruneH g (pruneH f h) = pruneH g h:=by
 have a:=behN_mono hfg hr
 have b:=behN_le g h
 obtain ⟨k,hk⟩ : ∃ k,k = behN f h - 1:=⟨_,rfl⟩
 have e : behN g (h.drop k) = behN g h - k:=by
  refine behN_eq (by simp;omega) (fun i hi h1=>?_) fun i hi h2=>?_
  ·rw [List.getElem_drop]
   exact behN_lt g h _ _ (by omega)
  ·rw [List.getElem_drop]
   exact behN_ge g h hr _ _ (by omega)
 unfold pruneH
 rw [← hk,e,List.drop_drop]
 congr 1
 omega
theorem hst_drop {p : Int} (hp : 0≤p) : ∀ (k : Nat) {h : List IT},hst p h = true→∃ q,p≤q∧hst q (h.drop k) = true
 | 0,h,hh=>⟨p,Int.le_refl _,by simpa using hh⟩
 | k + 1,[],hh=>⟨p,Int.le_refl _,rfl⟩
 | k + 1,x :: h,hh=>by
  simp only [hst,Bool.and_eq_true,decide_eq_true_eq] at hh
  obtain ⟨q,h1,h2⟩:=hst_drop (p:=x.b) (by omega) k hh.2
  exact ⟨q,by omega,by simpa using h2⟩
theorem hst_weak {p q : Int} (h : p≤q) : ∀ {l : List IT},hst q l = true→hst p l = true
 | [],_=>rfl
 | x :: l,hh=>by
  simp only [hst,Bool.and_eq_true,decide_eq_true_eq] at hh ⊢
  exact ⟨⟨by omega,hh.1.2⟩,hh.2⟩
theorem histR_prune {f : Int} {h : List IT} (hh : histR h = true) : histR (pruneH f h) = true:=by
 obtain ⟨q,h1,h2⟩:=hst_drop (p:=0) (Int.le_refl _) (behN f h - 1) hh
 exact hst_weak h1 h2
theorem hst_len {p m : Int} : ∀ {l : List IT},hst p l = true→(∀ y ∈ l,y.b≤m)→p≤m→(l.length : Int)≤m - p
 | [],_,_,h=>by simp;omega
 | x :: l,hh,h,hp=>by
  simp only [hst,Bool.and_eq_true,decide_eq_true_eq] at hh
  have:=h x (by simp)
  have:=hst_len hh.2 (fun y hy=>h y (by simp [hy])) (by omega)
  simp only [List.length_cons];omega

structure HF (m : Nat) (size : Int) (H : List (List IT)) : Prop where
 r : ∀ h ∈ H,histR h = true
 t : ∀ h ∈ H,∀ y ∈ h,y.b≤m
 d : ∀ h ∈ H,∀ y ∈ h,(y.d.length : Int) = size∧∀ c ∈ y.d,c < 256
theorem HF.mono {m k : Nat} {size : Int} {H : List (List IT)} (h : HF m size H) (hk : m≤k) : HF k size H:=⟨h.r,fun x hx y hy=>by have:=h.t x hx y hy;omega,h.d⟩
theorem hStep_in {s : Int} {H : List (List IT)} {x : IT} {b : Nat} (hb : x.b = b) (hl : b < H.length) : hStep s H x = H.set b (H[b] ++ [⟨s,x.d⟩]):=by
 unfold hStep
 rw [if_pos (by omega),hb]
 simp [hl]

theorem apply_step {mark s f : Int} {H : List (List IT)} {x : IT} {b : Nat} (hb : x.b = b) (hl : b < H.length) (hy : ∀ y ∈ H[b],y.b < s) (hf : f < s) (hm : mark < s) (h1 : 1≤s) (h2 : s≤1099511627776) :
  applyI mark s (H.map (pruneH f)) x = (hStep s H x).map (pruneH f):=by
 rw [hStep_in hb hl]
 unfold applyI
 rw [if_pos hm,hb,List.map_set,pruneH_snoc hf]
 have e : (H.map (pruneH f)).getD ((b : Nat) : Int).toNat [] = pruneH f H[b]:=by simp [hl]
 rw [e,Int.toNat_natCast,addH_yes h1 h2 fun h0=>hy _ (pruneH_mem (List.getElem_mem _))]

def sl3 (first cnt : Nat) (H : List (List IT)) : List (List IT):=(H.drop first).take cnt
theorem sl3_len {first cnt : Nat} {H : List (List IT)} (h : first + cnt≤H.length) : (sl3 first cnt H).length = cnt:=by simp [sl3];omega
theorem sl3_get {first cnt : Nat} {H : List (List IT)} {i : Nat} (h : first + cnt≤H.length) (hi : i < cnt) : (sl3 first cnt H)[i]'(by rw [sl3_len h];exact hi) = H[first + i]'(by omega):=by simp [sl3]
theorem sl3_set_in {α : Type} {first cnt i : Nat} {H : List α} {v : α} (hi : i < cnt) : ((H.set (first + i) v).drop first).take cnt = ((H.drop first).take cnt).set i v:=by
 apply List.ext_getElem?
 intro j
 by_cases hj : j < cnt
 ·rw [List.getElem?_take_of_lt hj,List.getElem?_drop]
  by_cases hij : j = i
  ·subst hij
   by_cases hl : first + j < H.length
   ·rw [List.getElem?_set_self hl,List.getElem?_set_self (by simp;omega)]
   ·rw [List.getElem?_eq_none (by simp;omega),List.getElem?_eq_none (by simp;omega)]
  ·rw [List.getElem?_set_ne (by omega),List.getElem?_set_ne (by omega),List.getElem?_take_of_lt hj,List.getElem?_drop]
 ·rw [List.getElem?_eq_none (by simp;omega),List.getElem?_eq_none (by simp;omega)]
theorem sl3_set_out {α : Type} {first cnt b : Nat} {H : List α} {v : α} (hb : b < first∨first + cnt≤b) : ((H.set b v).drop first).take cnt = (H.drop first).take cnt:=by
 apply List.ext_getElem?
 intro j
 by_cases hj : j < cnt
 ·rw [List.getElem?_take_of_lt hj,List.getElem?_take_of_lt hj,List.getElem?_drop,List.getElem?_drop,List.getElem?_set_ne (by omega)]
 ·rw [List.getElem?_eq_none (by simp;omega),List.getElem?_eq_none (by simp;omega)]
theorem sl3_step {first cnt : Nat} {H : List (List IT)} (h : first + cnt≤H.length) {s : Int} {x : IT} (hx : 0≤x.b∧x.b < H.length) :
  sl3 first cnt (hStep s H x) = if inC cnt (shIt first x) = true then hStep s (sl3 first cnt H) (shIt first x) else sl3 first cnt H:=by
 obtain ⟨b,hb⟩ : ∃ b : Nat,x.b = b:=⟨x.b.toNat,by omega⟩
 have hl : b < H.length:=by omega
 rw [hStep_in hb hl]
 split
 ·rename_i hin
  simp only [inC,shIt,Bool.and_eq_true,decide_eq_true_eq,hb] at hin
  obtain ⟨i,hi⟩ : ∃ i,b = first + i:=⟨b - first,by omega⟩
  have hic : i < cnt:=by omega
  rw [hStep_in (x:=shIt first x) (b:=i) (by simp only [shIt];omega) (by rw [sl3_len h];exact hic),sl3_get h hic]
  subst hi
  exact sl3_set_in hic
 ·rename_i hin
  simp only [inC,shIt,Bool.and_eq_true,decide_eq_true_eq,hb] at hin
  exact sl3_set_out (by omega)

theorem apply_items {mark s f : Int} {first cnt m : Nat} (hf : f < s) (hm : mark < s) (h1 : 1≤s) (h2 : s≤1099511627776) : ∀ (l : List IT) (H : List (List IT)),first + cnt≤H.length→(∀ x ∈ l,0≤x.b∧x.b < H.length)→onceB l = true →
  (∀ x ∈ l,∀ (b : Nat) (hb : b < H.length),x.b = b→∀ y ∈ H[b],y.b < s) →
  (pushItems first cnt l).foldl (applyI mark s) ((sl3 first cnt H).map (pruneH f)) = (sl3 first cnt (l.foldl (hStep s) H)).map (pruneH f)
 | [],H,_,_,_,_=>rfl
 | x :: l,H,hfc,hr,ho,hy=>by
  have hx:=hr x (by simp)
  simp only [onceB,Bool.and_eq_true,Bool.not_eq_true'] at ho
  have hno : ∀ z ∈ l,z.b≠x.b:=fun z hz e=>by
   have:=ho.1
   rw [Bool.eq_false_iff] at this
   exact this (List.any_eq_true.2 ⟨z,hz,by simpa using e⟩)
  obtain ⟨b,hb⟩ : ∃ b : Nat,x.b = b:=⟨x.b.toNat,by omega⟩
  have hl : b < H.length:=by omega
  have ih:=apply_items (mark:=mark) (f:=f) (m:=m) hf hm h1 h2 l (hStep s H x) (by rw [hStep_len];exact hfc) (fun z hz=>by rw [hStep_len];exact hr z (by simp [hz])) ho.2 (fun z hz c hc hzc y hyc=>by
   have hcl : c < H.length:=by rw [hStep_len] at hc;exact hc
   have hne : b≠c:=fun e=>hno z hz (by omega)
   have e : (hStep s H x)[c] = H[c]:=by
    have : (hStep s H x)[c]? = some H[c]:=by rw [hStep_in hb hl,List.getElem?_set_ne hne,List.getElem?_eq_getElem hcl]
    exact (List.getElem?_eq_some_iff.1 this).2
   rw [e] at hyc
   exact hy z (by simp [hz]) c hcl hzc y hyc)
  rw [List.foldl_cons,← ih,sl3_step hfc hx]
  have hp : pushItems first cnt (x :: l) = if inC cnt (shIt first x) = true then shIt first x :: pushItems first cnt l else pushItems first cnt l:=by
   unfold pushItems
   rw [List.map_cons,List.filter_cons]
  rw [hp]
  split
  ·rename_i hin
   rw [List.foldl_cons]
   congr 1
   simp only [inC,shIt,Bool.and_eq_true,decide_eq_true_eq,hb] at hin
   obtain ⟨i,hi⟩ : ∃ i,b = first + i:=⟨b - first,by omega⟩
   have hic : i < cnt:=by omega
   have hil : i < (sl3 first cnt H).length:=by rw [sl3_len hfc];exact hic
   have hsub : (sl3 first cnt H)[i] = H[b]:=by rw [sl3_get hfc hic];subst hi;rfl
   exact apply_step (x:=shIt first x) (b:=i) (by simp only [shIt];omega) hil (by rw [hsub];exact hy x (by simp) b hl hb) hf hm h1 h2
  ·rfl

theorem HF.step {m : Nat} {size s : Int} {H : List (List IT)} {x : IT} {b : Nat} (h : HF (m + 1) size H) (hs : s = (m : Int) + 1) (hb : x.b = b) (hl : b < H.length) (hy : ∀ y ∈ H[b],y.b < s) (h2 : s≤1099511627776) (hd : (x.d.length : Int) = size) (h8 : ∀ c ∈ x.d,c < 256) : HF (m + 1) size (hStep s H x):=by
 rw [hStep_in hb hl]
 have hmem:=List.getElem_mem hl
 have hadd : H[b] ++ [⟨s,x.d⟩] = addH H[b] s x.d:=(addH_yes (by omega) h2 fun h0=>hy _ (List.getElem_mem _)).symm
 refine ⟨fun g hg=>?_,fun g hg y hyg=>?_,fun g hg y hyg=>?_⟩
 ·rcases List.mem_or_eq_of_mem_set hg with hg | rfl
  ·exact h.r g hg
  ·rw [hadd];exact addH_right (h.r _ hmem)
 ·rcases List.mem_or_eq_of_mem_set hg with hg | rfl
  ·exact h.t g hg y hyg
  ·rcases List.mem_append.1 hyg with hyg | hyg
   ·exact h.t _ hmem y hyg
   ·simp only [List.mem_singleton] at hyg;subst hyg;simp only;omega
 ·rcases List.mem_or_eq_of_mem_set hg with hg | rfl
  ·exact h.d g hg y hyg
  ·rcases List.mem_append.1 hyg with hyg | hyg
   ·exact h.d _ hmem y hyg
   ·simp only [List.mem_singleton] at hyg;subst hyg;exact ⟨hd,h8⟩
theorem HF.items {m : Nat} {size s : Int} (hs : s = (m : Int) + 1) (h2 : s≤1099511627776) : ∀ (l : List IT) (H : List (List IT)),HF (m + 1) size H→(∀ x ∈ l,0≤x.b∧x.b < H.length)→onceB l = true →
  (∀ x ∈ l,∀ (b : Nat) (hb : b < H.length),x.b = b→∀ y ∈ H[b],y.b < s)→(∀ x ∈ l,(x.d.length : Int) = size)→byI l→HF (m + 1) size (l.foldl (hStep s) H)
 | [],H,h,_,_,_,_,_=>h
 | x :: l,H,h,hr,ho,hy,hd,h8=>by
  have hx:=hr x (by simp)
  simp only [onceB,Bool.and_eq_true,Bool.not_eq_true'] at ho
  have hno : ∀ z ∈ l,z.b≠x.b:=fun z hz e=>by
   have:=ho.1
   rw [Bool.eq_false_iff] at this
   exact this (List.any_eq_true.2 ⟨z,hz,by simpa using e⟩)
  obtain ⟨b,hb⟩ : ∃ b : Nat,x.b = b:=⟨x.b.toNat,by omega⟩
  have hl : b < H.length:=by omega
  rw [List.foldl_cons]
  refine HF.items hs h2 l _ (h.step hs hb hl (hy x (by simp) b hl hb) h2 (hd x (by simp)) (h8 x (by simp))) (fun z hz=>by rw [hStep_len];exact hr z (by simp [hz])) ho.2 (fun z hz c hc hzc y hyc=>?_) (fun z hz=>hd z (by simp [hz])) fun z hz=>h8 z (by simp [hz])
  have hcl : c < H.length:=by rw [hStep_len] at hc;exact hc
  have hne : b≠c:=fun e=>hno z hz (by omega)
  have e : (hStep s H x)[c] = H[c]:=by
   have : (hStep s H x)[c]? = some H[c]:=by rw [hStep_in hb hl,List.getElem?_set_ne hne,List.getElem?_eq_getElem hcl]
   exact (List.getElem?_eq_some_iff.1 this).2
  rw [e] at hyc
  exact hy z (by simp [hz]) c hcl hzc y hyc

def Hm (v : VOL) (m : Nat) : List (List IT):=hAll v.blocks.toNat (v.ws.take m)
theorem Hm_succ (v : VOL) (m : Nat) (h : m < v.ws.length) : Hm v (m + 1) = hW (Hm v m) v.ws[m]:=by
 unfold Hm hAll
 rw [take_one v.ws m h,List.foldl_append];rfl
theorem hIts_len (s : Int) : ∀ (l : List IT) (H : List (List IT)),(l.foldl (hStep s) H).length = H.length
 | [],_=>rfl
 | x :: l,H=>by rw [List.foldl_cons,hIts_len,hStep_len]
theorem Hm_len (v : VOL) (m : Nat) : (Hm v m).length = v.blocks.toNat:=by
 unfold Hm hAll
 generalize v.ws.take m = l
 have : ∀ (l : List WR) (H : List (List IT)),(l.foldl hW H).length = H.length:=by
  intro l
  induction l with
  | nil=>intro H;rfl
  | cons w l ih=>intro H;rw [List.foldl_cons,ih];exact hIts_len _ _ _
 rw [this];simp
theorem ws_at {v : VOL} (hr : rightV v = true) {m : Nat} (h : m < v.ws.length) : v.ws[m].s = (m : Int) + 1∧itemsR v.blocks v.size v.ws[m].its = true:=by
 obtain ⟨r1,r2,r3,r4,r5,r6,r7,r8⟩:=rightV_iff.1 hr
 have:=wsR_at h r8
 rw [Nat.zero_add] at this
 exact this
theorem onceB_of {b s : Int} {l : List IT} (h : itemsR b s l = true) : onceB l = true:=by
 simp only [itemsR,Bool.and_eq_true] at h;exact h.2
theorem Hm_HF {v : VOL} (hr : rightV v = true) (h8 : byW v.ws) (hl : v.ws.length≤1000000) : ∀ m,m≤v.ws.length→HF m v.size (Hm v m)
 | 0,_=>by
  have : Hm v 0 = List.replicate v.blocks.toNat []:=by simp [Hm,hAll]
  rw [this]
  exact ⟨fun h hh=>by rw [List.eq_of_mem_replicate hh];rfl,fun h hh y hy=>(by rw [List.eq_of_mem_replicate hh] at hy;cases hy),fun h hh y hy=>(by rw [List.eq_of_mem_replicate hh] at hy;cases hy)⟩
 | m + 1,hm=>by
  have ih:=Hm_HF hr h8 hl m (by omega)
  obtain ⟨a1,a2⟩:=ws_at hr (show m < v.ws.length by omega)
  have a3:=itemsR_mem a2
  obtain ⟨r1,_⟩:=rightV_iff.1 hr
  obtain ⟨_,s2,_⟩:=shape_lims r1
  rw [Hm_succ v m (by omega)]
  refine HF.items a1 (by omega) _ _ (ih.mono (Nat.le_succ m)) (fun x hx=>by have:=a3 x hx;rw [Hm_len];omega) (onceB_of a2) (fun x hx b hb _ y hy=>?_) (fun x hx=>(a3 x hx).2.2) (h8 _ (List.getElem_mem _))
  have:=ih.t _ (List.getElem_mem hb) y hy
  omega

end Go.Abs

namespace Go.Abs
open Go Go.Proofs
set_option maxRecDepth 100000
set_option linter.unusedSimpArgs false
set_option maxHeartbeats 8000000

theorem pushW_fold {mark first count : Int} {w : WR} {H : List (List IT)} : (pushW first count w).foldl (applyW mark) H = (pushItems first count w.its).foldl (applyI mark w.s) H:=by
 unfold pushW
 split
 ·rename_i h
  have : pushItems first count w.its = []:=by cases hp : pushItems first count w.its with
   | nil=>rfl
   | cons a b=>rw [hp] at h;simp at h
  rw [this];rfl
 ·rfl
theorem pushWs_cons (first count : Int) (w : WR) (l : List WR) : pushWs first count (w :: l) = pushW first count w ++ pushWs first count l:=rfl
theorem pushWs_app (first count : Int) (l m : List WR) : pushWs first count (l ++ m) = pushWs first count l ++ pushWs first count m:=by simp [pushWs]
theorem pushWs_skip {mark first count : Int} : ∀ (l : List WR) (H : List (List IT)),(∀ w ∈ l,w.s≤mark)→(pushWs first count l).foldl (applyW mark) H = H
 | [],H,_=>rfl
 | w :: l,H,h=>by
  rw [pushWs_cons,List.foldl_append,pushW_fold,applyI_no (by have:=h w (by simp);omega)]
  exact pushWs_skip l H fun x hx=>h x (by simp [hx])

theorem pushWs_range {v : VOL} (hr : rightV v = true) (h8 : byW v.ws) (hl : v.ws.length≤1000000) {mark f : Int} {f0 c0 to : Nat} (hfc : f0 + c0≤v.blocks.toNat) (hto : to≤v.ws.length) : ∀ (d m : Nat),m + d = to→mark≤m→f≤m →
  (pushWs f0 c0 ((v.ws.take to).drop m)).foldl (applyW mark) ((sl3 f0 c0 (Hm v m)).map (pruneH f)) = (sl3 f0 c0 (Hm v to)).map (pruneH f)
 | 0,m,hm,_,_=>by
  have : (v.ws.take to).drop m = []:=List.drop_of_length_le (by simp;omega)
  rw [this,show m = to by omega];rfl
 | d + 1,m,hm,h1,h2=>by
  have hml : m < v.ws.length:=by omega
  have hmt : m < (v.ws.take to).length:=by simp;omega
  have hd : (v.ws.take to).drop m = v.ws[m] :: (v.ws.take to).drop (m + 1):=by rw [drop_get hmt];simp
  obtain ⟨a1,a2⟩:=ws_at hr hml
  have a3:=itemsR_mem a2
  have hH:=Hm_HF hr h8 hl m (by omega)
  rw [hd,pushWs_cons,List.foldl_append,pushW_fold,apply_items (m:=m) (by omega) (by omega) (by omega) (by omega) _ _ (by rw [Hm_len];exact hfc) (fun x hx=>by
   have:=a3 x hx
   rw [Hm_len]
   omega) (onceB_of a2) (fun x hx b hb _ y hy=>by have:=hH.t _ (List.getElem_mem hb) y hy;omega)]
  have hs : v.ws[m].its.foldl (hStep v.ws[m].s) (Hm v m) = Hm v (m + 1):=(Hm_succ v m hml).symm
  rw [hs]
  exact pushWs_range hr h8 hl hfc hto d (m + 1) (by omega) (by omega) (by omega)

theorem onceB_pw : ∀ {l : List IT},onceB l = true ↔ l.Pairwise fun x y=>y.b≠x.b
 | []=>by simp [onceB]
 | x :: l=>by
  simp only [onceB,Bool.and_eq_true,Bool.not_eq_true',List.pairwise_cons]
  rw [onceB_pw,Bool.eq_false_iff]
  constructor
  ·rintro ⟨h1,h2⟩
   exact ⟨fun y hy e=>h1 (List.any_eq_true.2 ⟨y,hy,by simpa using e⟩),h2⟩
  ·rintro ⟨h1,h2⟩
   refine ⟨fun h=>?_,h2⟩
   obtain ⟨y,hy,e⟩:=List.any_eq_true.1 h
   exact h1 y hy (by simpa using e)
theorem push_once {first count : Int} {l : List IT} (h : onceB l = true) : onceB (pushItems first count l) = true:=by
 rw [onceB_pw] at h ⊢
 unfold pushItems
 refine List.Pairwise.filter _ ?_
 rw [List.pairwise_map]
 refine h.imp fun hxy e=>hxy ?_
 simp only [shIt] at e
 omega
theorem push_items {blocks size first count : Int} {l : List IT} (h : itemsR blocks size l = true) (hne : ¬ (pushItems first count l).isEmpty = true) : itemsR count size (pushItems first count l) = true:=by
 have h1:=itemsR_len h
 have h2:=itemsR_mem h
 have h3:=pushItems_len first count l
 have h4:=push_once (first:=first) (count:=count) (onceB_of h)
 simp only [itemsR,Bool.and_eq_true,decide_eq_true_eq]
 refine ⟨⟨⟨?_,by omega⟩,?_⟩,h4⟩
 ·cases hp : pushItems first count l with
  | nil=>rw [hp] at hne;simp at hne
  | cons a b=>simp
 ·refine List.all_eq_true.2 fun x hx=>?_
  simp only [pushItems,List.mem_filter,List.mem_map] at hx
  obtain ⟨⟨y,hy,rfl⟩,hin⟩:=hx
  have:=h2 y hy
  simp only [inC,Bool.and_eq_true,decide_eq_true_eq] at hin
  simp only [itOk,Bool.and_eq_true,decide_eq_true_eq]
  exact ⟨hin,this.2.2⟩
theorem wsP_weak {count size to last last' : Int} (h : last≤last') : ∀ {l : List WR},wsP count size to last' l = true→wsP count size to last l = true
 | [],_=>rfl
 | w :: l,hw=>by
  simp only [wsP,Bool.and_eq_true,decide_eq_true_eq] at hw ⊢
  exact ⟨⟨⟨by omega,hw.1.1.2⟩,hw.1.2⟩,hw.2⟩
theorem push_wsP {v : VOL} (hr : rightV v = true) {first count : Int} {to : Nat} (hto : to≤v.ws.length) : ∀ (d m : Nat),m + d = to→wsP count v.size to m (pushWs first count ((v.ws.take to).drop m)) = true
 | 0,m,hm=>by
  have : (v.ws.take to).drop m = []:=List.drop_of_length_le (by simp;omega)
  rw [this];rfl
 | d + 1,m,hm=>by
  have hml : m < v.ws.length:=by omega
  have hmt : m < (v.ws.take to).length:=by simp;omega
  have hd : (v.ws.take to).drop m = v.ws[m] :: (v.ws.take to).drop (m + 1):=by rw [drop_get hmt];simp
  obtain ⟨a1,a2⟩:=ws_at hr hml
  have ih:=push_wsP hr (first:=first) (count:=count) hto d (m + 1) (by omega)
  rw [hd,pushWs_cons]
  unfold pushW
  split
  ·exact wsP_weak (by omega) ih
  ·rename_i hne
   simp only [List.cons_append,List.nil_append,wsP,Bool.and_eq_true,decide_eq_true_eq]
   refine ⟨⟨⟨by omega,by omega⟩,push_items a2 hne⟩,?_⟩
   rw [a1]
   exact ih

theorem kfacts {v : VOL} (hr : rightV v = true) {k : Int} (hk0 : 0≤k) (hk1 : k < v.place.length) : ∃ f0 c0 : Nat,k * v.per = f0∧min v.per (v.blocks - k * v.per) = c0∧countV v k = c0∧1≤c0∧c0≤256∧f0 + c0≤v.blocks.toNat∧k≤255∧(0≤v.id∧v.id≤7)∧(1≤v.size∧v.size≤32):=by
 obtain ⟨hs,hf0,hf1,hpins,hws⟩:=right_facts hr
 obtain ⟨g1,g2,g3,g4,g5,g6,g7,g8,g9,g10,g11,g12⟩:=shape_facts hs
 have hnp : k * v.per < v.blocks:=chunk_lt g7 g3 hk0 (by rw [← g9];exact hk1)
 have hnp0 : 0≤k * v.per:=Int.mul_nonneg hk0 (by omega)
 have hkk : k≤k * v.per:=by
  have:=Int.mul_le_mul_of_nonneg_left g7 hk0
  rw [Int.mul_one] at this
  exact this
 have hc : countV v k = min v.per (v.blocks - k * v.per):=by unfold countV;rw [if_neg (by omega)]
 refine ⟨(k * v.per).toNat,(min v.per (v.blocks - k * v.per)).toNat,by omega,by omega,by omega,by omega,by omega,by omega,by omega,by omega,by omega⟩

theorem push_right {v : VOL} (hr : rightV v = true) (hl : v.ws.length≤1000000) {k m : Int} (hk0 : 0≤k) (hk1 : k < v.place.length) (hm0 : 0≤m) (hm1 : m≤lenV v) : pushR (pushP v k m) = true:=by
 obtain ⟨f0,c0,a1,a2,a3,a4,a5,a6,a7,a8,a9⟩:=kfacts hr hk0 hk1
 obtain ⟨hs,hf0,hf1,hpins,hws⟩:=right_facts hr
 obtain ⟨n,rfl⟩ : ∃ n : Nat,m = n:=⟨m.toNat,by omega⟩
 obtain ⟨to,hto⟩ : ∃ to : Nat,pushTo v n = to:=⟨(pushTo v n).toNat,by unfold pushTo;omega⟩
 rw [a1] at a2
 have hto2 : to≤v.ws.length∧n≤to∧to≤n + 4:=by unfold pushTo lenV at hto;simp only [lenV] at hm1;omega
 have hw:=push_wsP hr (first:=f0) (count:=c0) hto2.1 (to - n) n (by omega)
 have hlen:=pushWs_len (f0 : Int) c0 ((v.ws.take to).drop n)
 simp only [List.length_drop,List.length_take] at hlen
 unfold pushR pushP
 simp only [hto,a1,a2,Int.toNat_natCast]
 simp only [shapeC,Bool.and_eq_true,inR_iff,decide_eq_true_eq]
 exact ⟨⟨⟨⟨⟨⟨⟨⟨by omega,by omega⟩,by omega⟩,by omega⟩,by omega⟩,by omega⟩,by omega⟩,by omega⟩,hw⟩

def chF (v : VOL) (k : Int) (m : Nat) (f : Int) : CH:=⟨v.id,k,countV v k,v.size,m,f,(sl3 (k * v.per).toNat (countV v k).toNat (Hm v m)).map (pruneH f)⟩

theorem chF_new {v : VOL} (hr : rightV v = true) {k m : Int} (hk0 : 0≤k) (hk1 : k < v.place.length) : newC (pushP v k m) = chF v k 0 0:=by
 obtain ⟨f0,c0,a1,a2,a3,a4,a5,a6,a7,a8,a9⟩:=kfacts hr hk0 hk1
 rw [a1] at a2
 unfold newC pushP chF
 simp only [a1,a2,a3,Int.toNat_natCast]
 have h1 : (min (max (c0 : Int) 0) 256).toNat = c0:=by omega
 have h2 : Hm v 0 = List.replicate v.blocks.toNat []:=by simp [Hm,hAll]
 rw [h1,h2]
 congr 1
 unfold sl3
 rw [List.drop_replicate,List.take_replicate,List.map_replicate]
 congr 1
 omega

theorem apply_chF {v : VOL} (hr : rightV v = true) (h8 : byW v.ws) (hl : v.ws.length≤1000000) {k m' f : Int} {m : Nat} (hk0 : 0≤k) (hk1 : k < v.place.length) (hm : m≤v.ws.length) (h0 : 0≤m') (h1 : m'≤m) (hf0 : 0≤f) (hf : f≤m) :
  applyC (chF v k m f) (pushP v k m') = chF v k (max m (pushTo v m').toNat) (max f (min v.floor (pushTo v m'))):=by
 obtain ⟨f0,c0,a1,a2,a3,a4,a5,a6,a7,a8,a9⟩:=kfacts hr hk0 hk1
 have hpr:=push_right hr hl hk0 hk1 h0 (by unfold lenV;omega)
 have hok : applyOk (chF v k m f) (pushP v k m') = true:=by
  simp only [applyOk,Bool.and_eq_true,decide_eq_true_eq]
  refine ⟨⟨⟨⟨⟨hpr,rfl⟩,rfl⟩,?_⟩,rfl⟩,h1⟩
  simp only [pushP,chF]
  rw [a2,a3]
 obtain ⟨n,rfl⟩ : ∃ n : Nat,m' = n:=⟨m'.toNat,by omega⟩
 obtain ⟨to,hto⟩ : ∃ to : Nat,pushTo v n = to:=⟨(pushTo v n).toNat,by unfold pushTo lenV;omega⟩
 rw [a1] at a2
 have hto2 : to≤v.ws.length∧n≤to∧to≤n + 4:=by unfold pushTo lenV at hto;omega
 unfold applyC
 rw [if_pos hok]
 unfold pushP chF
 simp only [hto,a1,a2,a3,Int.toNat_natCast]
 obtain ⟨g,hg⟩ : ∃ g,g = max f (min v.floor (to : Int)):=⟨_,rfl⟩
 rw [← hg]
 have hmx : max (m : Int) (to : Int) = ((max m to : Nat) : Int):=by omega
 rw [hmx]
 congr 1
 have key : (pushWs f0 c0 ((v.ws.take to).drop n)).foldl (applyW m) ((sl3 f0 c0 (Hm v m)).map (pruneH f)) = (sl3 f0 c0 (Hm v (max m to))).map (pruneH f):=by
  have hskip : ∀ j,j≤m→∀ w ∈ (v.ws.take j).drop n,w.s≤(m : Int):=fun j hj w hw=>by
   obtain ⟨i,hi,rfl⟩:=List.getElem_of_mem (List.mem_of_mem_drop hw)
   have hi2 : i < v.ws.length:=by simp at hi;omega
   have hi3 : i < j:=by simp at hi;omega
   rw [List.getElem_take]
   have:=(ws_at hr hi2).1
   omega
  rcases Nat.le_total to m with hc | hc
  ·rw [pushWs_skip _ _ (hskip to hc),show max m to = m by omega]
  ·have e : (v.ws.take to).drop n = (v.ws.take m).drop n ++ (v.ws.take to).drop m:=by
    have e1 : v.ws.take to = v.ws.take m ++ (v.ws.take to).drop m:=by
     have:=List.take_append_drop m (v.ws.take to)
     rw [List.take_take,show min m to = m by omega] at this
     exact this.symm
    have hnl : n≤(v.ws.take m).length:=by simp;omega
    conv=>lhs;rw [e1]
    rw [List.drop_append_of_le_length hnl]
   rw [e,pushWs_app,List.foldl_append,pushWs_skip _ _ (hskip m (Nat.le_refl _)),show max m to = to by omega]
   exact pushWs_range hr h8 hl a6 hto2.1 (to - m) m (by omega) (Int.le_refl _) hf
 rw [key,List.map_map]
 refine List.map_congr_left fun h hh=>?_
 have hH:=Hm_HF hr h8 hl (max m to) (by omega)
 exact pruneH_two (by omega) (histR_rise (hH.r h (List.mem_of_mem_drop (List.mem_of_mem_take hh))))
end Go.Abs

namespace Go.Abs
open Go Go.Proofs
set_option maxRecDepth 100000
set_option linter.unusedSimpArgs false
set_option maxHeartbeats 8000000

theorem pushItems_mem {first count : Int} {l : List IT} (h : byI l) : byI (pushItems first count l):=by
 intro x hx
 simp only [pushItems,List.mem_filter,List.mem_map] at hx
 obtain ⟨⟨y,hy,rfl⟩,_⟩:=hx
 exact h y hy
theorem pushWs_mem {first count : Int} {l : List WR} {w : WR} (h : w ∈ pushWs first count l) : ∃ x ∈ l,w = ⟨x.s,pushItems first count x.its⟩:=by
 simp only [pushWs,List.mem_flatMap] at h
 obtain ⟨x,hx,h⟩:=h
 refine ⟨x,hx,?_⟩
 unfold pushW at h
 split at h
 ·cases h
 ·simpa using h
theorem pushV_ok {v : VOL} {n : Nat} (hg : Vgood v n) (hn : n≤50000) (k m : Int) : (pushV v k m).1.ws.length≤1000000∧(∀ w ∈ (pushV v k m).1.ws,w.its.length≤1000000)∧byW (pushV v k m).1.ws:=by
 unfold pushV
 split
 ·simp only [pushP]
  have hsub : ∀ {w : WR},w ∈ (v.ws.take (pushTo v m).toNat).drop m.toNat→w ∈ v.ws:=fun h=>List.mem_of_mem_take (List.mem_of_mem_drop h)
  obtain ⟨_,_,_,hok⟩:=hg.ok hn
  refine ⟨?_,fun w hw=>?_,fun w hw=>?_⟩
  ·have h1:=pushWs_len (k * v.per) (min v.per (v.blocks - k * v.per)) ((v.ws.take (pushTo v m).toNat).drop m.toNat)
   have h2:=hg.ws
   simp only [List.length_drop,List.length_take] at h1
   omega
  ·obtain ⟨x,hx,rfl⟩:=pushWs_mem hw
   have h1:=pushItems_len (k * v.per) (min v.per (v.blocks - k * v.per)) x.its
   have h2:=(hok x (hsub hx)).1
   show (pushItems _ _ x.its).length≤_
   omega
  ·obtain ⟨x,hx,rfl⟩:=pushWs_mem hw
   exact pushItems_mem (hg.by8 x (hsub hx))
 ·refine ⟨by simp,?_,?_⟩ <;> (intro w hw;cases hw)
theorem pushEq_self (p : PU) : pushEq p p = true:=by simp [pushEq]

theorem mem_sl3 {first cnt : Nat} {H : List (List IT)} {h : List IT} (hh : h ∈ sl3 first cnt H) : h ∈ H:=List.mem_of_mem_drop (List.mem_of_mem_take hh)
theorem chF_len {v : VOL} (hr : rightV v = true) {k : Int} (hk0 : 0≤k) (hk1 : k < v.place.length) {m : Nat} {f : Int} : (chF v k m f).hist.length = (countV v k).toNat:=by
 obtain ⟨f0,c0,a1,a2,a3,a4,a5,a6,a7,a8,a9⟩:=kfacts hr hk0 hk1
 unfold chF
 simp only [List.length_map,a1,a3,Int.toNat_natCast]
 exact sl3_len (by rw [Hm_len];exact a6)
theorem chF_mem {v : VOL} (hr : rightV v = true) (h8 : byW v.ws) (hl : v.ws.length≤100000) {k : Int} (hk0 : 0≤k) (hk1 : k < v.place.length) {m : Nat} (hm : m≤v.ws.length) {f : Int} : ∀ h ∈ (chF v k m f).hist,histR h = true∧(∀ y ∈ h,y.b≤m∧(y.d.length : Int) = v.size∧∀ c ∈ y.d,c < 256)∧h.length≤m∧(pruneH f h).length = h.length:=by
 intro h hh
 obtain ⟨g,hg,rfl⟩:=List.mem_map.1 hh
 have hg:=mem_sl3 hg
 have hH:=Hm_HF hr h8 (by omega) m hm
 have h1:=hH.r g hg
 have h2:=histR_prune (f:=f) h1
 have h3 : ∀ y ∈ pruneH f g,y.b≤(m : Int):=fun y hy=>hH.t g hg y (pruneH_mem hy)
 have h4:=hst_len (p:=0) (m:=m) h2 h3 (by omega)
 exact ⟨h2,fun y hy=>⟨h3 y hy,hH.d g hg y (pruneH_mem hy)⟩,by omega,by rw [pruneH_two (Int.le_refl f) (histR_rise h1)]⟩
theorem chF_cok {v : VOL} (hr : rightV v = true) (h8 : byW v.ws) (hl : v.ws.length≤100000) {k : Int} (hk0 : 0≤k) (hk1 : k < v.place.length) {m : Nat} (hm : m≤v.ws.length) {f : Int} {n : Nat} (hn : m≤n) : Cok (chF v k m f) n:=by
 obtain ⟨f0,c0,a1,a2,a3,a4,a5,a6,a7,a8,a9⟩:=kfacts hr hk0 hk1
 have hL:=chF_len hr hk0 hk1 (m:=m) (f:=f)
 have hc : (chF v k m f).count = countV v k:=rfl
 refine ⟨by rw [hL,hc];omega,by rw [hc];omega,fun h hh=>?_⟩
 obtain ⟨b1,b2,b3,b4⟩:=chF_mem hr h8 hl hk0 hk1 hm h hh
 exact ⟨b1,by omega,fun x hx=>⟨by have:=(b2 x hx).2.1;omega,(b2 x hx).2.2⟩⟩
theorem chF_csm {v : VOL} (hr : rightV v = true) (h8 : byW v.ws) (hl : v.ws.length≤100000) {k : Int} (hk0 : 0≤k) (hk1 : k < v.place.length) {m : Nat} (hm : m≤v.ws.length) {f : Int} : Csm (chF v k m f):=by
 obtain ⟨f0,c0,a1,a2,a3,a4,a5,a6,a7,a8,a9⟩:=kfacts hr hk0 hk1
 have hL:=chF_len hr hk0 hk1 (m:=m) (f:=f)
 refine ⟨by rw [hL];omega,fun h hh=>?_⟩
 obtain ⟨b1,b2,b3,b4⟩:=chF_mem hr h8 hl hk0 hk1 hm h hh
 exact ⟨by omega,fun x hx=>by have:=(b2 x hx).2.1;omega⟩
theorem chF_by {v : VOL} (hr : rightV v = true) (h8 : byW v.ws) (hl : v.ws.length≤100000) {k : Int} (hk0 : 0≤k) (hk1 : k < v.place.length) {m : Nat} (hm : m≤v.ws.length) {f : Int} : byH (chF v k m f).hist:=fun h hh x hx=>((chF_mem hr h8 hl hk0 hk1 hm h hh).2.1 x hx).2.2
def stepM (len : Nat) (to : Int) : Nat→Nat→Nat
 | 0,m=>m
 | d + 1,m=>if (m : Int) < to∧m < len then stepM len to d (min (m + 4) len) else m
def seatM (v : VOL) (to : Int) : Nat:=stepM v.ws.length to v.ws.length 0
theorem stepM_end {len : Nat} {to : Int} {d m : Nat} (h : ¬ ((m : Int) < to∧m < len)) : stepM len to d m = m:=by
 cases d with
 | zero=>rfl
 | succ d=>unfold stepM;rw [if_neg h]
theorem stepM_le {len : Nat} {to : Int} : ∀ {d m : Nat},m≤len→stepM len to d m≤len
 | 0,_,h=>h
 | d + 1,m,h=>by
  unfold stepM
  split
  ·exact stepM_le (by omega)
  ·exact h
theorem seatM_le (v : VOL) (to : Int) : seatM v to≤v.ws.length:=stepM_le (Nat.zero_le _)
def chG (v : VOL) (k : Int) (m : Nat) : CH:=chF v k m (min v.floor m)
theorem chG_next {v : VOL} (hr : rightV v = true) (h8 : byW v.ws) (hl : v.ws.length≤1000000) {k : Int} (hk0 : 0≤k) (hk1 : k < v.place.length) {m : Nat} (hm : m≤v.ws.length) : applyC (chG v k m) (pushP v k m) = chG v k (min (m + 4) v.ws.length):=by
 obtain ⟨r1,r2,r3,r4,r5,r6,r7,r8⟩:=rightV_iff.1 hr
 unfold chG
 rw [apply_chF hr h8 hl hk0 hk1 hm (by omega) (Int.le_refl _) (by omega) (by omega)]
 have e : pushTo v m = ((min (m + 4) v.ws.length : Nat) : Int):=by unfold pushTo lenV;omega
 rw [e]
 have e2 : max m ((min (m + 4) v.ws.length : Nat) : Int).toNat = min (m + 4) v.ws.length:=by omega
 rw [e2]
 congr 1
 omega

theorem pushV_yes {v : VOL} {k m : Int} (hk0 : 0≤k) (hk1 : k < v.place.length) (h0 : 0≤m) (h1 : m≤lenV v) : pushV v k m = (pushP v k m,true):=by
 unfold pushV pushOk
 rw [if_pos (by simp only [Bool.and_eq_true,decide_eq_true_eq];omega)]

theorem Chunk_con (v : VOL) (k to : Int) (n : Nat) (g : Vgood v n) (hn : n≤50000) (hk0 : 0≤k) (hk1 : k < v.place.length) : Con Try.prog 12 [.agg (volC v),I k,I to] [] (.agg (chC (chG v k (seatM v to)))) []:=by
 have hr:=g.right
 have h8:=g.by8
 have hws:=g.ws
 have hlen : lenV v = v.ws.length:=rfl
 have hv:=g.ok hn
 have hP : ∀ m : Nat,m≤v.ws.length→Con Try.prog 27 [.agg (volC v),I k,I m] [] (.tup [.agg (pushC (pushP v k m)),B true]) []:=fun m hm=>by
  have:=Push_con v k m hv hr
  rw [pushV_yes hk0 hk1 (by omega) (by omega)] at this
  exact this
 have hA : ∀ m : Nat,m≤v.ws.length→Con Try.prog 20 [.agg (chC (chG v k m)),.agg (pushC (pushP v k m))] [] (.agg (chC (chG v k (min (m + 4) v.ws.length)))) []:=fun m hm=>by
  obtain ⟨p1,p2,p3⟩:=pushV_ok g hn k m
  rw [pushV_yes hk0 hk1 (by omega) (by omega)] at p1 p2 p3
  have:=mementoref13_Apply_con (chG v k m) (pushP v k m) n (by omega) (chF_cok hr h8 (by omega) hk0 hk1 hm (by omega)) ⟨p1,fun w hw=>⟨p2 w hw,fun x hx=>?_⟩⟩ p3
  ·rw [chG_next hr h8 (by omega) hk0 hk1 hm] at this
   exact this
  ·have hpr:=push_right hr (by omega) hk0 hk1 (show (0 : Int)≤m by omega) (by omega)
   have:=itemsR_mem ((pushR_facts hpr).2.2.2.2 w hw).2.2 x hx
   have:=(pushR_facts hpr).1
   omega
 have hN : newC (pushP v k 0) = chG v k 0:=by
  rw [chF_new hr hk0 hk1]
  obtain ⟨r1,r2,r3,r4,r5,r6,r7,r8⟩:=rightV_iff.1 hr
  unfold chG
  congr 1
  omega
 have cN:=mementoref13_New_con (pushP v k 0)
 rw [hN] at cN
 have cP0:=hP 0 (by omega)
 generalize pushP v k 0 = p0 at cN cP0
 obtain ⟨M,hM⟩ : ∃ M,M = seatM v to:=⟨_,rfl⟩
 rw [← hM]
 refine C_mementoseat_Chunk nl nl ?_
 simp only [cz,A_mementoseat_Chunk,argL,objL,List.length_nil,Nat.zero_add,zX,simprocAttr]
 refine aS 16 (fun Q hQ=>by simp (disch:=intros;contradiction) only [zS,vC_eq,simprocAttr];exact hQ) ?_
 refine aB 80 ?_
 refine rC [] (cP0) ?_ (hs:=(by exact .inr ⟨pushT_pure _ _,trivial⟩))
 refine aEs (fun Q hQ=>by simp (disch:=intros;contradiction) only [zS,pushC,puC,simprocAttr];exact hQ) ?_
 refine aB 256 ?_
 refine rC [] (cN) ?_ (hs:=(by exact .inr ⟨chC_pure _,trivial⟩))
 refine aEs (fun Q hQ=>by simp (disch:=intros;contradiction) only [zS,chC,chO,simprocAttr];exact hQ) ?_
 refine aw_loopK (X:={ x : Nat × Nat × PU // x.2.1≤v.ws.length∧v.ws.length≤x.2.1 + x.1∧stepM v.ws.length to x.1 x.2.1 = M }) [1,2,3,6,7,9] (fun x=>[(8,B true)]) [16,32] (fun x=>[(176,.box [.v (.int .i64 x.1.2.2.vol),.v (.int .i64 x.1.2.2.chunk),.v (.int .i64 x.1.2.2.count),.v (.int .i64 x.1.2.2.size),.v (.int .i64 x.1.2.2.frm),.v (.int .i64 x.1.2.2.to),.v (.int .i64 x.1.2.2.floor),.sl (x.1.2.2.ws.map wrow)]),(288,.box [.v (.int .i64 (chG v k x.1.2.1).vol),.v (.int .i64 (chG v k x.1.2.1).chunk),.v (.int .i64 (chG v k x.1.2.1).count),.v (.int .i64 (chG v k x.1.2.1).size),.v (.int .i64 (chG v k x.1.2.1).mark),.v (.int .i64 (chG v k x.1.2.1).floor),.sl ((chG v k x.1.2.1).hist.map hrow)])]) (fun x=>x.1.1) (⟨(v.ws.length,0,p0),by simp only;omega,by simp only;omega,hM.symm⟩) ?_ ?_
 ·skip
  simp only [keepS,keepE,Option.getD_some,lk_cons,lkE_cons,List.cons_append,List.nil_append,simprocAttr]
  refine Le.lit [] [] _ _ ?_ ?_ ?_ ?_
  ·simp only [zL,simprocAttr]
  ·simp only [zL,simprocAttr]
  ·simp [rlook]
  ·(simp;done)
 rintro ⟨⟨d,m,pp⟩,k1,k2,k3⟩
 simp only [keepS,keepE,Option.getD_some,lk_cons,lkE_cons,List.cons_append,List.nil_append,simprocAttr]
 simp only [zX]
 simp only at k1 k2 k3
 have hmk : (chG v k m).mark = (m : Int):=rfl
 refine aBDs 352 (fun Q hQ=>by simp (disch:=intros;contradiction) only [zS,hmk,simprocAttr];exact hQ) ?_
 refine rG _ _ (mementoref16_Len_con v) ?_
 refine aED ?_
 refine aw_cond _ rfl trivial (fun ht=>?_) (fun hf=>?_)
 rotate_left
 ·skip
  try simp at hf
  simp only [zX,↓reduceIte]
  have k4 : m = M:=by rw [← k3,stepM_end];rw [hlen] at hf;omega
  subst k4
  refine aR 608 ?_
  refine Fin.data [] (.inr rfl) rfl (by (exact ⟨trivial,trivial⟩)) ?_
  simp only [zL]
  all_goals ((repeat' (first | exact trivial | rfl | refine ⟨?_,?_⟩)))
 try simp at ht
 simp only [zX]
 have hlt : (m : Int) < to∧m < v.ws.length:=by rw [hlen] at ht;omega
 obtain ⟨d',hd⟩ : ∃ d',d = d' + 1:=⟨d - 1,by omega⟩
 rw [hd] at k3
 unfold stepM at k3
 rw [if_pos hlt] at k3
 have cPm:=hP m k1
 have cAm:=hA m k1
 generalize pushP v k m = pm at cPm cAm
 refine aB 672 ?_
 refine rC [] (cPm) ?_ (hs:=(by exact .inr ⟨pushT_pure _ _,trivial⟩))
 refine aEs (fun Q hQ=>by simp (disch:=intros;contradiction) only [zS,pushC,puC,simprocAttr];exact hQ) ?_
 refine aB 864 ?_
 refine rC [] (cAm) ?_ (hs:=(by exact .inr ⟨chC_pure _,trivial⟩))
 refine aEs (fun Q hQ=>by simp (disch:=intros;contradiction) only [zS,chC,chO,simprocAttr];exact hQ) ?_
 refine ⟨⟨(d',min (m + 4) v.ws.length,pm),by simp only;omega,by simp only;omega,k3⟩,?_,by first | omega | (simp only;omega)⟩
 refine Le.lit [] [] _ _ ?_ ?_ ?_ ?_
 ·simp only [zL,simprocAttr]
 ·simp only [zL,simprocAttr]
 ·simp [rlook]
 ·(simp;done)

end Go.Abs

namespace Go.Abs
open Go Go.Proofs
set_option maxRecDepth 100000
set_option linter.unusedSimpArgs false
set_option maxHeartbeats 8000000

theorem place_pos {v : VOL} (hr : rightV v = true) : 1≤v.place.length:=by
 obtain ⟨hs,_⟩:=right_facts hr
 obtain ⟨g1,g2,g3,g4,g5,g6,g7,g8,g9,g10,g11,g12⟩:=shape_facts hs
 unfold chunksN at g9
 rw [Int.tdiv_eq_ediv_of_nonneg (by omega)] at g9
 have : 1≤(v.blocks + v.per - 1) / v.per:=(Int.le_ediv_iff_mul_le (by omega)).2 (by omega)
 omega
def kN (v : VOL) (n : Nat) : Nat:=n % v.place.length
theorem kN_lt {v : VOL} (hr : rightV v = true) (n : Nat) : ((kN v n : Nat) : Int) < v.place.length:=by
 have:=Nat.mod_lt n (place_pos hr)
 unfold kN;omega

theorem chG_push_ok {v : VOL} (hr : rightV v = true) (h8 : byW v.ws) (hl : v.ws.length≤100000) {k : Int} (hk0 : 0≤k) (hk1 : k < v.place.length) {m : Nat} (hm : m≤v.ws.length) {m' : Int} (h0 : 0≤m') (h1 : m'≤lenV v) (hg : Vgood v 50000) : Pok (pushP v k m')∧byW (pushP v k m').ws:=by
 obtain ⟨p1,p2,p3⟩:=pushV_ok hg (Nat.le_refl _) k m'
 rw [pushV_yes hk0 hk1 h0 h1] at p1 p2 p3
 refine ⟨⟨p1,fun w hw=>⟨p2 w hw,fun x hx=>?_⟩⟩,p3⟩
 have hpr:=push_right hr (by omega) hk0 hk1 h0 h1
 have:=itemsR_mem ((pushR_facts hpr).2.2.2.2 w hw).2.2 x hx
 have:=(pushR_facts hpr).1
 omega
theorem push_con {v : VOL} (hg : Vgood v 50000) {k m : Int} (hk0 : 0≤k) (hk1 : k < v.place.length) (h0 : 0≤m) (h1 : m≤lenV v) : Con Try.prog 27 [.agg (volC v),I k,I m] [] (.tup [.agg (pushC (pushP v k m)),B true]) []:=by
 have:=Push_con v k m (hg.ok (Nat.le_refl _)) hg.right
 rw [pushV_yes hk0 hk1 h0 h1] at this
 exact this

end Go.Abs

namespace Go.Abs
open Go Go.Proofs
set_option maxRecDepth 100000
set_option linter.unusedSimpArgs false
set_option maxHeartbeats 8000000

end Go.Abs

namespace Go.Abs
open Go Go.Proofs
set_option maxRecDepth 100000
set_option linter.unusedSimpArgs false
set_option maxHeartbeats 8000000

def mN (v : VOL) (mark : Nat) : Nat:=mark % (v.ws.length + 1)
theorem lawPush_con (l : List Nat) (n mark : Nat) (h8 : ∀ c ∈ l,c < 256) (hl : l.length≤80) (hn : n < 256) (hm : mark < 256) :
  Con Try.prog 11 [.c (.sl (l.map brow)),.c (.v (.int .u8 n)),.c (.v (.int .u8 mark))] []
   (.tup [.agg (volC (seatV l)),I (kN (seatV l) n),.agg (pushC (pushP (seatV l) (kN (seatV l) n) (mN (seatV l) mark)))]) []:=by
 have cV:=Volume_con l h8 (by omega)
 have g0:=(seatV_good l).mono (show l.length / 4≤20 by omega)
 generalize seatV l = v at cV g0
 have hr:=g0.right
 have hg:=g0.mono (show 20≤50000 by omega)
 have hwl:=g0.ws
 have hpp:=place_pos hr
 have hk1:=kN_lt hr n
 obtain ⟨r1,r2,r3,r4,r5,r6,r7,r8⟩:=rightV_iff.1 hr
 have hpl : v.place.length≤512:=(shape_lims r1).2.2.2.2.2.2
 obtain ⟨k,hk⟩ : ∃ k,k = kN v n:=⟨_,rfl⟩
 obtain ⟨m,hm'⟩ : ∃ m,m = mN v mark:=⟨_,rfl⟩
 have hkm : (n : Int) % (v.place.length : Int) = (k : Int):=by rw [hk];unfold kN;omega
 have hlen : lenV v = (v.ws.length : Int):=rfl
 have hmm : (mark : Int) % ((v.ws.length : Int) + 1) = (m : Int):=by rw [hm'];unfold mN;rw [Int.natCast_emod];push_cast;rfl
 have hml : m≤v.ws.length:=by
  have:=Nat.mod_lt mark (show v.ws.length + 1 > 0 by omega)
  rw [hm'];unfold mN;omega
 rw [← hk] at hk1 ⊢
 rw [← hm']
 have cP:=push_con hg (show (0 : Int)≤k by omega) hk1 (show (0 : Int)≤m by omega) (by rw [hlen];omega)
 generalize pushP v k m = p at cP
 refine C_mementolaw14_push nl nl ?_
 simp only [cz,A_mementolaw14_push,argL,objL,List.length_nil,Nat.zero_add,zX,simprocAttr]
 refine aR 16 ?_
 refine aB 96 ?_
 refine rC [] (cV) ?_ (hs:=(by exact .inr ⟨volC_pure _,trivial⟩))
 refine aEs (fun Q hQ=>by simp (disch:=intros;contradiction) only [zS,vC_eq,simprocAttr];exact hQ) ?_
 refine aS 192 (fun Q hQ=>by simp (disch:=first | (intros;contradiction) | omega | (simp only [zN];omega)) only [zS,zW,hkm,simprocAttr];repeat refine ⟨by (omega),?_⟩;exact hQ) ?_
 refine aBDs 336 (fun Q hQ=>by simp (disch:=first | (intros;contradiction) | omega | (simp only [zN];omega)) only [zS,zW,simprocAttr];exact hQ) ?_
 refine rC [] (mementoref16_Len_con v) ?_
 refine aMs (fun Q hQ=>by simp (disch:=first | (intros;contradiction) | omega | (simp only [zN];omega)) only [zS,zW,hmm,hlen,simprocAttr];repeat refine ⟨by (omega),?_⟩;exact hQ) ?_
 refine rC [] (cP) ?_ (hs:=(by exact .inr ⟨pushT_pure _ _,trivial⟩))
 refine aEDs (fun Q hQ=>by simp (disch:=intros;contradiction) only [zS,pushC,puC,simprocAttr];exact hQ) ?_
 refine aw_draw 608 (RG.go fun Q hQ=>?_)
 simp (disch:=intros;contradiction) only [zS,simprocAttr]
 refine hQ (RG.nil ⟨by decide +kernel,?_⟩)
 simp only [zX]
 refine Fin.data [] (.inr rfl) rfl (by (exact ⟨trivial,trivial,trivial⟩)) ?_
 simp only [zL,simprocAttr]
 all_goals ((repeat' (first | exact trivial | rfl | refine ⟨?_,?_⟩)))

theorem lawPush_pure (v : VOL) (x : Value) (p : PU) : (SV.tup [.agg (volC v),.c (.v x),.agg (pushC p)]).pureD:=by
 intro s hs
 simp only [List.mem_cons,List.not_mem_nil,or_false] at hs
 rcases hs with rfl | rfl | rfl
 ·exact volC_pure v
 ·rfl
 ·exact pushC_pure p
end Go.Abs

namespace Go.Abs
open Go Go.Proofs
set_option maxRecDepth 100000
set_option linter.unusedSimpArgs false
set_option maxHeartbeats 8000000

end Go.Abs

namespace Go.Abs
open Go Go.Proofs
set_option maxRecDepth 100000
set_option linter.unusedSimpArgs false
set_option maxHeartbeats 8000000

end Go.Abs

namespace Go.Abs
open Go Go.Proofs
set_option maxRecDepth 100000
set_option linter.unusedSimpArgs false
set_option maxHeartbeats 8000000

theorem numR_fit {m1 m2 : Nat} {l r : List Nat} {e v : Nat} (h : numR m1 l e = (v,r,0)) (hv : v≤m2) : numR m2 l e = (v,r,0):=by
 unfold numR at h ⊢
 split at h
 ·rename_i h0;simp only [Prod.mk.injEq] at h;omega
 ·rename_i h0
  rw [if_neg h0]
  split at h
  ·rename_i h1;simp only [Prod.mk.injEq] at h;omega
  ·rename_i h1
   rw [if_neg h1]
   split at h
   ·simp only [Prod.mk.injEq] at h;omega
   ·simp only [Prod.mk.injEq] at h
    rw [if_neg (by omega)]
    simp only [Prod.mk.injEq]
    exact h
theorem numR_err {m : Nat} {l : List Nat} {e : Nat} (h : (numR m l e).2.2 = 0) : e = 0:=Decidable.by_contra fun hh=>by rw [numR_bad hh] at h;exact hh h
theorem lumpR_err {m : Nat} {l : List Nat} {e : Nat} (h : (lumpR m l e).2.2 = 0) : e = 0:=Decidable.by_contra fun hh=>by rw [lumpR_bad hh] at h;exact hh h
theorem jV_err : ∀ {k : Nat} {acc : List IT} {l : List Nat} {e : Nat},(jV k acc l e).2.2 = 0→e = 0
 | 0,_,_,_,h=>h
 | k + 1,acc,l,e,h=>by
  unfold jV at h
  split at h
  ·assumption
  ·exact h
theorem jV_len : ∀ {k : Nat} {acc : List IT} {l : List Nat} {e : Nat},(jV k acc l e).2.2 = 0→(jV k acc l e).1.length = acc.length + k∧k + (jV k acc l e).2.1.length≤l.length
 | 0,acc,l,e,h=>by unfold jV;simp
 | k + 1,acc,l,e,h=>by
  unfold jV at h ⊢
  split at h
  ·rename_i he
   subst he
   rw [if_pos rfl]
   obtain ⟨h1,h2⟩:=jV_len h
   have h3:=lumpR_err (jV_err h)
   have h4:=(lumpR_len (most:=32) (l:=(numR 1099511627776 l 0).2.1) (e:=(numR 1099511627776 l 0).2.2)).2
   have h5:=numR_less (most:=1099511627776) (l:=l)
   rw [h1]
   simp only [List.length_append,List.length_singleton]
   omega
  ·rename_i he;exact absurd h he
theorem jH_err {m : Nat} {l : List Nat} {e : Nat} (h : (jH m l e).2.2 = 0) : e = 0:=numR_err (jV_err h)
theorem jH_fit {m1 m2 : Nat} {l : List Nat} {e : Nat} (h : (jH m1 l e).2.2 = 0) (hv : (numR m1 l e).1≤m2) : jH m2 l e = jH m1 l e:=by
 have h0 : (numR m1 l e).2.2 = 0:=jV_err h
 have : numR m2 l e = numR m1 l e:=by
  have e1 : numR m1 l e = ((numR m1 l e).1,(numR m1 l e).2.1,0):=by rw [← h0]
  rw [numR_fit e1 hv]
  exact e1.symm
 unfold jH
 rw [this]
theorem jH_rest {m : Nat} {l : List Nat} {e : Nat} (h : (jH m l e).2.2 = 0) : (numR m l e).1 + (jH m l e).2.1.length≤l.length:=by
 have h1:=(jV_len (show (jV (numR m l e).1 [] (numR m l e).2.1 (numR m l e).2.2).2.2 = 0 from h)).2
 have h2:=numR_len (most:=m) (l:=l) (e:=e)
 show (numR m l e).1 + (jV (numR m l e).1 [] (numR m l e).2.1 (numR m l e).2.2).2.1.length≤l.length
 omega
theorem jHs_err : ∀ {k : Nat} {acc : List (List IT)} {l : List Nat} {e : Nat},(jHs k acc l e).2.2 = 0→e = 0
 | 0,_,_,_,h=>h
 | k + 1,acc,l,e,h=>by
  unfold jHs at h
  exact jH_err (jHs_err h)
def tHs : Nat→List (List IT)→List Nat→Nat→List (List IT) × List Nat × Nat
 | 0,acc,l,e=>(acc,l,e)
 | k + 1,acc,l,e=>if e = 0 then tHs k (acc ++ [(jH 2147483648 l e).1]) (jH 2147483648 l e).2.1 (jH 2147483648 l e).2.2 else (acc,l,e)
theorem tHs_err : ∀ {k : Nat} {acc : List (List IT)} {l : List Nat} {e : Nat},(tHs k acc l e).2.2 = 0→e = 0
 | 0,_,_,_,h=>h
 | k + 1,acc,l,e,h=>by
  unfold tHs at h
  split at h
  ·assumption
  ·exact h
theorem jHs_tHs : ∀ {k : Nat} {acc : List (List IT)} {l : List Nat} {e : Nat},l.length≤500000→(jHs k acc l e).2.2 = 0→tHs k acc l e = jHs k acc l e
 | 0,_,_,_,_,_=>rfl
 | k + 1,acc,l,e,hl,h=>by
  have he:=jHs_err h
  subst he
  unfold jHs at h
  have h1:=jHs_err h
  have h2:=jH_rest h1
  unfold tHs jHs
  rw [if_pos rfl,jH_fit h1 (by omega)]
  exact jHs_tHs (by omega) h
theorem tHs_jHs : ∀ {k : Nat} {acc : List (List IT)} {l : List Nat} {e : Nat},(tHs k acc l e).2.2 = 0→jHs k acc l e = tHs k acc l e
 | 0,_,_,_,_=>rfl
 | k + 1,acc,l,e,h=>by
  have he:=tHs_err h
  subst he
  unfold tHs at h ⊢
  rw [if_pos rfl] at h ⊢
  have h1:=tHs_err h
  have h2 : (numR 2147483648 l 0).1≤2147483648:=numR_le
  unfold jHs
  rw [jH_fit h1 (by omega)]
  exact tHs_jHs h

def numsM : List Nat→List Nat→Nat→List Nat × List Nat × Nat
 | [],l,e=>([],l,e)
 | m :: ms,l,e=>((numR m l e).1 :: (numsM ms (numR m l e).2.1 (numR m l e).2.2).1,(numsM ms (numR m l e).2.1 (numR m l e).2.2).2)
def LeL : List Nat→List Nat→Prop
 | v :: vs,m :: ms=>v≤m∧LeL vs ms
 | [],[]=>True
 | _,_=>False
theorem numsM_err : ∀ {ms : List Nat} {l : List Nat} {e : Nat},(numsM ms l e).2.2 = 0→e = 0
 | [],_,_,h=>h
 | m :: ms,l,e,h=>numR_err (numsM_err (ms:=ms) h)
theorem numsM_fit : ∀ {ms ms' : List Nat} {l : List Nat} {e : Nat},(numsM ms l e).2.2 = 0→LeL (numsM ms l e).1 ms'→numsM ms' l e = numsM ms l e
 | [],[],_,_,_,_=>rfl
 | [],_ :: _,_,_,_,h=>h.elim
 | m :: ms,[],_,_,_,h=>h.elim
 | m :: ms,m' :: ms',l,e,h,hl=>by
  have h1 : (numR m l e).2.2 = 0:=numsM_err (ms:=ms) h
  have h2 : numR m' l e = numR m l e:=by
   have e1 : numR m l e = ((numR m l e).1,(numR m l e).2.1,0):=by rw [← h1]
   rw [numR_fit e1 hl.1]
   exact e1.symm
  have ih:=numsM_fit (ms:=ms) (ms':=ms') h hl.2
  unfold numsM
  rw [h2,ih]
def tcC : List Nat × List Nat × Nat→TC
 | ([a,b,c,d,f,g],l,e)=>jc7 a b c d f g l e
 | (_,l,e)=>((zeroCH,false),l,e)
def tcR : List Nat × List Nat × Nat→TC
 | ([a,b,c,d,f,g],l,e)=>jc8 a b c d f g (tHs c [] l e)
 | (_,l,e)=>((zeroCH,false),l,e)
def tr6 (a b c d f : Nat) (q : NR) : TC:=jc8 a b c d f q.1 (tHs c [] q.2.1 q.2.2)
def tr5 (a b c d : Nat) (q : NR) : TC:=tr6 a b c d q.1 (numR 1099511627776 q.2.1 q.2.2)
def tr4 (a b c : Nat) (q : NR) : TC:=tr5 a b c q.1 (numR 1099511627776 q.2.1 q.2.2)
def tr3 (a b : Nat) (q : NR) : TC:=tr4 a b q.1 (numR 32 q.2.1 q.2.2)
def tr2 (a : Nat) (q : NR) : TC:=tr3 a q.1 (numR 256 q.2.1 q.2.2)
def tr1 (q : NR) : TC:=tr2  q.1 (numR 256 q.2.1 q.2.2)
def takeR (l : List Nat) (e : Nat) : TC:=tr1 (numR 8 l e)
theorem takeC_eq (l : List Nat) (e : Nat) : takeC l e = tcC (numsM [1099511627776,1099511627776,1099511627776,1099511627776,1099511627776,1099511627776] l e):=rfl
theorem takeR_eq (l : List Nat) (e : Nat) : takeR l e = tcR (numsM [8,256,256,32,1099511627776,1099511627776] l e):=rfl

theorem jc8_ok {a b c d f g : Nat} {q : List (List IT) × List Nat × Nat} (h : (jc8 a b c d f g q).1.2 = true) : q.2.2 = 0∧rightC ⟨a,b,c,d,f,g,q.1⟩ = true:=by
 unfold jc8 at h
 split at h
 ·cases h
 ·rename_i hh
  refine ⟨Decidable.by_contra fun h1=>hh (.inl h1),?_⟩
  cases hr : rightC ⟨a,b,c,d,f,g,q.1⟩ with
  | true=>rfl
  | false=>exact absurd (.inr hr) hh
theorem jc8_no {a b c d f g : Nat} {q : List (List IT) × List Nat × Nat} (h : ¬ (jc8 a b c d f g q).1.2 = true) : (jc8 a b c d f g q).1 = (zeroCH,false):=by
 unfold jc8 at h ⊢
 split
 ·rfl
 ·rename_i hh;rw [if_neg hh] at h;exact absurd rfl h
theorem right_lims {c : CH} (h : rightC c = true) : c.vol≤7∧c.chunk≤255∧c.count≤256∧c.size≤32∧c.mark≤1099511627776∧c.floor≤1099511627776∧shapeC c.vol c.chunk c.count c.size = true:=by
 simp only [rightC,Bool.and_eq_true] at h
 obtain ⟨⟨⟨⟨h1,h2⟩,h3⟩,_⟩,_⟩:=h
 have h1':=h1
 simp only [shapeC,Bool.and_eq_true,inR_iff] at h1 h2 h3
 exact ⟨by omega,by omega,by omega,by omega,by omega,by omega,h1'⟩

theorem numsM_len : ∀ {ms : List Nat} {l : List Nat} {e : Nat},(numsM ms l e).2.1.length≤l.length
 | [],_,_=>Nat.le_refl _
 | m :: ms,l,e=>by
  have h1:=numsM_len (ms:=ms) (l:=(numR m l e).2.1) (e:=(numR m l e).2.2)
  have h2:=numR_len (most:=m) (l:=l) (e:=e)
  exact Nat.le_trans h1 h2
theorem take_ok1 {l : List Nat} (hl : l.length≤500000) (h : (takeC l 0).1.2 = true) : takeR l 0 = takeC l 0:=by
 have hln:=numsM_len (ms:=[1099511627776,1099511627776,1099511627776,1099511627776,1099511627776,1099511627776]) (l:=l) (e:=0)
 rw [takeC_eq] at h ⊢
 rw [takeR_eq]
 obtain ⟨a,b,c,d,f,g,r,e,hN⟩ : ∃ a b c d f g r e,numsM [1099511627776,1099511627776,1099511627776,1099511627776,1099511627776,1099511627776] l 0 = ([a,b,c,d,f,g],r,e):=⟨_,_,_,_,_,_,_,_,rfl⟩
 have hfit:=numsM_fit (ms:=[1099511627776,1099511627776,1099511627776,1099511627776,1099511627776,1099511627776]) (ms':=[8,256,256,32,1099511627776,1099511627776]) (l:=l) (e:=0)
 rw [hN] at h hln hfit ⊢
 simp only [tcC] at h ⊢
 unfold jc7 at h ⊢
 split at h
 ·cases h
 ·rename_i hh
  rw [if_neg hh]
  have he : e = 0:=Decidable.by_contra fun h1=>hh (.inl h1)
  subst he
  obtain ⟨h1,h2⟩:=jc8_ok h
  obtain ⟨r1,r2,r3,r4,r5,r6,r7⟩:=right_lims h2
  simp only at r1 r2 r3 r4 r5 r6
  rw [hfit rfl ⟨by omega,by omega,by omega,by omega,by omega,by omega,trivial⟩]
  simp only [tcR]
  rw [jHs_tHs (Nat.le_trans hln hl) h1]
theorem take_ok2 {l : List Nat} (h : (takeR l 0).1.2 = true) : takeR l 0 = takeC l 0:=by
 rw [takeR_eq] at h ⊢
 rw [takeC_eq]
 obtain ⟨a,b,c,d,f,g,r,e,hN⟩ : ∃ a b c d f g r e,numsM [8,256,256,32,1099511627776,1099511627776] l 0 = ([a,b,c,d,f,g],r,e):=⟨_,_,_,_,_,_,_,_,rfl⟩
 have hfit:=numsM_fit (ms:=[8,256,256,32,1099511627776,1099511627776]) (ms':=[1099511627776,1099511627776,1099511627776,1099511627776,1099511627776,1099511627776]) (l:=l) (e:=0)
 rw [hN] at h hfit ⊢
 simp only [tcR] at h ⊢
 obtain ⟨h1,h2⟩:=jc8_ok h
 have he:=tHs_err h1
 subst he
 obtain ⟨r1,r2,r3,r4,r5,r6,r7⟩:=right_lims h2
 simp only at r1 r2 r3 r4 r5 r6 r7
 rw [hfit rfl ⟨by omega,by omega,by omega,by omega,by omega,by omega,trivial⟩]
 simp only [tcC]
 unfold jc7
 rw [if_neg (by simp [r7]),tHs_jHs h1]
theorem takeC_no {l : List Nat} (h : ¬ (takeC l 0).1.2 = true) : (takeC l 0).1 = (zeroCH,false):=by
 rw [takeC_eq] at h ⊢
 obtain ⟨a,b,c,d,f,g,r,e,hN⟩ : ∃ a b c d f g r e,numsM [1099511627776,1099511627776,1099511627776,1099511627776,1099511627776,1099511627776] l 0 = ([a,b,c,d,f,g],r,e):=⟨_,_,_,_,_,_,_,_,rfl⟩
 rw [hN] at h ⊢
 simp only [tcC] at h ⊢
 unfold jc7 at h ⊢
 split
 ·rfl
 ·rename_i hh
  rw [if_neg hh] at h
  exact jc8_no h
theorem takeR_no {l : List Nat} (h : ¬ (takeR l 0).1.2 = true) : (takeR l 0).1 = (zeroCH,false):=by
 rw [takeR_eq] at h ⊢
 obtain ⟨a,b,c,d,f,g,r,e,hN⟩ : ∃ a b c d f g r e,numsM [8,256,256,32,1099511627776,1099511627776] l 0 = ([a,b,c,d,f,g],r,e):=⟨_,_,_,_,_,_,_,_,rfl⟩
 rw [hN] at h ⊢
 simp only [tcR] at h ⊢
 exact jc8_no h
theorem take_agree {l : List Nat} (hl : l.length≤500000) : (takeR l 0).1 = (takeC l 0).1∧((takeC l 0).1.2 = true→(takeR l 0).2 = (takeC l 0).2):=by
 by_cases h : (takeC l 0).1.2 = true
 ·rw [take_ok1 hl h];exact ⟨rfl,fun _=>rfl⟩
 ·by_cases h2 : (takeR l 0).1.2 = true
  ·rw [take_ok2 h2];exact ⟨rfl,fun _=>rfl⟩
  ·rw [takeC_no h,takeR_no h2];exact ⟨rfl,fun hh=>(by cases hh)⟩

theorem rise_last : ∀ {l : List IT},rise l→∀ (h : l.length - 1 < l.length),∀ x ∈ l,x.b≤(l[l.length - 1]).b
 | [],_,h,_,_=>absurd h (by simp)
 | [y],_,_,x,hx=>by simp at hx;subst hx;exact Int.le_refl _
 | y :: z :: l,hr,h,x,hx=>by
  have ih:=rise_last hr.2 (by simp)
  have e : (y :: z :: l)[(y :: z :: l).length - 1] = (z :: l)[(z :: l).length - 1]'(by simp):=rfl
  rw [e]
  rcases List.mem_cons.1 hx with rfl | hx
  ·have:=hr.1 z (by simp)
   have:=ih z (by simp)
   omega
  ·exact ih x hx
theorem mementoref13_Right_con (c : CH) (ok : Cin c) : Con Try.prog 79 [.agg (chC c)] [] (B (rightC c)) []:=by
 obtain ⟨ok1,ok2⟩:=ok
 refine C_mementoref13_Right nl nl ?_
 simp only [cz,A_mementoref13_Right,argL,objL,List.length_nil,zX]
 refine aS 16 (fun Q hQ=>by simp (disch:=intros;contradiction) only [zS,chC,chO,simprocAttr];exact hQ) ?_
 refine aB 80 ?_
 refine rC [] (mementoref13_shape_con c.vol c.chunk c.count c.size) ?_
 refine aM ?_
 refine rG _ _ (mementoref13_time_con c.mark) ?_
 refine RG.go fun Q hQ=>?_
 simp (disch:=intros;contradiction) only [zS,zW,simprocAttr]
 repeat refine ⟨by ((simp;done)),?_⟩
 refine hQ (RG.nil ?_)
 simp only [zX]
 refine aw_cond _ rfl trivial (fun ht=>?_) (fun hf=>?_)
 ·skip
  try simp at ht
  simp only [zX]
  refine aR 688 ?_
  refine Fin.b (.inr rfl) rfl trivial ?_
  rw [eq_comm,Bool.eq_false_iff];intro h;simp only [rightC,Bool.and_eq_true] at h;simp [h] at ht;simp [inR] at h;omega
 try simp at hf
 simp only [zX]
 have hpre : (shapeC c.vol c.chunk c.count c.size && inR c.mark 0 1099511627776 && inR c.floor 0 c.mark && decide ((c.hist.length : Int) = c.count)) = true:=by
  simp only [Bool.and_eq_true];simp [inR] at hf ⊢;simp [hf] <;> omega
 have hR : rightC c = c.hist.all (hOk c.mark c.floor c.size):=by unfold rightC;rw [hpre];rfl
 rw [hR]
 refine aR 736 ?_
 refine aw_loopK (X:={ i : Nat // i≤c.hist.length∧(c.hist.take i).all (hOk c.mark c.floor c.size) = true }) [1] (fun i=>[(3,I i.1)]) [16] (fun i=>[]) (fun i=>c.hist.length - i.1) (⟨0,by omega,rfl⟩) ?_ ?_
 ·skip
  simp only [keepS,keepE,Option.getD_some,lk_cons,lkE_cons,List.cons_append,List.nil_append,simprocAttr]
  refine Le.lit [] [] _ _ ?_ ?_ ?_ ?_
  ·simp only [zL,simprocAttr]
  ·simp only [zL,↓reduceIte]
  ·simp [rlook]
  ·(simp;done)
 rintro ⟨i,hi,hall⟩
 simp only [keepS,keepE,Option.getD_some,lk_cons,lkE_cons,List.cons_append,List.nil_append,simprocAttr]
 simp only [zX]
 refine aS 784 (fun Q hQ=>by simp (disch:=intros;contradiction) only [zS,zW,simprocAttr];exact hQ) ?_
 refine aw_cond _ rfl trivial (fun ht=>?_) (fun hf=>?_)
 ·skip
  try simp at ht
  simp only [zX]
  have hi' : i < c.hist.length:=by omega
  obtain ⟨g1,g2⟩:=ok2 _ (List.getElem_mem hi')
  have hno : hOk c.mark c.floor c.size c.hist[i] = false→c.hist.all (hOk c.mark c.floor c.size) = false:=all_bad hi'
  have hyes : hOk c.mark c.floor c.size c.hist[i] = true→(c.hist.take (i + 1)).all (hOk c.mark c.floor c.size) = true:=fun h=>by rw [all_succ hi',hall,h];rfl
  obtain ⟨l,hll⟩ : ∃ l,c.hist[i] = l:=⟨_,rfl⟩
  rw [hll] at g1 g2 hno hyes
  refine aS 896 (fun Q hQ=>by simp (disch:=first | (intros;contradiction) | omega | (simp only [zN];omega)) only [zS,zW,hrow,hll,simprocAttr];repeat refine ⟨by (omega),?_⟩;exact hQ) ?_
  by_cases hl0 : l.length = 0
  ·skip
   obtain rfl : l = []:=List.eq_nil_of_length_eq_zero hl0
   refine aBD 1024 ?_
   refine rC [] (mementoref13_HistRight_con [] (by simp)) ?_
   refine aM ?_
   refine rG _ _ (mementoref13_Prune_con [] c.floor (by simp) trivial) ?_
   refine RG.go fun Q hQ=>?_
   simp (disch:=first | (intros;contradiction) | omega | (simp only [zN];omega)) only [zS,zW,simprocAttr]
   repeat refine ⟨by ((simp;done)),?_⟩
   refine hQ (RG.nil ⟨by decide +kernel,?_⟩)
   simp only [zX]
   refine aF ?_
   have hO : hOk c.mark c.floor c.size [] = true:=rfl
   refine aR 1536 ?_
   refine aw_loopK (X:={ k : Nat // k = 0 }) [1,3,4] (fun k=>[(5,I k.1)]) [16] (fun k=>[]) (fun k=>k.1) (⟨0,rfl⟩) ?_ ?_
   ·skip
    simp only [keepS,keepE,Option.getD_some,lk_cons,lkE_cons,List.cons_append,List.nil_append,simprocAttr]
    refine Le.lit [] [] _ _ ?_ ?_ ?_ ?_
    ·simp only [zL,simprocAttr]
    ·simp only [zL,↓reduceIte]
    ·simp [rlook]
    ·(simp;done)
   rintro ⟨k,hk⟩
   simp only [keepS,keepE,Option.getD_some,lk_cons,lkE_cons,List.cons_append,List.nil_append,simprocAttr]
   simp only [zX]
   subst hk
   refine aR 1584 ?_
   refine aw_cond _ rfl trivial (fun ht=>by cases ht) (fun hf=>?_)
   simp only [zX,↓reduceIte]
   refine aS 1680 (fun Q hQ=>by simp (disch:=first | (intros;contradiction) | omega | (simp only [zN];omega)) only [zS,zW,simprocAttr];exact hQ) ?_
   refine ⟨⟨i + 1,hi',hyes hO⟩,?_,by first | omega | (simp only;omega)⟩
   refine Le.lit [] [] _ _ ?_ ?_ ?_ ?_
   ·simp only [zL,simprocAttr]
    all_goals (try ((repeat' (rfl))))
   ·simp only [zL,↓reduceIte]
   ·simp [rlook]
   ·(simp;done)
  have hl1 : l.length - 1 < l.length:=by omega
  have hw : IntKind.i64.wrap ((l.length : Int) - 1) = ((l.length - 1 : Nat) : Int):=by rw [w64 _ (by omega) (by omega)];omega
  refine aBD 1760 ?_
  refine rC [] (mementoref13_HistRight_con l g1) ?_
  refine aM ?_
  refine RG.callg _ _ [] rfl (fun hg=>⟨_,(mementoref13_Prune_con l c.floor g1 (histR_rise (by simpa using hg))),by (repeat' (first | exact tr_nil | refine tr_cons ?_ ?_ | exact tr_opt (by simpa using hg) tr_v | exact tr_opt (by simpa using hg) tr_sl)),trivial,by (exact .inr ⟨rfl,trivial⟩)⟩) ?_
  refine RG.go fun Q hQ=>?_
  simp (disch:=first | (intros;contradiction) | omega | (simp only [zN];omega)) only [zS,zW,irow,itC,hw,simprocAttr]
  repeat refine ⟨by (first | (simp;done) | (intro h;refine ⟨fun h2=>?_,h⟩;rw [h,h2];rfl) | (intro h;refine ⟨?_,h⟩;simp [] at h;omega)),?_⟩
  refine hQ (RG.nil ⟨by decide +kernel,?_⟩)
  simp only [zX]
  refine aw_cond _ rfl trivial (fun ht=>?_) (fun hf=>?_)
  ·skip
   try simp at ht
   simp only [zX]
   refine aR 2272 ?_
   refine Fin.b (.inr rfl) rfl trivial ?_
   rw [hno]
   rw [Bool.eq_false_iff];intro h;simp only [hOk,Bool.and_eq_true,decide_eq_true_eq,List.all_eq_true] at h
   have h1:=(h.2 _ (List.getElem_mem hl1)).1
   rcases ht with ht | ht
   ·simp [h] at ht
   ·omega
  try simp at hf
  simp only [zX]
  have hf' : histR l = true∧(pruneH c.floor l).length = l.length∧(l[l.length - 1]'hl1).b≤c.mark:=by
   obtain ⟨f1,f2⟩:=hf
   have f3:=f2 (by omega)
   exact ⟨f1.1,by omega,by omega⟩
  obtain ⟨q1,q2,q3⟩:=hf'
  have hle:=rise_last (histR_rise q1) hl1
  have hO : hOk c.mark c.floor c.size l = l.all fun x=>decide ((x.d.length : Int) = c.size):=by
   unfold hOk
   rw [q1,show decide ((pruneH c.floor l).length = l.length) = true by simp [q2],Bool.true_and,Bool.true_and,Bool.eq_iff_iff,List.all_eq_true,List.all_eq_true]
   refine forall₂_congr fun x hx=>?_
   have:=hle x hx
   rw [show decide (x.b≤c.mark) = true by simp;omega,Bool.true_and]
  rw [hO] at hno hyes
  refine aR 2320 ?_
  refine aw_loopK (X:={ k : Nat // k≤l.length∧((l.take k).all fun x=>decide ((x.d.length : Int) = c.size)) = true }) [1,3,4] (fun k=>[(5,I k.1)]) [16] (fun k=>[]) (fun k=>l.length - k.1) (⟨0,by omega,rfl⟩) ?_ ?_
  ·skip
   simp only [keepS,keepE,Option.getD_some,lk_cons,lkE_cons,List.cons_append,List.nil_append,simprocAttr]
   refine Le.lit [] [] _ _ ?_ ?_ ?_ ?_
   ·simp only [zL,simprocAttr]
   ·simp only [zL,↓reduceIte]
   ·simp [rlook]
   ·(simp;done)
  rintro ⟨k,hk,hka⟩
  simp only [keepS,keepE,Option.getD_some,lk_cons,lkE_cons,List.cons_append,List.nil_append,simprocAttr]
  simp only [zX]
  refine aS 2368 (fun Q hQ=>by simp (disch:=intros;contradiction) only [zS,zW,simprocAttr];exact hQ) ?_
  refine aw_cond _ rfl trivial (fun ht=>?_) (fun hf=>?_)
  ·skip
   try simp at ht
   simp only [zX]
   have hk' : k < l.length:=by omega
   refine aSD 2464 (fun Q hQ=>by simp (disch:=first | (intros;contradiction) | omega | (simp only [zN];omega)) only [zS,zW,irow,itC,simprocAttr];repeat refine ⟨by (omega),?_⟩;exact hQ) ?_
   refine aw_cond _ rfl trivial (fun ht=>?_) (fun hf=>?_)
   ·skip
    try simp at ht
    simp only [zX]
    refine aR 2640 ?_
    refine Fin.b (.inr rfl) rfl trivial ?_
    rw [hno (all_bad hk' _)]
    rw [Bool.eq_false_iff];intro h;simp only [decide_eq_true_eq] at h;omega
   try simp at hf
   simp only [zX]
   refine aS 2688 (fun Q hQ=>by simp (disch:=first | (intros;contradiction) | omega | (simp only [zN];omega)) only [zS,zW,simprocAttr];exact hQ) ?_
   refine ⟨⟨k + 1,hk',by rw [all_succ hk',hka];simp only [Bool.true_and,decide_eq_true_eq];omega⟩,?_,by first | omega | (simp only;omega)⟩
   refine Le.lit [] [] _ _ ?_ ?_ ?_ ?_
   ·simp only [zL,simprocAttr]
    all_goals (try ((repeat' (rfl))))
   ·simp only [zL,↓reduceIte]
   ·simp [rlook]
   ·(simp;done)
  try simp at hf
  simp only [zX,↓reduceIte]
  obtain rfl : k = l.length:=by omega
  rw [List.take_length] at hka
  refine aS 2768 (fun Q hQ=>by simp (disch:=first | (intros;contradiction) | omega | (simp only [zN];omega)) only [zS,zW,simprocAttr];exact hQ) ?_
  refine ⟨⟨i + 1,hi',hyes hka⟩,?_,by first | omega | (simp only;omega)⟩
  refine Le.lit [] [] _ _ ?_ ?_ ?_ ?_
  ·simp only [zL,simprocAttr]
   all_goals (try ((repeat' (rfl))))
  ·simp only [zL,↓reduceIte]
  ·simp [rlook]
  ·(simp;done)
 try simp at hf
 simp only [zX,↓reduceIte]
 obtain rfl : i = c.hist.length:=by omega
 rw [List.take_length] at hall
 refine aR 2848 ?_
 refine Fin.b (.inr rfl) rfl trivial ?_
 rw [hall]

theorem mementoref13_Take_con (l : List Nat) (e : Nat) (hr : RestOk 500000 l) :
  Con Try.prog 37 [.c (.bp 0 0)] [Rd l e] (.tup [.agg (chC (takeR l e).1.1),B (takeR l e).1.2]) [Rd (takeR l e).2.1 (takeR l e).2.2]:=by
 obtain ⟨R,hR⟩ : ∃ R,R = takeR l e:=⟨_,rfl⟩
 rw [← hR]
 unfold takeR at hR
 have c1:=mementoref1_Reader_Num_con l e 8 hr.b8 (by have:=hr.len;omega)
 have g1:=hr.num 8 e
 have k1 : (numR 8 l e).1≤8:=numR_le
 generalize numR 8 l e = q at hR c1 g1 k1
 obtain ⟨a1,l1,e1⟩:=q
 simp only at c1 g1 k1
 unfold tr1 at hR
 simp only at hR
 have c2:=mementoref1_Reader_Num_con l1 e1 256 g1.b8 (by have:=g1.len;omega)
 have g2:=g1.num 256 e1
 have k2 : (numR 256 l1 e1).1≤256:=numR_le
 generalize numR 256 l1 e1 = q at hR c2 g2 k2
 obtain ⟨a2,l2,e2⟩:=q
 simp only at c2 g2 k2
 unfold tr2 at hR
 simp only at hR
 have c3:=mementoref1_Reader_Num_con l2 e2 256 g2.b8 (by have:=g2.len;omega)
 have g3:=g2.num 256 e2
 have k3 : (numR 256 l2 e2).1≤256:=numR_le
 generalize numR 256 l2 e2 = q at hR c3 g3 k3
 obtain ⟨a3,l3,e3⟩:=q
 simp only at c3 g3 k3
 unfold tr3 at hR
 simp only at hR
 have c4:=mementoref1_Reader_Num_con l3 e3 32 g3.b8 (by have:=g3.len;omega)
 have g4:=g3.num 32 e3
 have k4 : (numR 32 l3 e3).1≤32:=numR_le
 generalize numR 32 l3 e3 = q at hR c4 g4 k4
 obtain ⟨a4,l4,e4⟩:=q
 simp only at c4 g4 k4
 unfold tr4 at hR
 simp only at hR
 have c5:=mementoref1_Reader_Num_con l4 e4 1099511627776 g4.b8 (by have:=g4.len;omega)
 have g5:=g4.num 1099511627776 e4
 have k5 : (numR 1099511627776 l4 e4).1≤1099511627776:=numR_le
 generalize numR 1099511627776 l4 e4 = q at hR c5 g5 k5
 obtain ⟨a5,l5,e5⟩:=q
 simp only at c5 g5 k5
 unfold tr5 at hR
 simp only at hR
 have c6:=mementoref1_Reader_Num_con l5 e5 1099511627776 g5.b8 (by have:=g5.len;omega)
 have g6:=g5.num 1099511627776 e5
 have k6 : (numR 1099511627776 l5 e5).1≤1099511627776:=numR_le
 generalize numR 1099511627776 l5 e5 = q at hR c6 g6 k6
 obtain ⟨a6,l6,e6⟩:=q
 simp only at c6 g6 k6
 unfold tr6 at hR
 simp only at hR
 obtain ⟨RH,hRH⟩ : ∃ x,x = tHs a3 [] l6 e6:=⟨_,rfl⟩
 rw [← hRH] at hR
 refine C_mementoref13_Take nl nl ?_
 simp only [cz,A_mementoref13_Take,argL,objL,List.length_nil,List.length_cons,Nat.zero_add,zX]
 refine aR 16 ?_
 refine aR 80 ?_
 refine aB 128 ?_
 refine rO [0] [] (c1) ?_
 refine aEs (fun Q hQ=>by simp (disch:=first | (intros;contradiction) | omega | (simp only [zN];omega)) only [zS,zW,simprocAttr];exact hQ) ?_
 refine aB 240 ?_
 refine rO [0] [] (c2) ?_
 refine aEs (fun Q hQ=>by simp (disch:=first | (intros;contradiction) | omega | (simp only [zN];omega)) only [zS,zW,simprocAttr];exact hQ) ?_
 refine aB 352 ?_
 refine rO [0] [] (c3) ?_
 refine aEs (fun Q hQ=>by simp (disch:=first | (intros;contradiction) | omega | (simp only [zN];omega)) only [zS,zW,simprocAttr];exact hQ) ?_
 refine aB 464 ?_
 refine rO [0] [] (c4) ?_
 refine aEs (fun Q hQ=>by simp (disch:=first | (intros;contradiction) | omega | (simp only [zN];omega)) only [zS,zW,simprocAttr];exact hQ) ?_
 refine aB 576 ?_
 refine rO [0] [] (c5) ?_
 refine aEs (fun Q hQ=>by simp (disch:=first | (intros;contradiction) | omega | (simp only [zN];omega)) only [zS,zW,simprocAttr];exact hQ) ?_
 refine aB 688 ?_
 refine rO [0] [] (c6) ?_
 refine aEs (fun Q hQ=>by simp (disch:=first | (intros;contradiction) | omega | (simp only [zN];omega)) only [zS,zW,simprocAttr];exact hQ) ?_
 refine aR 800 ?_
 refine aw_loopK (X:={ x : Nat × List (List IT) × List Nat × Nat // x.1≤a3∧GH 500000 x.1 x.2.1∧RestOk 500000 x.2.2.1∧tHs (a3 - x.1) x.2.1 x.2.2.1 x.2.2.2 = RH }) [0,2,4] (fun x=>[(5,I x.1.1)]) [16] (fun x=>[(0,Rd x.1.2.2.1 x.1.2.2.2),(80,.box [.v (.int .i64 a1),.v (.int .i64 a2),.v (.int .i64 a3),.v (.int .i64 a4),.v (.int .i64 a5),.v (.int .i64 a6),.osl 5000]),(5000,.arr 101 1 (x.1.2.1.map hrow) false)]) (fun x=>a3 - x.1.1) (⟨(0,[],l6,e6),by simp only;omega,⟨Nat.le_refl _,fun w hw=>by cases hw⟩,g6,hRH.symm⟩) ?_ ?_
 ·skip
  simp only [keepS,keepE,Option.getD_some,lk_cons,lkE_cons,List.cons_append,List.nil_append,simprocAttr]
  refine (Le.ownB 80 6 5000 _ 101 1 rfl rfl rfl (by decide)).trans ?_
  simp only [List.set_cons_succ,List.set_cons_zero,setE_cons,setE_nil,simprocAttr]
  refine Le.lit [] [] _ _ ?_ ?_ ?_ ?_
  ·simp only [zL,simprocAttr]
  ·simp only [zL,simprocAttr]
   all_goals (try ((repeat' (((simp [C.isD];done))))))
  ·simp [rlook]
  ·(intro k hk;simp [rlook];omega)
 rintro ⟨⟨i,acc,la,ea⟩,u1,u2,u3,u4⟩
 simp only [keepS,keepE,Option.getD_some,lk_cons,lkE_cons,List.cons_append,List.nil_append,simprocAttr]
 simp only [zX]
 simp only at u1 u2 u3 u4
 refine aR 848 ?_
 refine aw_cond _ rfl trivial (fun ht=>?_) (fun hf=>?_)
 ·skip
  try simp at ht
  simp only [zX]
  obtain ⟨d,hd⟩ : ∃ d,a3 - i = d + 1:=⟨a3 - i - 1,by omega⟩
  obtain rfl : ea = 0:=by omega
  rw [hd] at u4
  unfold tHs at u4
  rw [if_pos rfl] at u4
  have v0:=u3.len
  have cM:=mementoref1_Reader_Num_con la 0 2147483648 u3.b8 (by omega)
  have v1:=u3.num 2147483648 0
  have v2 : (numR 2147483648 la 0).1≤2147483648:=numR_le
  obtain ⟨W,hW⟩ : ∃ W,W = jH 2147483648 la 0:=⟨_,rfl⟩
  rw [← hW] at u4
  unfold jH at hW
  generalize numR 2147483648 la 0 = q at hW cM v1 v2
  obtain ⟨m,lc,ec⟩:=q
  simp only at cM v1 v2
  unfold jH1 at hW
  simp only at hW
  have v3:=v1.len
  refine aR 1056 ?_
  refine aB 1104 ?_
  refine rO [0] [] (cM) ?_
  refine aE ?_
  refine aR 1184 ?_
  refine aw_loopK (X:={ x : Nat × List IT × List Nat × Nat // x.1≤m∧GI 500000 500001 x.2.1∧RestOk 500000 x.2.2.1∧x.2.1.length + x.2.2.1.length≤lc.length + (if x.2.2.2 = 0 then 0 else 1)∧jV (m - x.1) x.2.1 x.2.2.1 x.2.2.2 = W }) [0,2,4,5,7] (fun x=>[(6,.c (.osl 5001)),(8,.c (.v (.int .u64 x.1.1)))]) [16,80,5000] (fun x=>[(0,Rd x.1.2.2.1 x.1.2.2.2),(5001,.arr 111 2 (x.1.2.1.map irow) false)]) (fun x=>m - x.1.1) (⟨(0,[],lc,ec),by simp only;omega,⟨by simp,fun w hw=>(by cases hw),fun w hw=>(by cases hw)⟩,v1,by simp,hW.symm⟩) ?_ ?_
  ·skip
   simp only [keepS,keepE,Option.getD_some,lk_cons,lkE_cons,List.cons_append,List.nil_append,simprocAttr]
   refine (Le.own 6 5001 111 2 rfl rfl (by decide)).trans ?_
   simp only [setS_cons,setE_cons,setE_nil,simprocAttr]
   refine Le.lit [] [] _ _ ?_ ?_ ?_ ?_
   ·simp only [zL,simprocAttr]
   ·simp only [zL,simprocAttr]
    all_goals (try ((repeat' (first | (first | exact drows_hrow _ | (simp [C.isD];done)) | refine ⟨?_,?_⟩))))
   ·simp [rlook]
   ·(intro k hk;simp [rlook];omega)
  rintro ⟨⟨k,its,ld,ed⟩,x1,x2,x3,xb,x4⟩
  simp only [keepS,keepE,Option.getD_some,lk_cons,lkE_cons,List.cons_append,List.nil_append,simprocAttr]
  simp only [zX]
  simp only at x1 x2 x3 xb x4
  have u2l:=u2.1
  have xbl : its.length≤500001:=x2.1
  refine aR 1232 ?_
  refine aw_cond _ rfl trivial (fun ht=>?_) (fun hf=>?_)
  ·skip
   try simp at ht
   simp only [zX]
   obtain rfl : ed = 0:=by omega
   obtain ⟨j,hj⟩ : ∃ j,m - k = j + 1:=⟨m - k - 1,by omega⟩
   rw [hj] at x4
   unfold jV at x4
   rw [if_pos rfl] at x4
   have y0:=x3.len
   have y1:=x3.num 1099511627776 0
   have y2 : (numR 1099511627776 ld 0).1≤1099511627776:=numR_le
   have y7:=numR_less (most:=1099511627776) (l:=ld)
   have cB:=mementoref1_Reader_Num_con ld 0 1099511627776 x3.b8 (by omega)
   generalize numR 1099511627776 ld 0 = q at x4 y1 y2 y7 cB
   obtain ⟨b,lf,ef⟩:=q
   simp only at x4 y1 y2 y7 cB
   have y3:=y1.len
   have y4:=y1.lump 32 ef
   have y5:=(lumpR_mem (most:=32) (e:=ef) y1.b8).1
   have y6:=lumpR_len (most:=32) (l:=lf) (e:=ef)
   have y8 : ef≠0→(lumpR 32 lf ef).2.2≠0:=fun h=>by rw [lumpR_bad h];exact h
   have cL:=mementoref1_Reader_Lump_con lf ef 32 y1.b8 (by omega) (by omega)
   generalize lumpR 32 lf ef = q at x4 y4 y5 y6 y8 cL
   obtain ⟨bs,lg,eg⟩:=q
   simp only at x4 y4 y5 y6 y8 cL
   rw [if_pos rfl] at xb
   have hb2 : its.length + 1 + lg.length≤lc.length + (if eg = 0 then 0 else 1):=by
    rcases y7 with ⟨h1,h2⟩ | ⟨h1,h2⟩
    ·split <;> omega
    ·rw [if_neg (y8 h1)]
     have : lf.length = 0:=by rw [h2];rfl
     omega
   have hb3 : its.length≤500000:=by omega
   refine aB 1424 ?_
   refine rO [0] [] (cB) ?_
   refine aEs (fun Q hQ=>by simp (disch:=first | (intros;contradiction) | omega | (simp only [zN];omega)) only [zS,zW,simprocAttr];exact hQ) ?_
   refine aB 1520 ?_
   refine rO [0] [] (cL) ?_
   refine RG.go fun Q hQ=>?_
   simp (disch:=intros;contradiction) only [zS,zW,simprocAttr]
   repeat refine ⟨by (first | exact ⟨by (intro q hq;obtain ⟨_,_,rfl⟩:=List.mem_map.1 hq;rfl),by omega⟩ | (simp;omega)),?_⟩
   refine hQ (RG.nil ?_)
   simp only [zX]
   refine aS 1696 (fun Q hQ=>by simp (disch:=first | (intros;contradiction) | omega | (simp only [zN];omega)) only [zS,zW,simprocAttr];exact hQ) ?_
   refine ⟨⟨(k + 1,its ++ [⟨(b : Int),bs⟩],lg,eg),by simp only;omega,⟨by simp;omega,(x2.snoc (x:=⟨(b : Int),bs⟩) y5 (by simp only;omega)).2⟩,y4,by simp only [List.length_append,List.length_singleton];exact hb2,by simp only;rw [show m - (k + 1) = j by omega];exact x4⟩,?_,by first | omega | (simp only;omega)⟩
   refine (Le.tell [1584] 1632 111 2 _ ((its ++ [(⟨(b : Int),bs⟩ : IT)]).map irow) false rfl (by rw [List.map_append];refine tell_app ?_ _;exact ⟨⟨.inl rfl,.inr (.inr ⟨_,_,_,_,rfl,rfl,rfl,drows_brow _⟩),trivial⟩,trivial⟩)).trans ?_
   refine Le.lit [] [(5001,1632)] _ _ ?_ ?_ ?_ ?_
   ·simp only [zL,simprocAttr]
    all_goals (try ((repeat' (rfl))))
   ·simp only [zL,simprocAttr]
    all_goals (try ((repeat' (first | (first | exact drows_hrow _ | exact drows_irow _) | refine ⟨?_,?_⟩))))
   ·simp [rlook]
   ·(intro k hk;simp [rlook];omega)
  try simp at hf
  simp only [zX,↓reduceIte]
  have x4 : (its,ld,ed) = W:=by
   rw [← x4]
   cases hmi : m - k with
   | zero=>rfl
   | succ d=>unfold jV;rw [if_neg (by omega)]
  rw [← x4] at u4
  simp only at u4
  refine aS 1776 (fun Q hQ=>by simp (disch:=intros;contradiction) only [zS,zW,simprocAttr];repeat refine ⟨by ((simp;omega)),?_⟩;exact hQ) ?_
  refine aS 1920 (fun Q hQ=>by simp (disch:=first | (intros;contradiction) | omega | (simp only [zN];omega)) only [zS,zW,simprocAttr];exact hQ) ?_
  refine ⟨⟨(i + 1,acc ++ [its],ld,ed),by simp only;omega,u2.snoc ⟨by omega,x2.2⟩,x3,by simp only;rw [show a3 - (i + 1) = d by omega];exact u4⟩,?_,by first | omega | (simp only;omega)⟩
  refine (Le.tell [5001] 1840 101 1 _ ((acc ++ [its]).map hrow) false rfl (by rw [List.map_append];refine tell_app ?_ _;exact ⟨⟨.inr (.inr ⟨_,_,_,_,rfl,rfl,rfl,drows_irow _⟩),trivial⟩,trivial⟩)).trans ?_
  refine Le.lit [] [(5000,1840)] _ _ ?_ ?_ ?_ ?_
  ·simp only [zL,simprocAttr]
   all_goals (try ((repeat' (rfl))))
  ·simp only [zL,simprocAttr]
   all_goals (try ((repeat' ((exact drows_hrow _)))))
  ·simp [rlook]
  ·(intro k hk;simp [rlook];omega)
 try simp at hf
 simp only [zX,↓reduceIte]
 have u4 : (acc,la,ea) = RH:=by
  rw [← u4]
  cases hmi : a3 - i with
  | zero=>rfl
  | succ d=>unfold tHs;rw [if_neg (by omega)]
 subst u4
 have hcin : Cin ⟨a1,a2,a3,a4,a5,a6,acc⟩:=GH.cin (n:=500000) (k:=1000) (Nat.le_refl _) (Nat.le_refl _) ⟨by have:=u2.1;simp only;omega,u2.2⟩
 have cR:=mementoref13_Right_con ⟨a1,a2,a3,a4,a5,a6,acc⟩ hcin
 unfold jc8 at hR
 simp only at hR
 refine aB 2000 ?_
 refine RG.callg _ _ [5000] rfl (fun hg=>⟨_,cR,tr_cons (tr_opt (by simpa using hg) (tr_agg (by (repeat' (first | exact trivial | rfl | (refine ⟨by simp,_,_,_,rfl,?_⟩;(exact drows_hrow _)) | refine ⟨?_,?_⟩))))) tr_nil,views1 rfl trivial,by exact .inl trivial⟩) ?_
 refine aEs (fun Q hQ=>by simp (disch:=intros;contradiction) only [zS,simprocAttr];repeat refine ⟨by ((simp;done)),?_⟩;exact hQ) ?_
 refine aw_cond _ rfl trivial (fun ht=>?_) (fun hf=>?_)
 ·skip
  try simp at ht
  simp only [zX]
  rw [if_pos (by
   rcases ht with ht | ht
   ·exact .inl (by omega)
   ·exact .inr (by simpa using ht))] at hR
  rw [hR]
  refine aR 2192 ?_
  refine Fin.objs [] [] (.inr rfl) rfl (by exact ⟨trivial,trivial⟩) ?_ ?_ (by simp [objL,rlook]) (by (simp [objL,rlook];done))
  ·simp only [zL,simprocAttr]
   all_goals ((repeat' (first | exact trivial | rfl | refine ⟨?_,?_⟩)))
  ·simp only [zL,↓reduceIte]
 try simp at hf
 simp only [zX]
 rw [if_neg (by
  intro h
  rcases h with h | h
  ·simp [h] at hf
  ·simp [h] at hf)] at hR
 rw [hR]
 refine aR 2272 ?_
 refine Fin.objs [5000] [] (.inr rfl) rfl (by exact ⟨trivial,trivial⟩) ?_ ?_ (by simp [objL,rlook]) (by (simp [objL,rlook];done))
 ·simp only [zL,simprocAttr]
  all_goals ((repeat' (first | exact trivial | rfl | (refine ⟨⟨_,_,rfl⟩,?_⟩;(exact drows_hrow _)) | refine ⟨?_,?_⟩)))
 ·simp only [zL,simprocAttr]

end Go.Abs

namespace Go.Abs
open Go Go.Proofs
set_option maxRecDepth 100000
set_option linter.unusedSimpArgs false
set_option maxHeartbeats 8000000

theorem prow_data (all : List (List Nat)) : isDRows (all.map prow):=by
 intro r hr c hc
 obtain ⟨p,_,rfl⟩:=List.mem_map.1 hr
 simp only [prow,List.mem_singleton] at hc
 subst hc;rfl
def xorB (a b : Nat) : Nat:=(bitsI .xor .u8 a b).toNat
theorem xorB_eq (a b : Nat) : bitsI .xor .u8 (a : Int) (b : Int) = ((xorB a b : Nat) : Int)∧xorB a b < 256:=by
 have h : ∀ n : Int,0≤IntKind.u8.wrap n∧IntKind.u8.wrap n < 256:=fun n=>by rw [w_u8];omega
 have h1 : 0≤bitsI .xor .u8 (a : Int) (b : Int)∧bitsI .xor .u8 (a : Int) (b : Int) < 256:=h _
 unfold xorB
 omega
theorem RestOk.set {m : Nat} {l : List Nat} (hl : RestOk m l) {k : Nat} {n : Nat} (hn : n < 256) : RestOk m (l.set k n) :=
 ⟨fun c hc=>by rcases List.mem_or_eq_of_mem_set hc with h | h;exact hl.b8 c h;rw [h];exact hn,by rw [List.length_set];exact hl.len⟩
theorem RestOk.take {m : Nat} {l : List Nat} (hl : RestOk m l) (k : Nat) : RestOk m (l.take k) :=
 ⟨fun c hc=>hl.b8 c (List.mem_of_mem_take hc),by have:=hl.len;simp;omega⟩

theorem chB_by {c : CH} (hc : byH c.hist) : ∀ x ∈ chB c,x < 256:=by
 intro x hx
 unfold chB at hx
 rcases List.mem_append.1 hx with hx | hx
 ·exact putS_by _ x hx
 ·obtain ⟨h,hh,hx⟩:=List.mem_flatMap.1 hx
  unfold itemsB at hx
  rcases List.mem_append.1 hx with hx | hx
  ·exact putS_by _ x hx
  ·obtain ⟨y,hy,hx⟩:=List.mem_flatMap.1 hx
   unfold itB at hx
   rcases List.mem_append.1 hx with hx | hx
   ·exact putS_by _ x hx
   ·rcases List.mem_append.1 hx with hx | hx
    ·exact num7_by _ x hx
    ·exact hc h hh y hy x hx
theorem itsB_lim2 : ∀ (l : List IT),(∀ x ∈ l,x.d.length≤32)→(itsB l).length≤l.length * 52
 | [],_=>by simp [itsB]
 | x :: l,h=>by
  have h1:=itB_len x (by have:=h x (by simp);omega)
  have h2:=itsB_lim2 l fun y hy=>h y (by simp [hy])
  have h3:=h x (by simp)
  have : itsB (x :: l) = itB x ++ itsB l:=rfl
  rw [this,List.length_append,List.length_cons];omega
theorem hsB_len2 : ∀ (H : List (List IT)),(∀ h ∈ H,h.length≤20∧∀ x ∈ h,x.d.length≤32)→(hsB H).length≤H.length * 1050
 | [],_=>by simp [hsB]
 | l :: H,h=>by
  have h0:=h l (by simp)
  have h1:=itsB_lim2 l h0.2
  have h3:=putS1_len l.length
  have h2:=hsB_len2 H fun y hy=>h y (by simp [hy])
  have : hsB (l :: H) = itemsB l ++ hsB H:=rfl
  have e2 : itemsB l = putS [u64N l.length] ++ itsB l:=rfl
  rw [this,e2,List.length_append,List.length_append,List.length_cons];omega
theorem chB_lim {v : VOL} (hr : rightV v = true) (h8 : byW v.ws) (hl : v.ws.length≤20) {k : Int} (hk0 : 0≤k) (hk1 : k < v.place.length) {m : Nat} (hm : m≤v.ws.length) : (chB (chG v k m)).length≤300000:=by
 have hcok:=chF_cok hr h8 (by omega) hk0 hk1 hm (f:=min v.floor m) (Nat.le_refl m)
 have h1:=hcok.len
 have h2:=hcok.cnt
 have hsz : v.size≤32:=by
  have:=(kfacts hr hk0 hk1)
  obtain ⟨f0,c0,a1,a2,a3,a4,a5,a6,a7,a8,a9⟩:=this
  omega
 have h3:=hsB_len2 (chG v k m).hist fun h hh=>by
  obtain ⟨b1,b2,b3,b4⟩:=chF_mem hr h8 (by omega) hk0 hk1 hm (f:=min v.floor m) h hh
  exact ⟨by omega,fun x hx=>by have:=(b2 x hx).2.1;omega⟩
 have h4:=numsL_len [(chG v k m).vol,(chG v k m).chunk,(chG v k m).count,(chG v k m).size,(chG v k m).mark,(chG v k m).floor]
 simp only [List.length_cons,List.length_nil] at h4
 unfold chB
 rw [List.length_append]
 have h1' : (chG v k m).hist.length≤256:=by
  have e1 : (chG v k m).hist.length≤256:=by
   show (chF v k m (min v.floor m)).hist.length≤256
   omega
  exact e1
 omega

theorem jV_ok {n : Nat} : ∀ {k : Nat} {acc : List IT} {l : List Nat} {e : Nat},RestOk n l→byI acc→RestOk n (jV k acc l e).2.1∧byI (jV k acc l e).1
 | 0,acc,l,e,h,ha=>by unfold jV;exact ⟨h,ha⟩
 | k + 1,acc,l,e,h,ha=>by
  unfold jV
  split
  ·have y1:=h.num 1099511627776 e
   have y5:=(lumpR_mem (most:=32) (e:=(numR 1099511627776 l e).2.2) y1.b8).1
   refine jV_ok (y1.lump 32 _) fun y hy=>?_
   rcases List.mem_append.1 hy with hy | hy
   ·exact ha y hy
   ·simp only [List.mem_singleton] at hy;subst hy;exact y5
  ·exact ⟨h,ha⟩
theorem jH_ok {n m : Nat} {l : List Nat} {e : Nat} (h : RestOk n l) : RestOk n (jH m l e).2.1∧byI (jH m l e).1:=jV_ok (h.num m e) fun x hx=>by cases hx
theorem jHs_ok {n : Nat} : ∀ {k : Nat} {acc : List (List IT)} {l : List Nat} {e : Nat},RestOk n l→(∀ h ∈ acc,h.length≤n∧byI h)→(jHs k acc l e).2.2 = 0→∀ h ∈ (jHs k acc l e).1,h.length≤n∧byI h
 | 0,acc,l,e,_,ha,_=>by unfold jHs;exact ha
 | k + 1,acc,l,e,hl,ha,he=>by
  unfold jHs at he ⊢
  have h1:=jHs_err he
  have h2:=jH_rest h1
  have h3:=(jV_len (show (jV (numR 1099511627776 l e).1 [] (numR 1099511627776 l e).2.1 (numR 1099511627776 l e).2.2).2.2 = 0 from h1)).1
  have h3' : (jH 1099511627776 l e).1.length = (numR 1099511627776 l e).1:=by
   have : (jH 1099511627776 l e).1.length = ([] : List IT).length + (numR 1099511627776 l e).1:=h3
   simpa using this
  have h4:=hl.len
  have h5:=jH_ok (m:=1099511627776) (e:=e) hl
  refine jHs_ok h5.1 (fun h hh=>?_) he
  rcases List.mem_append.1 hh with hh | hh
  ·exact ha h hh
  ·simp only [List.mem_singleton] at hh;subst hh;exact ⟨by omega,h5.2⟩
theorem numsM_ok {n : Nat} : ∀ {ms : List Nat} {l : List Nat} {e : Nat},RestOk n l→RestOk n (numsM ms l e).2.1
 | [],_,_,h=>h
 | m :: ms,l,e,h=>numsM_ok (ms:=ms) (h.num m e)
theorem zeroCH_in : Cin zeroCH∧byH zeroCH.hist:=⟨⟨by simp [zeroCH],fun h hh=>by simp [zeroCH] at hh⟩,fun h hh=>by simp [zeroCH] at hh⟩
theorem takeC_in {l : List Nat} (hl : RestOk 500000 l) : Cin (takeC l 0).1.1∧byH (takeC l 0).1.1.hist:=by
 have hln:=numsM_ok (ms:=[1099511627776,1099511627776,1099511627776,1099511627776,1099511627776,1099511627776]) (e:=0) hl
 rw [takeC_eq]
 obtain ⟨a,b,c,d,f,g,r,e,hN⟩ : ∃ a b c d f g r e,numsM [1099511627776,1099511627776,1099511627776,1099511627776,1099511627776,1099511627776] l 0 = ([a,b,c,d,f,g],r,e):=⟨_,_,_,_,_,_,_,_,rfl⟩
 rw [hN] at hln ⊢
 simp only [tcC] at hln ⊢
 unfold jc7
 split
 ·exact zeroCH_in
 unfold jc8
 split
 ·exact zeroCH_in
 rename_i hh
 have he : (jHs c [] r e).2.2 = 0:=Decidable.by_contra fun h1=>hh (.inl h1)
 have hR : rightC ⟨a,b,c,d,f,g,(jHs c [] r e).1⟩ = true:=by
  cases hr : rightC ⟨a,b,c,d,f,g,(jHs c [] r e).1⟩ with
  | true=>rfl
  | false=>exact absurd (.inr hr) hh
 have hall:=jHs_ok hln (fun h hh=>by cases hh) he
 obtain ⟨r1,r2,r3,r4,r5,r6,r7⟩:=right_lims hR
 simp only [rightC,Bool.and_eq_true,decide_eq_true_eq,List.all_eq_true] at hR
 simp only at r3 r4 hR
 refine ⟨⟨by simp only;omega,fun h hh=>⟨by have:=(hall h hh).1;omega,fun x hx=>?_⟩⟩,fun h hh=>(hall h hh).2⟩
 have:=hR.2 h hh
 simp only [hOk,Bool.and_eq_true,decide_eq_true_eq,List.all_eq_true] at this
 have:=(this.2 x hx).2
 omega

theorem pushB_inv {p : PU} (h : ∀ x ∈ pushB p,x < 256) : byW p.ws:=fun w hw x hx c hc=>h c (by
 unfold pushB
 refine List.mem_append.2 (.inr (List.mem_flatMap.2 ⟨w,hw,?_⟩))
 unfold wB itemsB
 refine List.mem_append.2 (.inr (List.mem_append.2 (.inr (List.mem_flatMap.2 ⟨x,hx,?_⟩))))
 unfold itB
 exact List.mem_append.2 (.inr (List.mem_append.2 (.inr hc))))
theorem readP_ok {l : List Nat} (h : ∀ c ∈ l,c < 256) : ((readP l).1.ws.length≤1000000∧∀ w ∈ (readP l).1.ws,w.its.length≤1000000)∧byW (readP l).1.ws:=by
 unfold readP
 split
 ·rename_i hh
  obtain ⟨q1,q2,q3,q4,q5⟩:=pushR_facts hh.1
  exact ⟨⟨by simp only;omega,fun w hw=>by have:=(itemsR_len (q5 w hw).2.2).2;omega⟩,pushB_inv (by rw [hh.2];exact h)⟩
 ·exact ⟨⟨by simp [zeroP],fun w hw=>by simp [zeroP] at hw⟩,fun w hw=>by simp [zeroP] at hw⟩
theorem pushB_len2 {p : PU} (h : pushR p = true) : (pushB p).length≤100000:=by
 obtain ⟨q1,q2,q3,q4,q5⟩:=pushR_facts h
 have h1:=numsL_len [p.vol,p.chunk,p.count,p.size,p.frm,p.to,p.floor,p.ws.length]
 have h2:=pwB_len (count:=p.count) q1.2.2.2.2 p.ws (fun w hw=>(q5 w hw).2.2)
 simp only [List.length_cons,List.length_nil] at h1
 unfold pushB;rw [List.length_append];omega
theorem putP_rest {p : PU} (h : byW p.ws) : RestOk 100000 (putP p).1:=by
 refine ⟨putP_by p h,?_⟩
 unfold putP
 split
 ·rename_i h;exact pushB_len2 h
 ·simp

theorem ChunkBytes_con (l : List Nat) (n mark : Nat) (raw : List Nat) (at' x : Nat) (h8 : ∀ c ∈ l,c < 256) (hn : n < 256) (hm : mark < 256) (hr8 : ∀ c ∈ raw,c < 256) (hat : at' < 65536) (hx : x < 256) :
  Con Try.prog 7 [.c (.sl (l.map brow)),.c (.v (.int .u8 n)),.c (.v (.int .u8 mark)),.c (.sl (raw.map brow)),.c (.v (.int .u16 at')),.c (.v (.int .u8 x))] [] (B true) []:=by
 refine C_mementolaw14_ChunkBytes nl nl ?_
 simp only [cz,A_mementolaw14_ChunkBytes,argL,objL,List.length_nil,Nat.zero_add,zX,simprocAttr]
 refine aR 16 ?_
 refine aBs 64 (fun Q hQ=>by simp (disch:=intros;contradiction) only [zS,↓reduceIte];exact hQ) ?_
 refine rC [] (mementolaw14_known_con) ?_
 refine aE ?_
 refine aF ?_
 refine aS 128 (fun Q hQ=>by simp (disch:=intros;contradiction) only [zS,zW,simprocAttr];repeat refine ⟨by ((simp;done)),?_⟩;exact hQ) ?_
 refine aw_cond _ rfl trivial (fun ht=>?_) (fun hf=>?_)
 ·skip
  try simp at ht
  simp only [zX]
  refine aR 288 ?_
  refine Fin.b (.inr rfl) rfl trivial ?_
  rfl
 try simp at hf
 simp only [zX]
 have hl : l.length≤60∧raw.length≤80:=by omega
 have cU:=lawPush_con l n mark h8 (by omega) hn hm
 have g0:=(seatV_good l).mono (show l.length / 4≤20 by omega)
 generalize seatV l = v at cU g0
 have hr:=g0.right
 have hg:=g0.mono (show 20≤50000 by omega)
 have hw8:=g0.by8
 have hwl:=g0.ws
 have hlen : lenV v = (v.ws.length : Int):=rfl
 have hk1:=kN_lt hr n
 generalize kN v n = k at cU hk1
 have hk0 : (0 : Int)≤(k : Int):=by omega
 have hmk' : mN v mark≤v.ws.length:=by
  have:=Nat.mod_lt mark (show v.ws.length + 1 > 0 by omega)
  unfold mN;omega
 generalize mN v mark = mp at cU hmk'
 have cC:=Chunk_con v k ((mark : Int) % 20) 50000 hg (Nat.le_refl _) hk0 hk1
 obtain ⟨m,hme⟩ : ∃ m,m = seatM v ((mark : Int) % 20):=⟨_,rfl⟩
 have hml : m≤v.ws.length:=by rw [hme];exact seatM_le _ _
 rw [← hme] at cC
 have hpok:=chG_push_ok hr hw8 (by omega) hk0 hk1 hml (m':=mp) (by omega) (by omega) hg
 generalize pushP v k mp = p at cU hpok
 have hcsm:=chF_csm hr hw8 (by omega) hk0 hk1 hml (f:=min v.floor m)
 have hcby:=chF_by hr hw8 (by omega) hk0 hk1 hml (f:=min v.floor m)
 have hcl:=chB_lim hr hw8 (by omega) hk0 hk1 hml
 have hd8:=chB_by hcby
 have cPP:=mementoref13_PutPush_con p hpok.1
 have hpr:=putP_rest hpok.2
 generalize putP p = pp at cPP hpr
 obtain ⟨pb,pe⟩:=pp
 simp only at cPP hpr
 have cP1:=(mementoref13_Put_con _ hcsm).rows (drows_brow _)
 have cP2:=(chunk_Put_con _ hcsm).rows (drows_brow _)
 have hcl' : (chB (chF v k m (min v.floor m))).length≤300000:=hcl
 have hs:=str_eq (chB (chF v k m (min v.floor m))) (chB (chF v k m (min v.floor m))) hd8 hd8
 have hD : RestOk 300000 (chB (chF v k m (min v.floor m))):=⟨hd8,hcl⟩
 generalize hdd : chB (chF v k m (min v.floor m)) = d at cP1 cP2 hs hD hcl' hd8
 unfold chG at cC
 generalize chF v k m (min v.floor m) = ch at cP1 cP2 cC
 refine aB 336 ?_
 refine rC [] (cU) ?_ (hs:=(by exact .inr ⟨lawPush_pure _ _ _,trivial⟩))
 refine aEs (fun Q hQ=>by simp (disch:=intros;contradiction) only [zS,vC_eq,pushC,puC,simprocAttr];exact hQ) ?_
 refine aw_reg 576 (RG.go fun Q hQ=>?_)
 simp (disch:=first | (intros;contradiction) | omega | (simp only [zN];omega)) only [zS,zW,simprocAttr]
 repeat refine ⟨by (omega),?_⟩
 refine hQ ?_
 refine rC [] (cC) ?_ (hs:=(by exact .inr ⟨chC_pure _,trivial⟩))
 refine aEs (fun Q hQ=>by simp (disch:=intros;contradiction) only [zS,chC,chO,simprocAttr];exact hQ) ?_
 refine aB 736 ?_
 refine rC [] (cPP) ?_ (hs:=(by exact .inr ⟨pureTC,trivial⟩))
 refine aE ?_
 refine aB 880 ?_
 refine rC [] (cP1) ?_
 refine aE ?_
 refine aBD 960 ?_
 refine rC [] (cP2) ?_
 refine RG.go fun Q hQ=>?_
 simp (disch:=intros;contradiction) only [zS,simprocAttr]
 repeat refine ⟨by (exact isByteRow_brow _),?_⟩
 refine hQ (RG.nil ⟨by decide +kernel,?_⟩)
 simp only [zX]
 refine aw_cond _ rfl trivial (fun ht=>by simp at ht) (fun hf=>?_)
 simp only [zX]
 obtain ⟨ys,hys⟩ : ∃ ys : List (List Nat),ys = [pb,d,raw,d ++ raw]:=⟨_,rfl⟩
 have hyl : ys.length = 4:=by rw [hys];rfl
 have hyall : ∀ y ∈ ys,RestOk 400000 y:=fun y hy=>by
  rw [hys] at hy
  simp only [List.mem_cons,List.not_mem_nil,or_false] at hy
  rcases hy with rfl | rfl | rfl | rfl
  ·exact ⟨hpr.b8,by have:=hpr.len;omega⟩
  ·exact ⟨hD.b8,by omega⟩
  ·exact ⟨hr8,by omega⟩
  ·exact ⟨fun c hc=>by rcases List.mem_append.1 hc with hc | hc;exact hD.b8 c hc;exact hr8 c hc,by simp;omega⟩
 have e0 : d.map brow ++ raw.map brow = (d ++ raw).map brow:=by rw [List.map_append]
 refine aw_reg 1088 (RG.go fun Q hQ=>?_)
 simp (disch:=intros;contradiction) only [zS,zW,e0,simprocAttr]
 repeat refine ⟨by (exact ⟨by (intro q hq;obtain ⟨_,_,rfl⟩:=List.mem_map.1 hq;rfl),by omega⟩),?_⟩
 refine hQ (RG.nil ?_)
 simp only [zX]
 refine aw_loopK (X:={ j : Nat // j≤4 }) [4,5,79,80] (fun j=>[(81,I j.1)]) [] (fun j=>[(1200,.arr 22 1 (ys.map prow) false)]) (fun j=>4 - j.1) (⟨0,by omega⟩) ?_ ?_
 ·skip
  simp only [keepS,keepE,lk_cons,List.cons_append,List.nil_append,simprocAttr]
  refine (Le.tell [1184] 1200 22 1 _ (ys.map prow) false rfl (by rw [hys];exact ⟨⟨.inl rfl,trivial⟩,⟨.inl rfl,trivial⟩,⟨.inl rfl,trivial⟩,⟨.inr (.inr ⟨_,_,_,_,rfl,rfl,rfl,drows_brow _⟩),trivial⟩,trivial⟩)).trans ?_
  refine Le.lit [] [] _ _ ?_ ?_ ?_ ?_
  ·simp only [zL,simprocAttr]
  ·simp only [zL,simprocAttr]
   all_goals (try ((repeat' ((exact prow_data _)))))
  ·simp [rlook]
  ·(simp;done)
 rintro ⟨j,hj⟩
 simp only [keepS,keepE,lk_cons,List.cons_append,List.nil_append,simprocAttr]
 simp only [zX]
 refine aR 1280 ?_
 refine aw_cond _ rfl trivial (fun ht=>?_) (fun hf=>?_)
 ·skip
  try simp at ht
  simp only [zX]
  have hj' : j < ys.length:=by omega
  obtain ⟨y,hy⟩ : ∃ y,ys[j] = y:=⟨_,rfl⟩
  have hyr:=hyall y (by rw [← hy];exact List.getElem_mem hj')
  have hyl2:=hyr.len
  obtain ⟨z,hz⟩ : ∃ z,z = y ++ [0]:=⟨_,rfl⟩
  have hzl : z.length = y.length + 1:=by rw [hz];simp
  have e1 : y.map brow ++ [[C.v (Value.int IntKind.u8 0)]] = z.map brow:=by rw [hz,List.map_append];rfl
  have hzr : RestOk 400001 z:=⟨fun c hc=>by rw [hz] at hc;rcases List.mem_append.1 hc with hc | hc;exact hyr.b8 c hc;simp at hc;omega,by omega⟩
  have hk : at' % z.length < z.length:=Nat.mod_lt _ (by omega)
  have hk2 : at' % z.length < y.length + 1:=by omega
  have hq : ((at' : Int)).tmod ((y.length : Int) + 1) = ((at' % z.length : Nat) : Int):=by
   rw [Int.tmod_eq_emod_of_nonneg (by omega),hzl];rfl
  have hq2 : ((at' : Int)).tmod (z.length : Int) = ((at' % z.length : Nat) : Int):=by
   rw [Int.tmod_eq_emod_of_nonneg (by omega)];rfl
  have hwa : IntKind.i64.wrap (at' : Int) = at':=w64 _ (by omega) (by omega)
  obtain ⟨hx1,hx2⟩:=xorB_eq z[at' % z.length] x
  obtain ⟨k2,hk3⟩ : ∃ k2,at' % z.length = k2:=⟨_,rfl⟩
  have hgz : z[at' % z.length] = z[k2]'(by omega):=by simp only [hk3]
  rw [hgz] at hx1 hx2
  rw [hk3] at hk hk2 hq hq2
  have hq3 : (at' : Int) % ((y.length : Int) + 1) = (k2 : Int):=by rw [← hk3,hzl];rfl
  have hq4 : (at' : Int) % (z.length : Int) = (k2 : Int):=by rw [← hk3];rfl
  generalize hcv : xorB (z[k2]'(by omega)) x = cv at hx1 hx2
  have hs1 : (List.map brow z).set k2 [C.v (Value.int IntKind.u8 (cv : Int))] = (z.set k2 cv).map brow:=by rw [List.map_set];rfl
  have hs1' : (List.map brow z).set ((k2 : Nat) : Int).toNat [C.v (Value.int IntKind.u8 (cv : Int))] = (z.set k2 cv).map brow:=by rw [List.map_set];rfl
  have hs2 : List.take k2 (y.map brow) = (y.take k2).map brow:=by rw [List.map_take]
  have hs2' : List.take ((k2 : Nat) : Int).toNat (y.map brow) = (y.take k2).map brow:=by rw [List.map_take];rfl
  have hset:=hzr.set (k:=k2) hx2
  have htake:=hyr.take k2
  refine aw_reg 1328 (RG.go fun Q hQ=>?_)
  simp (disch:=first | (intros;contradiction) | omega | (simp only [zN];omega)) only [zS,zW,hy,prow,simprocAttr]
  repeat refine ⟨by (omega),?_⟩
  refine hQ (RG.nil ?_)
  simp only [zX]
  refine aw_reg 1408 (RG.go fun Q hQ=>?_)
  simp (disch:=intros;contradiction) only [zS,zW,e1,simprocAttr]
  repeat refine ⟨by (first | exact ⟨by (intro q hq;obtain ⟨_,_,rfl⟩:=List.mem_map.1 hq;rfl),by omega⟩ | (simp;omega)),?_⟩
  refine hQ (RG.nil ?_)
  simp only [zX]
  refine aw_reg 1520 (RG.go fun Q hQ=>?_)
  simp (disch:=first | (intros;contradiction) | omega | (simp only [zN];omega)) only [zS,zW,brow,hwa,hq4,hx1,hs1,simprocAttr]
  repeat refine ⟨by (omega),?_⟩
  refine hQ (RG.nil ?_)
  simp only [zX]
  refine aw_reg 1744 (RG.go fun Q hQ=>?_)
  simp (disch:=first | (intros;contradiction) | omega | (simp only [zN];omega)) only [zS,zW,hwa,hq3,hs2,simprocAttr]
  repeat refine ⟨by (first | omega | (refine ⟨?_,?_⟩ <;> (repeat' (first | omega | (intro q hq;obtain ⟨_,_,rfl⟩:=List.mem_map.1 hq;rfl) | refine ⟨?_,?_⟩)))),?_⟩
  refine hQ (RG.nil ?_)
  simp only [zX]
  obtain ⟨ws,hws⟩ : ∃ ws : List (List Nat),ws = [y,z.set k2 cv,y.take k2]:=⟨_,rfl⟩
  have hwl3 : ws.length = 3:=by rw [hws];rfl
  have hwall : ∀ w ∈ ws,RestOk 500000 w:=fun w hw=>by
   rw [hws] at hw
   simp only [List.mem_cons,List.not_mem_nil,or_false] at hw
   rcases hw with rfl | rfl | rfl
   ·exact ⟨hyr.b8,by omega⟩
   ·exact ⟨hset.b8,by have:=hset.len;omega⟩
   ·exact ⟨htake.b8,by have:=htake.len;omega⟩
  refine aw_loopK (X:={ i : Nat // i≤3 }) [4,5,79,80,81,110,111] (fun i=>[(112,I i.1)]) [1200] (fun i=>[(1904,.arr 22 1 (ws.map prow) false)]) (fun i=>3 - i.1) (⟨0,by omega⟩) ?_ ?_
  ·skip
   simp only [keepS,keepE,Option.getD_some,lk_cons,lkE_cons,List.cons_append,List.nil_append,simprocAttr]
   refine (Le.tell [1456] 1904 22 1 _ (ws.map prow) false rfl (by rw [hws];exact ⟨⟨.inl rfl,trivial⟩,⟨.inr (.inr ⟨_,_,_,_,rfl,rfl,rfl,drows_brow _⟩),trivial⟩,⟨.inl rfl,trivial⟩,trivial⟩)).trans ?_
   refine Le.lit [] [] _ _ ?_ ?_ ?_ ?_
   ·simp only [zL,simprocAttr]
   ·simp only [zL,simprocAttr]
    all_goals (try ((repeat' (first | (exact prow_data _) | refine ⟨?_,?_⟩))))
   ·simp [rlook]
   ·(simp;done)
  rintro ⟨i,hi⟩
  simp only [keepS,keepE,Option.getD_some,lk_cons,lkE_cons,List.cons_append,List.nil_append,simprocAttr]
  simp only [zX]
  refine aR 1984 ?_
  refine aw_cond _ rfl trivial (fun ht=>?_) (fun hf=>?_)
  ·skip
   try simp at ht
   simp only [zX]
   have hi' : i < ws.length:=by omega
   obtain ⟨w,hw⟩ : ∃ w,ws[i] = w:=⟨_,rfl⟩
   have hwr:=hwall w (by rw [← hw];exact List.getElem_mem hi')
   have hwl4:=hwr.len
   have cR1:=chunk_ReadPush_con w hwr.b8 (by omega)
   have cR2:=mementoref13_ReadPush_con w hwr.b8 (by omega)
   have hrp:=readP_ok hwr.b8
   have cSP:=SamePush_con (readP w).1 (readP w).1 hrp.1.1 hrp.1.2 hrp.2 hrp.2
   rw [pushEq_self] at cSP
   generalize readP w = rp at cR1 cR2 cSP
   obtain ⟨rq,re⟩:=rp
   simp only at cR1 cR2 cSP
   have cT1:=chunk_Take_con w 0 hwr
   have cT2:=mementoref13_Take_con w 0 hwr
   have hin:=takeC_in hwr
   obtain ⟨ta1,ta2⟩:=take_agree hwr.len
   have cSm:=mementoref13_Same_con (takeC w 0).1.1 (takeC w 0).1.1 hin.1 hin.2 hin.2
   simp only [decide_true] at cSm
   generalize takeC w 0 = T at cT1 cSm ta1 ta2
   generalize takeR w 0 = T2 at cT2 ta1 ta2
   obtain ⟨⟨tc,tok⟩,tr,te⟩:=T
   obtain ⟨tt,tr2,te2⟩:=T2
   simp only at cT1 cT2 cSm ta1 ta2
   subst ta1
   simp only at cT2
   refine aw_reg 2032 (RG.go fun Q hQ=>?_)
   simp (disch:=first | (intros;contradiction) | omega | (simp only [zN];omega)) only [zS,zW,prow,hw,simprocAttr]
   repeat refine ⟨by (omega),?_⟩
   refine hQ (RG.nil ?_)
   simp only [zX]
   refine aB 2112 ?_
   refine rC [] (cR1) ?_ (hs:=(by exact .inr ⟨pushT_pure _ _,trivial⟩))
   refine aEs (fun Q hQ=>by simp (disch:=intros;contradiction) only [zS,pushC,puC,simprocAttr];exact hQ) ?_
   refine aB 2272 ?_
   refine rC [] (cR2) ?_ (hs:=(by exact .inr ⟨pushT_pure _ _,trivial⟩))
   refine aEs (fun Q hQ=>by simp (disch:=intros;contradiction) only [zS,pushC,puC,simprocAttr];exact hQ) ?_
   refine aB 2432 ?_
   refine rG _ _ (cSP) ?_
   refine aEs (fun Q hQ=>by simp (disch:=intros;contradiction) only [zS,simprocAttr];repeat refine ⟨by ((simp;done)),?_⟩;exact hQ) ?_
   refine aw_cond _ rfl trivial (fun ht=>by simp at ht) (fun hf=>?_)
   simp only [zX]
   refine aB 2608 ?_
   refine rO [] [] (pack_New_con (w.map brow) (drows_brow _) (brow_len _) (by simp;omega)) ?_
   refine aE ?_
   by_cases hto : tok = true
   ·skip
    subst hto
    obtain ⟨rfl,rfl⟩ : tr2 = tr∧te2 = te:=by have:=ta2 rfl;cases this;exact ⟨rfl,rfl⟩
    refine aB 2752 ?_
    refine rO [2624] [] (cT1) ?_
    refine aEs (fun Q hQ=>by simp (disch:=intros;contradiction) only [zS,chC,chO,simprocAttr];exact hQ) ?_
    refine aB 2912 ?_
    refine rO [2672] [] (cT2) ?_
    refine aEs (fun Q hQ=>by simp (disch:=intros;contradiction) only [zS,chC,chO,simprocAttr];exact hQ) ?_
    refine aBD 3072 ?_
    refine rG _ _ (cSm) ?_
    refine aM ?_
    refine RG.callgo true true [2624] [] rfl rfl (pack_rest_Left_con (tr2.map brow) te2) (.mk (tr_cons (tr_opt rfl (tr_bp rfl)) tr_nil) (by (simp only [zT,simprocAttr];done)) (by simp) (by simp) (trivial) (by (simp [lkE_cons,lkE_nil];done)) (by (simp [Ent.pure];done)) (by simp) (by simp)) ?_
    refine aEDs (fun Q hQ=>by simp (disch:=intros;contradiction) only [zS,zW,simprocAttr];exact hQ) ?_
    refine aw_cond _ rfl trivial (fun ht=>by simp at ht) (fun hf=>?_)
    simp only [zX]
    refine aS 3488 (fun Q hQ=>by simp (disch:=first | (intros;contradiction) | omega | (simp only [zN];omega)) only [zS,zW,simprocAttr];exact hQ) ?_
    refine ⟨⟨i + 1,by omega⟩,?_,by first | omega | (simp only;omega)⟩
    refine Le.lit [] [] _ _ ?_ ?_ ?_ ?_
    ·simp only [zL,simprocAttr]
     all_goals (try ((repeat' (rfl))))
    ·simp only [zL,simprocAttr]
     all_goals (try ((repeat' (first | (exact prow_data _) | refine ⟨?_,?_⟩))))
    ·simp [rlook]
    ·(simp;done)
   have hto : tok = false:=by simpa using hto
   subst hto
   refine aB 3552 ?_
   refine rO [2624] [] (cT1) ?_
   refine aEs (fun Q hQ=>by simp (disch:=intros;contradiction) only [zS,chC,chO,simprocAttr];exact hQ) ?_
   refine aB 3712 ?_
   refine rO [2672] [] (cT2) ?_
   refine aEs (fun Q hQ=>by simp (disch:=intros;contradiction) only [zS,chC,chO,simprocAttr];exact hQ) ?_
   refine aBD 3872 ?_
   refine rG _ _ (cSm) ?_
   refine aM ?_
   refine RG.callg (res:=I 0) _ _ [] rfl (fun hg=>by simp at hg) ?_
   refine aEDs (fun Q hQ=>by simp (disch:=intros;contradiction) only [zS,zW,simprocAttr];exact hQ) ?_
   refine aw_cond _ rfl trivial (fun ht=>by simp at ht) (fun hf=>?_)
   simp only [zX]
   refine aS 4288 (fun Q hQ=>by simp (disch:=first | (intros;contradiction) | omega | (simp only [zN];omega)) only [zS,zW,simprocAttr];exact hQ) ?_
   refine ⟨⟨i + 1,by omega⟩,?_,by first | omega | (simp only;omega)⟩
   refine Le.lit [] [] _ _ ?_ ?_ ?_ ?_
   ·simp only [zL,simprocAttr]
    all_goals (try ((repeat' (rfl))))
   ·simp only [zL,simprocAttr]
    all_goals (try ((repeat' (first | (exact prow_data _) | refine ⟨?_,?_⟩))))
   ·simp [rlook]
   ·(simp;done)
  try simp at hf
  simp only [zX,↓reduceIte]
  refine aS 4352 (fun Q hQ=>by simp (disch:=first | (intros;contradiction) | omega | (simp only [zN];omega)) only [zS,zW,simprocAttr];exact hQ) ?_
  refine ⟨⟨j + 1,by omega⟩,?_,by first | omega | (simp only;omega)⟩
  refine Le.lit [] [] _ _ ?_ ?_ ?_ ?_
  ·simp only [zL,simprocAttr]
   all_goals (try ((repeat' (rfl))))
  ·simp only [zL,simprocAttr]
   all_goals (try ((repeat' ((exact prow_data _)))))
  ·simp [rlook]
  ·(simp;done)
 try simp at hf
 simp only [zX,↓reduceIte]
 refine aR 4416 ?_
 refine Fin.b (.inr rfl) rfl trivial ?_
 rfl

theorem ChunkBytes_law (l : List Nat) (hl : (∀ c ∈ l,c < 256)∧l.length≤9223372036854775807) (n : Nat) (hn : n < 256) (mark : Nat) (hm : mark < 256) (raw : List Nat) (hr : (∀ c ∈ raw,c < 256)∧raw.length≤9223372036854775807) (at' : Nat) (hat : at' < 65536) (x : Nat) (hx : x < 256) :
  Con Try.prog 7 [.c (.sl (l.map brow)),.c (.v (.int .u8 n)),.c (.v (.int .u8 mark)),.c (.sl (raw.map brow)),.c (.v (.int .u16 at')),.c (.v (.int .u8 x))] [] (B true) []:=ChunkBytes_con l n mark raw at' x hl.1 hn hm hr.1 hat hx

end Go.Abs

