/- What the functions that the law comes to do, part 2. No condition. -/
import Derived.Test.YtnpiigcmedmifaaCona
set_option linter.unusedVariables false
set_option linter.unusedSimpArgs false
set_option linter.unnecessarySimpa false
namespace Go.Abs
open Go Go.Proofs
set_option maxRecDepth 100000
set_option linter.unusedSimpArgs false
set_option maxHeartbeats 4000000

end Go.Abs

namespace Go.Abs
open Go Go.Proofs
set_option maxRecDepth 100000
set_option linter.unusedSimpArgs false
set_option maxHeartbeats 4000000

end Go.Abs

namespace Go.Abs
open Go Go.Proofs
set_option maxRecDepth 100000
set_option linter.unusedSimpArgs false
set_option maxHeartbeats 4000000

end Go.Abs

namespace Go.Abs
open Go Go.Proofs
set_option maxRecDepth 100000
set_option linter.unusedSimpArgs false
set_option maxHeartbeats 8000000

end Go.Abs

namespace Go.Abs
open Go Go.Proofs
set_option maxRecDepth 100000
set_option linter.unusedSimpArgs false
set_option maxHeartbeats 8000000

end Go.Abs

namespace Go.Abs
open Go Go.Proofs
set_option maxRecDepth 100000
set_option linter.unusedSimpArgs false
set_option maxHeartbeats 4000000

end Go.Abs

namespace Go.Abs
open Go Go.Proofs
set_option maxRecDepth 100000
set_option linter.unusedSimpArgs false
set_option maxHeartbeats 4000000

theorem lowV_le (v : VOL) : lowV v≤lenV v:=by
 have : ∀ (l : List Int) (n : Int),l.foldl min n≤n:=by
  intro l
  induction l with
  | nil=>intro n;exact Int.le_refl _
  | cons x l ih=>intro n;exact Int.le_trans (ih _) (Int.min_le_left ..)
 exact this v.pins v.ws.length

abbrev volA (v : VOL) : List Ent:=[.arr 2 1 (v.pins.map nrow) false,.arr 55 2 (v.ws.map wrow) false]

end Go.Abs

namespace Go.Abs
open Go Go.Proofs
set_option maxRecDepth 100000
set_option linter.unusedSimpArgs false
set_option maxHeartbeats 4000000

end Go.Abs

namespace Go.Abs
open Go Go.Proofs
set_option maxRecDepth 100000
set_option linter.unusedSimpArgs false
set_option maxHeartbeats 4000000

theorem while_parts {p : Int→Bool} : ∀ l : List Int,l.takeWhile p ++ l.dropWhile p = l:=fun l=>List.takeWhile_append_dropWhile
theorem insP_eq {t : Int} {l : List Int} (hs : l.Pairwise (·≤·)) : isort (l ++ [t]) = insP t l:=by
 symm
 have hp:=while_parts (p:=fun x=>decide (x≤t)) l
 refine isort_unique ?_ ?_
 ·unfold insP
  conv=>rhs;rw [← hp]
  rw [List.append_assoc]
  exact List.Perm.append_left _ (List.perm_append_comm (l₁:=[t]))
 ·have hs':=hs
  rw [← hp,List.pairwise_append] at hs'
  unfold insP
  rw [List.pairwise_append,List.pairwise_cons]
  refine ⟨hs'.1,⟨fun y hy=>?_,hs'.2.1⟩,fun x hx y hy=>?_⟩
  ·cases hd : l.dropWhile (fun x=>decide (x≤t)) with
   | nil=>rw [hd] at hy;cases hy
   | cons z r =>
    have hz : ¬ z≤t:=by
     have:=List.head_dropWhile_not (fun x=>decide (x≤t)) (l:=l) (by rw [hd];simp)
     simpa [hd] using this
    rw [hd] at hy hs'
    rcases List.mem_cons.1 hy with rfl | hy
    ·omega
    ·have:=(List.pairwise_cons.1 hs'.2.1).1 y hy;omega
  ·have hxt : x≤t:=by
    have:=List.all_takeWhile (p:=fun x=>decide (x≤t)) (l:=l)
    simpa using List.all_eq_true.1 this x hx
   rcases List.mem_cons.1 hy with rfl | hy
   ·exact hxt
   ·exact hs'.2.2 x hx y hy

structure DoOk (v : VOL) (c : CMD) : Prop where
 ok : Vok v
 pins : v.pins.length < 60000
 sorted : v.pins.Pairwise (·≤·)
 next : 0≤v.next∧v.next≤1099511627776
 items : c.items.length≤1000000
 data : ∀ x ∈ c.items,x.d.length≤1000000

end Go.Abs

namespace Go.Abs
open Go Go.Proofs
set_option maxRecDepth 100000
set_option linter.unusedSimpArgs false
set_option maxHeartbeats 4000000

def smallI (l : List IT) : Bool:=decide (l.length≤12) && l.all fun x=>decide (x.d.length≤40)
theorem SmallItems_con (l : List IT) : Con Try.prog 27 [.c (.sl (l.map irow))] [] (B (smallI l)) []:=by
 refine C_mementoseat_SmallItems (Nat.le_of_ble_eq_true rfl) (Nat.le_of_ble_eq_true rfl) ?_
 simp only [cz,A_mementoseat_SmallItems,argL,objL,List.length_nil,zX]
 refine aw_reg 16 (RG.go fun Q hQ=>?_)
 simp (disch:=intros;contradiction) only [zS,simprocAttr]
 refine hQ (RG.nil ?_)
 simp only [zX]
 refine aw_reg 64 (RG.go fun Q hQ=>?_)
 simp (disch:=intros;contradiction) only [zS,zW,simprocAttr]
 refine hQ (RG.nil ?_)
 simp only [zX]
 refine aw_cond _ rfl trivial (fun ht=>?_) (fun hf=>?_)
 ·skip
  try simp at ht
  simp only [zX]
  refine aw_reg 144 (RG.go fun Q hQ=>?_)
  simp (disch:=intros;contradiction) only [zS,simprocAttr]
  refine hQ (RG.nil ?_)
  simp only [zX]
  refine Fin.b (.inr rfl) rfl trivial ?_
  rw [eq_comm,Bool.eq_false_iff];intro h;simp [smallI] at h;omega
 try simp at hf
 simp only [zX]
 have h12 : l.length≤12:=by omega
 refine aw_reg 192 (RG.go fun Q hQ=>?_)
 simp (disch:=intros;contradiction) only [zS,simprocAttr]
 refine hQ (RG.nil ?_)
 simp only [zX]
 refine aw_loopK (X:={ i : Nat // i≤l.length∧(l.take i).all (fun x=>decide (x.d.length≤40)) = true }) [0] (fun i=>[(3,I i.1)]) [] (fun i=>[]) (fun i=>l.length - i.1) (⟨0,by omega,rfl⟩) ?_ ?_
 ·skip
  simp only [keepS,keepE,lk_cons,List.cons_append,List.nil_append,↓reduceIte]
  refine Le.lit [] [] _ _ ?_ ?_ ?_ ?_
  ·simp only [zL,simprocAttr]
  ·simp only [zL,simprocAttr]
  ·simp [rlook]
  ·first | (simp;done) | (intro k hk;simp [rlook];omega)
 rintro ⟨i,hi,ha⟩
 simp only [keepS,keepE,lk_cons,List.cons_append,List.nil_append,↓reduceIte]
 simp only [zX]
 refine aw_reg 240 (RG.go fun Q hQ=>?_)
 simp (disch:=intros;contradiction) only [zS,zW,simprocAttr]
 refine hQ (RG.nil ?_)
 simp only [zX]
 refine aw_cond _ rfl trivial (fun ht=>?_) (fun hf=>?_)
 ·skip
  try simp at ht
  simp only [zX]
  have h1 : i < l.length:=by omega
  refine aw_reg 336 (RG.go fun Q hQ=>?_)
  simp (disch:=first | (intros;contradiction) | omega | (simp only [zN];omega)) only [zS,zW,irow,itC,simprocAttr]
  repeat refine ⟨by (omega),?_⟩
  refine hQ (RG.nil ?_)
  simp only [zX]
  refine aw_cond _ rfl trivial (fun ht=>?_) (fun hf=>?_)
  ·skip
   try simp at ht
   simp only [zX]
   refine aw_reg 480 (RG.go fun Q hQ=>?_)
   simp (disch:=intros;contradiction) only [zS,simprocAttr]
   refine hQ (RG.nil ?_)
   simp only [zX]
   refine Fin.b (.inr rfl) rfl trivial ?_
   rw [eq_comm,Bool.eq_false_iff];intro h
   simp only [smallI,Bool.and_eq_true] at h
   have:=List.all_eq_true.1 h.2 _ (List.getElem_mem h1)
   simp at this;omega
  try simp at hf
  simp only [zX]
  refine aw_reg 528 (RG.go fun Q hQ=>?_)
  simp (disch:=first | (intros;contradiction) | omega | (simp only [zN];omega)) only [zS,zW,simprocAttr]
  refine hQ (RG.nil ?_)
  simp only [zX]
  refine ⟨⟨i + 1,h1,by rw [all_succ h1,ha];simp;omega⟩,?_,by first | omega | (simp only;omega)⟩
  refine Le.lit [] [] _ _ ?_ ?_ ?_ ?_
  ·simp only [zL,simprocAttr]
   all_goals (try ((repeat' (rfl))))
  ·simp only [zL,simprocAttr]
  ·simp [rlook]
  ·first | (simp;done) | (intro k hk;simp [rlook];omega)
 try simp at hf
 simp only [zX,↓reduceIte]
 refine aw_reg 608 (RG.go fun Q hQ=>?_)
 simp (disch:=intros;contradiction) only [zS,simprocAttr]
 refine hQ (RG.nil ?_)
 simp only [zX]
 refine Fin.b (.inr rfl) rfl trivial ?_
 rw [smallI,all_yes (by omega) ha];simp [h12]

end Go.Abs

namespace Go.Abs
open Go Go.Proofs
set_option maxRecDepth 100000
set_option linter.unusedSimpArgs false
set_option maxHeartbeats 4000000

def dataN (n k : Nat) : List Nat:=(List.range n).map fun i=>(k + i * 7) % 256
theorem dataN_succ (n k : Nat) : dataN (n + 1) k = dataN n k ++ [(k + n * 7) % 256]:=by simp [dataN,List.range_succ]
theorem dataN_len (n k : Nat) : (dataN n k).length = n:=by simp [dataN]
theorem dataN_by (n k : Nat) : ∀ c ∈ dataN n k,c < 256:=by
 intro c hc;obtain ⟨i,_,rfl⟩:=List.mem_map.1 hc;omega

theorem Data_con (n k : Nat) (hn : n≤200) (hk : k < 256) : Con Try.prog 59 [I n,.c (.v (.int .u8 k))] [] (.c (.osl 0)) [.arr 5 1 ((dataN n k).map brow) false]:=by
 refine C_mementoseat_Data (Nat.le_of_ble_eq_true rfl) (Nat.le_of_ble_eq_true rfl) ?_
 simp only [cz,A_mementoseat_Data,argL,objL,List.length_nil,Nat.zero_add,zX]
 refine aw_reg 16 (RG.go fun Q hQ=>?_)
 simp (disch:=intros;contradiction) only [zS,simprocAttr]
 refine hQ (RG.nil ?_)
 simp only [zX]
 refine aw_reg 64 (RG.go fun Q hQ=>?_)
 simp (disch:=intros;contradiction) only [zS,simprocAttr]
 refine hQ (RG.nil ?_)
 simp only [zX]
 refine aw_reg 112 (RG.go fun Q hQ=>?_)
 simp (disch:=intros;contradiction) only [zS,simprocAttr]
 refine hQ (RG.nil ?_)
 simp only [zX]
 refine aw_loopK (X:={ i : Nat // i≤n }) [0,1] (fun i=>[(5,.c (.osl 5000)),(6,I i.1)]) [] (fun i=>[(5000,.arr 5 1 ((dataN i.1 k).map brow) false)]) (fun i=>n - i.1) (⟨0,by omega⟩) ?_ ?_
 ·skip
  simp only [keepS,keepE,lk_cons,List.cons_append,List.nil_append,simprocAttr]
  refine (Le.own 5 5000 5 1 rfl rfl (by decide)).trans ?_
  simp only [setS_cons,setE_nil,simprocAttr]
  refine Le.lit [] [] _ _ ?_ ?_ ?_ ?_
  ·simp only [zL,simprocAttr]
  ·simp only [zL,simprocAttr]
   all_goals (try ((repeat' (first | (exact drows_brow _) | rfl | refine ⟨?_,?_⟩))))
  ·simp [rlook]
  ·first | (simp;done) | (intro k hk;simp [rlook];omega)
 rintro ⟨i,hi⟩
 simp only [keepS,keepE,lk_cons,List.cons_append,List.nil_append,simprocAttr]
 simp only [zX]
 have hl:=dataN_len i k
 refine aw_reg 160 (RG.go fun Q hQ=>?_)
 simp (disch:=intros;contradiction) only [zS,simprocAttr]
 refine hQ (RG.nil ?_)
 simp only [zX]
 refine aw_cond _ rfl trivial (fun ht=>?_) (fun hf=>?_)
 ·skip
  try simp at ht
  simp only [zX]
  have e1 : IntKind.u8.wrap ((k : Int) + IntKind.u8.wrap ((i : Int) * 7)) = (((k + i * 7) % 256 : Nat) : Int):=by rw [w_u8,w_u8];omega
  have e2 : (dataN i k).map brow ++ [[.v (.int .u8 (((k + i * 7) % 256 : Nat) : Int))]] = (dataN (i + 1) k).map brow:=by rw [dataN_succ,List.map_append];rfl
  refine aw_reg 240 (RG.go fun Q hQ=>?_)
  simp (disch:=first | (intros;contradiction) | omega | (simp only [zN];omega)) only [zS,zW,e1,e2,hl,simprocAttr]
  repeat refine ⟨by ((simp;omega)),?_⟩
  refine hQ (RG.nil ?_)
  simp only [zX]
  refine aw_reg 416 (RG.go fun Q hQ=>?_)
  simp (disch:=first | (intros;contradiction) | omega | (simp only [zN];omega)) only [zS,zW,simprocAttr]
  refine hQ (RG.nil ?_)
  simp only [zX]
  refine ⟨⟨i + 1,by omega⟩,?_,by first | omega | (simp only;omega)⟩
  refine Le.lit [] [(5000,352)] _ _ ?_ ?_ ?_ ?_
  ·simp only [zL,simprocAttr]
   all_goals (try ((repeat' (rfl))))
  ·simp only [zL,simprocAttr]
   all_goals (try ((repeat' ((exact drows_brow _)))))
  ·simp [rlook]
  ·first | (simp;done) | (intro k hk;simp [rlook];omega)
 try simp at hf
 simp only [zX,↓reduceIte]
 obtain rfl : i = n:=by omega
 refine aw_reg 496 (RG.go fun Q hQ=>?_)
 simp (disch:=intros;contradiction) only [zS,simprocAttr]
 refine hQ (RG.nil ?_)
 simp only [zX]
 refine Fin.objs [] [(0,5000)] (.inr rfl) rfl (by first | exact trivial | exact ⟨trivial,trivial⟩ | exact ⟨trivial,trivial,trivial⟩) ?_ ?_ (by simp [objL,rlook]) (by first | (simp [objL,rlook];done) | (intro k hk;simp [objL,rlook];omega))
 ·simp only [zL,simprocAttr]
 ·simp only [zL,simprocAttr]
  all_goals (try ((repeat' ((exact drows_brow _)))))

theorem DataD_con (n k : Nat) (hn : n≤200) (hk : k < 256) : Con Try.prog 59 [I n,.c (.v (.int .u8 k))] [] (.c (.sl ((dataN n k).map brow))) [] :=
 (Data_con n k hn hk).rows (drows_brow _)

def hasB (b : Int) (l : List IT) : Bool:=l.any fun y=>decide (y.b = b)
def itsStep (blocks size : Nat) (acc : List IT) (c : Nat) : List IT:=if hasB ((c % max blocks 1 : Nat)) acc then acc else acc ++ [⟨(c % max blocks 1 : Nat),dataN size c⟩]
def itsF (blocks size : Nat) : List Nat→List IT→List IT
 | [],acc=>acc
 | c :: l,acc=>if acc.length < 8 then itsF blocks size l (itsStep blocks size acc c) else acc
def itsN (blocks size : Nat) (l : List Nat) : List IT:=itsF blocks size l []

theorem Items_con (blocks size : Nat) (l : List Nat) (hb : blocks≤1000000) (hs : size≤200) (hl : l.length≤1000000) (h8 : ∀ c ∈ l,c < 256) :
  Con Try.prog 38 [I blocks,I size,.c (.sl (l.map brow))] [] (.c (.osl 0)) [.arr 76 2 ((itsN blocks size l).map irow) false]:=by
 obtain ⟨q,hq⟩ : ∃ q,q = max blocks 1:=⟨_,rfl⟩
 have hqi : (if (blocks : Int) < 1 then 1 else (blocks : Int)) = (q : Int):=by split <;> omega
 obtain ⟨R,hR⟩ : ∃ R,R = itsN blocks size l:=⟨_,rfl⟩
 rw [← hR]
 refine C_mementoseat_Items (Nat.le_of_ble_eq_true rfl) (Nat.le_of_ble_eq_true rfl) ?_
 simp only [cz,A_mementoseat_Items,argL,objL,List.length_nil,Nat.zero_add,zX,simprocAttr]
 refine aw_reg 16 (RG.go fun Q hQ=>?_)
 simp (disch:=intros;contradiction) only [zS,simprocAttr]
 refine hQ (RG.nil ?_)
 simp only [zX]
 refine aw_reg 64 (RG.go fun Q hQ=>?_)
 simp (disch:=intros;contradiction) only [zS,simprocAttr]
 refine hQ (RG.nil ?_)
 simp only [zX]
 refine aw_reg 112 (RG.go fun Q hQ=>?_)
 simp (disch:=intros;contradiction) only [zS,simprocAttr]
 refine hQ (RG.nil ?_)
 simp only [zX]
 refine aw_loopK (X:={ p : Nat × List IT // p.1≤l.length∧itsF blocks size (l.drop p.1) p.2 = R∧p.2.length≤8 }) [0,1,2] (fun p=>[(7,.c (.osl 5000)),(8,I p.1.1)]) [] (fun p=>[(5000,.arr 76 2 (p.1.2.map irow) false)]) (fun p=>l.length - p.1.1) (⟨(0,[]),by simp only;omega,hR.symm,by simp⟩) ?_ ?_
 ·skip
  simp only [keepS,keepE,lk_cons,List.cons_append,List.nil_append,simprocAttr]
  refine (Le.own 7 5000 76 2 rfl rfl (by decide)).trans ?_
  simp only [setS_cons,setE_nil,simprocAttr]
  refine Le.lit [] [] _ _ ?_ ?_ ?_ ?_
  ·simp only [zL,simprocAttr]
  ·simp only [zL,simprocAttr]
   all_goals (try ((repeat' (((simp [C.isD];done))))))
  ·simp [rlook]
  ·first | (simp;done) | (intro k hk;simp [rlook];omega)
 rintro ⟨⟨i,acc⟩,h1,h2,h3⟩
 simp only [keepS,keepE,lk_cons,List.cons_append,List.nil_append,simprocAttr]
 simp only [zX]
 simp only at h1 h2 h3
 refine aw_reg 160 (RG.go fun Q hQ=>?_)
 simp (disch:=intros;contradiction) only [zS,zW,simprocAttr]
 refine hQ (RG.nil ?_)
 simp only [zX]
 refine aw_cond _ rfl trivial (fun ht=>?_) (fun hf=>?_)
 rotate_left
 ·skip
  try simp at hf
  simp only [zX,↓reduceIte]
  have hd : itsF blocks size (l.drop i) acc = acc:=by
   rcases Nat.lt_or_ge i l.length with h | h
   ·rw [drop_get h];unfold itsF;rw [if_neg (by omega)]
   ·rw [List.drop_of_length_le h];rfl
  rw [hd] at h2
  subst h2
  refine aw_reg 336 (RG.go fun Q hQ=>?_)
  simp (disch:=intros;contradiction) only [zS,simprocAttr]
  refine hQ (RG.nil ?_)
  simp only [zX]
  refine Fin.objs [] [(0,5000)] (.inr rfl) rfl (by first | exact trivial | exact ⟨trivial,trivial⟩ | exact ⟨trivial,trivial,trivial⟩) ?_ ?_ (by simp [objL,rlook]) (by first | (simp [objL,rlook];done) | (intro k hk;simp [objL,rlook];omega))
  ·simp only [zL,simprocAttr]
  ·simp only [zL,simprocAttr]
   all_goals (try ((repeat' ((exact drows_irow _)))))
 try simp at ht
 simp only [zX]
 have hi : i < l.length:=by omega
 have hc8:=h8 _ (List.getElem_mem hi)
 rw [drop_get hi] at h2
 unfold itsF at h2
 rw [if_pos (by omega)] at h2
 have e1 : (l[i] : Int) % (q : Int) = ((l[i] % q : Nat) : Int):=by omega
 obtain ⟨b,hb2⟩ : ∃ b,b = l[i] % q:=⟨_,rfl⟩
 rw [← hb2] at e1
 have hstep : itsStep blocks size acc l[i] = if hasB b acc then acc else acc ++ [⟨b,dataN size l[i]⟩]:=by unfold itsStep;rw [← hq,← hb2]
 rw [hstep] at h2
 refine aw_reg 400 (RG.go fun Q hQ=>?_)
 simp (disch:=first | (intros;contradiction) | omega | (simp only [zN];omega)) only [zS,zW,brow,hqi,e1,simprocAttr]
 repeat refine ⟨by (omega),?_⟩
 refine hQ (RG.nil ?_)
 simp only [zX]
 refine aw_reg 576 (RG.go fun Q hQ=>?_)
 simp (disch:=intros;contradiction) only [zS,simprocAttr]
 refine hQ (RG.nil ?_)
 simp only [zX]
 refine aw_reg 624 (RG.go fun Q hQ=>?_)
 simp (disch:=intros;contradiction) only [zS,simprocAttr]
 refine hQ (RG.nil ?_)
 simp only [zX]
 refine aw_loopK (X:={ k : Nat // k≤acc.length }) [0,1,2,7,8,9] (fun k=>[(10,B (hasB b (acc.take k.1))),(11,I k.1)]) [5000] (fun k=>[]) (fun k=>acc.length - k.1) (⟨0,by omega⟩) ?_ ?_
 ·skip
  simp only [keepS,keepE,Option.getD_some,lk_cons,lkE_cons,List.cons_append,List.nil_append,simprocAttr]
  refine Le.lit [] [] _ _ ?_ ?_ ?_ ?_
  ·simp only [zL,simprocAttr]
   all_goals (try ((repeat' (rfl))))
  ·simp only [zL,simprocAttr]
   all_goals (try ((repeat' ((exact drows_irow _)))))
  ·simp [rlook]
  ·first | (simp;done) | (intro k hk;simp [rlook];omega)
 rintro ⟨k,hk⟩
 simp only [keepS,keepE,Option.getD_some,lk_cons,lkE_cons,List.cons_append,List.nil_append,simprocAttr]
 simp only [zX]
 refine aw_reg 672 (RG.go fun Q hQ=>?_)
 simp (disch:=intros;contradiction) only [zS,zW,simprocAttr]
 refine hQ (RG.nil ?_)
 simp only [zX]
 refine aw_cond _ rfl trivial (fun ht=>?_) (fun hf=>?_)
 ·skip
  try simp at ht
  simp only [zX]
  have hkl : k < acc.length:=by omega
  have e3 : hasB b (acc.take (k + 1)) = (hasB b (acc.take k) || (acc[k].b == (b : Int))):=by
   unfold hasB;rw [take_one _ _ hkl,List.any_append];simp;rw [Bool.eq_iff_iff];simp
  refine aw_reg 768 (RG.go fun Q hQ=>?_)
  simp (disch:=first | (intros;contradiction) | omega | (simp only [zN];omega)) only [zS,zW,irow,itC,simprocAttr]
  repeat refine ⟨by (first | (simp;done) | (intro h;refine ⟨?_,h⟩;simp [] at h;omega)),?_⟩
  refine hQ (RG.nil ?_)
  simp only [zX]
  refine aw_reg 976 (RG.go fun Q hQ=>?_)
  simp (disch:=first | (intros;contradiction) | omega | (simp only [zN];omega)) only [zS,zW,simprocAttr]
  refine hQ (RG.nil ?_)
  simp only [zX]
  refine ⟨⟨k + 1,hkl⟩,?_,by first | omega | (simp only;omega)⟩
  refine Le.lit [] [] _ _ ?_ ?_ ?_ ?_
  ·simp only [zL,simprocAttr]
   all_goals (rw [e3];(repeat' ((simp;done))))
  ·simp only [zL,simprocAttr]
   all_goals (try ((repeat' ((exact drows_irow _)))))
  ·simp [rlook]
  ·first | (simp;done) | (intro k hk;simp [rlook];omega)
 try simp at hf
 simp only [zX,↓reduceIte]
 obtain rfl : k = acc.length:=by omega
 refine aw_reg 1056 (RG.go fun Q hQ=>?_)
 simp (disch:=intros;contradiction) only [zS,zW,simprocAttr]
 refine hQ (RG.nil ?_)
 simp only [zX]
 refine aw_cond _ rfl trivial (fun ht=>?_) (fun hf=>?_)
 ·skip
  try simp at ht
  refine aw_reg 1120 (RG.go fun Q hQ=>?_)
  simp (disch:=first | (intros;contradiction) | omega | (simp only [zN];omega)) only [zS,zW,brow,simprocAttr]
  repeat refine ⟨by (omega),?_⟩
  refine hQ ?_
  refine RG.call [] (DataD_con size l[i] hs hc8) (by (repeat' (first | exact tr_nil | refine tr_cons ?_ ?_ | exact tr_v))) trivial (by (exact .inr ⟨rfl,trivial⟩)) ?_
  refine RG.go fun Q hQ=>?_
  simp (disch:=intros;contradiction) only [zS,zW,simprocAttr]
  rw [if_neg (by simp [ht])] at h2
  have e2 : (acc ++ [(⟨(b : Int),dataN size l[i]⟩ : IT)]).map irow = acc.map irow ++ [[.v (.int .i64 b),.sl ((dataN size l[i]).map brow)]]:=by rw [List.map_append];rfl
  repeat refine ⟨by ((simp;omega)),?_⟩
  refine hQ (RG.nil ?_)
  simp only [zX]
  refine aw_reg 1344 (RG.go fun Q hQ=>?_)
  simp (disch:=first | (intros;contradiction) | omega | (simp only [zN];omega)) only [zS,zW,simprocAttr]
  refine hQ (RG.nil ?_)
  simp only [zX]
  refine ⟨⟨(i + 1,acc ++ [⟨b,dataN size l[i]⟩]),by simp only;omega,h2,by simp;omega⟩,?_,by first | omega | (simp only;omega)⟩
  refine Le.lit [] [(5000,1280)] _ _ ?_ ?_ ?_ ?_
  ·simp only [zL,simprocAttr]
   all_goals (try ((repeat' (rfl))))
  ·simp only [zL,simprocAttr]
   all_goals (rw [e2];exact ⟨rfl,by rw [← e2];exact drows_irow _⟩;skip)
  ·simp [rlook]
  ·first | (simp;done) | (intro k hk;simp [rlook];omega)
 try simp at hf
 simp only [zX]
 rw [if_pos hf] at h2
 refine aw_reg 1424 (RG.go fun Q hQ=>?_)
 simp (disch:=first | (intros;contradiction) | omega | (simp only [zN];omega)) only [zS,zW,simprocAttr]
 refine hQ (RG.nil ?_)
 simp only [zX]
 refine ⟨⟨(i + 1,acc),by simp only;omega,h2,h3⟩,?_,by first | omega | (simp only;omega)⟩
 refine Le.lit [] [] _ _ ?_ ?_ ?_ ?_
 ·simp only [zL,simprocAttr]
  all_goals (try ((repeat' (rfl))))
 ·simp only [zL,simprocAttr]
  all_goals (try ((repeat' ((exact drows_irow _)))))
 ·simp [rlook]
 ·first | (simp;done) | (intro k hk;simp [rlook];omega)

end Go.Abs

namespace Go.Abs
open Go Go.Proofs
set_option maxRecDepth 100000
set_option linter.unusedSimpArgs false
set_option maxHeartbeats 4000000

def placeN (per n : Nat) : List Int:=(List.range n).map fun i=>((1 + (i + per) % 2 : Nat) : Int)
theorem placeN_succ (per n : Nat) : placeN per (n + 1) = placeN per n ++ [((1 + (n + per) % 2 : Nat) : Int)]:=by simp [placeN,List.range_succ]
theorem placeN_len (per n : Nat) : (placeN per n).length = n:=by simp [placeN]
def createC (vol blocks size per total : Nat) : CMD :=
 ⟨1,(vol % 3 : Nat),(blocks % 9 + 1 : Nat),(size % 3 + 1 : Nat),(per % (blocks % 9 + 1) + 1 : Nat),placeN per (chunksN (blocks % 9 + 1 : Nat) (per % (blocks % 9 + 1) + 1 : Nat)).toNat,total,0,0,[]⟩

theorem Create_con (vol blocks size per total : Nat) (h1 : vol < 256) (h2 : blocks < 256) (h3 : size < 256) (h4 : per < 256) (h5 : total < 1000) :
  Con Try.prog 16 [.c (.v (.int .u8 vol)),.c (.v (.int .u8 blocks)),.c (.v (.int .u8 size)),.c (.v (.int .u8 per)),I total] [] (.agg (cmdC (createC vol blocks size per total))) []:=by
 obtain ⟨b,hb⟩ : ∃ b,b = blocks % 9 + 1:=⟨_,rfl⟩
 obtain ⟨p,hp⟩ : ∃ p,p = per % b + 1:=⟨_,rfl⟩
 have hpb : p≤b:=by have:=Nat.mod_lt per (show 0 < b by omega);omega
 obtain ⟨c1,c2⟩:=chunks_nn (b:=b) (p:=p) (by omega) (by omega)
 obtain ⟨m,hm⟩ : ∃ m,m = (chunksN b p).toNat:=⟨_,rfl⟩
 have hmc : chunksN b p = (m : Int):=by omega
 have e1 : (blocks : Int) % 9 + 1 = (b : Int):=by omega
 have e2 : (per : Int) % (b : Int) + 1 = (p : Int):=by omega
 have e3 : (vol : Int) % 3 = ((vol % 3 : Nat) : Int):=by omega
 have e4 : (size : Int) % 3 + 1 = ((size % 3 + 1 : Nat) : Int):=by omega
 have cC:=mementoref16_Chunks_con b p (by omega) (by omega)
 rw [hmc] at cC
 have hres : cmdC (createC vol blocks size per total) = [.v (.int .i64 1),.v (.int .i64 (vol % 3 : Nat)),.v (.int .i64 b),.v (.int .i64 (size % 3 + 1 : Nat)),.v (.int .i64 p),.sl ((placeN per m).map nrow),.v (.int .i64 total),.v (.int .i64 0),.v (.int .i64 0),.sl []]:=by
  unfold createC;rw [← hb,← hp,← hm];rfl
 rw [hres]
 refine C_mementoseat_Create (Nat.le_of_ble_eq_true rfl) (Nat.le_of_ble_eq_true rfl) ?_
 simp only [cz,A_mementoseat_Create,argL,objL,List.length_nil,Nat.zero_add,zX,simprocAttr]
 refine aw_reg 16 (RG.go fun Q hQ=>?_)
 simp (disch:=intros;contradiction) only [zS,simprocAttr]
 refine hQ (RG.nil ?_)
 simp only [zX]
 refine aw_reg 64 (RG.go fun Q hQ=>?_)
 simp (disch:=first | (intros;contradiction) | omega | (simp only [zN];omega)) only [zS,zW,e1,e3,e4,simprocAttr]
 repeat refine ⟨by (omega),?_⟩
 refine hQ (RG.nil ?_)
 simp only [zX]
 refine aw_reg 336 (RG.go fun Q hQ=>?_)
 simp (disch:=first | (intros;contradiction) | omega | (simp only [zN];omega)) only [zS,zW,e2,simprocAttr]
 repeat refine ⟨by (omega),?_⟩
 refine hQ (RG.nil ?_)
 simp only [zX]
 refine aw_reg 496 (RG.go fun Q hQ=>?_)
 simp (disch:=intros;contradiction) only [zS,simprocAttr]
 refine hQ (RG.nil ?_)
 simp only [zX]
 refine aw_loopK (X:={ i : Nat // i≤m }) [3,10,11] (fun i=>[(12,I i.1)]) [16] (fun i=>[(272,.box [.v (.int .i64 1),.v (.int .i64 (vol % 3 : Nat)),.v (.int .i64 b),.v (.int .i64 (size % 3 + 1 : Nat)),.v (.int .i64 p),.osl 5000,.v (.int .i64 total),.v (.int .i64 0),.v (.int .i64 0),.v (.slice none 0 0)]),(5000,.arr 3 1 ((placeN per i.1).map nrow) false)]) (fun i=>m - i.1) (⟨0,by omega⟩) ?_ ?_
 ·skip
  simp only [keepS,keepE,Option.getD_some,lk_cons,lkE_cons,List.cons_append,List.nil_append,simprocAttr]
  refine (Le.ownB 272 5 5000 _ 3 1 rfl rfl rfl (by decide)).trans ?_
  simp only [List.set_cons_succ,List.set_cons_zero,setE_cons,setE_nil,simprocAttr]
  refine Le.lit [] [] _ _ ?_ ?_ ?_ ?_
  ·simp only [zL,simprocAttr]
  ·simp only [zL,simprocAttr]
   all_goals (try ((repeat' (first | (exact drows_nrow _) | rfl | refine ⟨?_,?_⟩))))
  ·simp [rlook]
  ·first | (simp;done) | (intro k hk;simp [rlook];omega)
 rintro ⟨i,hi⟩
 simp only [keepS,keepE,Option.getD_some,lk_cons,lkE_cons,List.cons_append,List.nil_append,simprocAttr]
 simp only [zX]
 have hl:=placeN_len per i
 refine aw_reg 544 (RG.go fun Q hQ=>?_)
 simp (disch:=intros;contradiction) only [zS,simprocAttr]
 refine hQ ?_
 refine RG.call [] (cC) (by (repeat' (first | exact tr_nil | refine tr_cons ?_ ?_ | exact tr_v))) trivial (by (exact .inl trivial)) ?_
 refine RG.go fun Q hQ=>?_
 simp (disch:=intros;contradiction) only [zS,simprocAttr]
 refine hQ (RG.nil ?_)
 simp only [zX]
 refine aw_cond _ rfl trivial (fun ht=>?_) (fun hf=>?_)
 ·skip
  try simp at ht
  simp only [zX]
  have e5 : 1 + ((i : Int) + per) % 2 = ((1 + (i + per) % 2 : Nat) : Int):=by omega
  have e6 : (placeN per i).map nrow ++ [[.v (.int .i64 ((1 + (i + per) % 2 : Nat) : Int))]] = (placeN per (i + 1)).map nrow:=by rw [placeN_succ,List.map_append];rfl
  refine aw_reg 688 (RG.go fun Q hQ=>?_)
  simp (disch:=first | (intros;contradiction) | omega | (simp only [zN];omega)) only [zS,zW,e5,e6,hl,simprocAttr]
  repeat refine ⟨by (first | omega | (simp;omega)),?_⟩
  refine hQ (RG.nil ?_)
  simp only [zX]
  refine aw_reg 912 (RG.go fun Q hQ=>?_)
  simp (disch:=first | (intros;contradiction) | omega | (simp only [zN];omega)) only [zS,zW,simprocAttr]
  refine hQ (RG.nil ?_)
  simp only [zX]
  refine ⟨⟨i + 1,by omega⟩,?_,by first | omega | (simp only;omega)⟩
  refine Le.lit [] [(5000,832)] _ _ ?_ ?_ ?_ ?_
  ·simp only [zL,simprocAttr]
   all_goals (try ((repeat' (rfl))))
  ·simp only [zL,simprocAttr]
   all_goals (try (exact drows_nrow _))
  ·simp [rlook]
  ·first | (simp;done) | (intro k hk;simp [rlook];omega)
 try simp at hf
 simp only [zX,↓reduceIte]
 obtain rfl : i = m:=by omega
 refine aw_reg 992 (RG.go fun Q hQ=>?_)
 simp (disch:=intros;contradiction) only [zS,simprocAttr]
 refine hQ (RG.nil ?_)
 simp only [zX]
 refine Fin.data [5000] (.inr rfl) rfl (by (exact ⟨trivial,trivial⟩)) ?_
 simp only [zL,simprocAttr]
 all_goals ((repeat' (first | exact trivial | rfl | (refine ⟨⟨_,_,rfl⟩,?_⟩;(exact drows_nrow _)) | refine ⟨?_,?_⟩)))

end Go.Abs

namespace Go.Abs
open Go Go.Proofs
set_option maxRecDepth 100000
set_option linter.unusedSimpArgs false
set_option maxHeartbeats 4000000

theorem rightV_iff {v : VOL} : rightV v = true ↔ shapeV v = true∧(0≤v.next∧v.next≤v.total)∧(v.hid = true∨v.next = v.total)∧(v.hid = false∨v.total≠0)∧0≤v.floor∧v.floor≤lenV v∧pinsR (lenV v) v.floor v.pins = true∧wsR v.blocks v.size 0 v.ws = true:=by
 unfold rightV
 simp [inR,and_assoc]

theorem pinsR_iff {n : Int} : ∀ {l : List Int} {last : Int},pinsR n last l = true ↔ (∀ p ∈ l,last≤p∧p≤n)∧l.Pairwise (·≤·)
 | [],last=>by simp [pinsR]
 | p :: l,last=>by
  simp only [pinsR,Bool.and_eq_true,decide_eq_true_eq,pinsR_iff (l:=l),List.mem_cons,List.pairwise_cons]
  constructor
  ·rintro ⟨⟨h1,h2⟩,h3,h4⟩
   refine ⟨?_,fun q hq=>(h3 q hq).1,h4⟩
   rintro q (rfl | hq)
   ·exact ⟨h1,h2⟩
   ·exact ⟨by have:=(h3 q hq).1;omega,(h3 q hq).2⟩
  ·rintro ⟨h1,h2,h3⟩
   exact ⟨h1 p (.inl rfl),fun q hq=>⟨h2 q hq,(h1 q (.inr hq)).2⟩,h3⟩

theorem wsR_app {b s : Int} {w : WR} : ∀ {l : List WR} {i : Nat},wsR b s i (l ++ [w]) = (wsR b s i l && (decide (w.s = (i : Int) + l.length + 1) && itemsR b s w.its))
 | [],i=>by simp [wsR]
 | x :: l,i=>by
  simp only [List.cons_append,wsR,wsR_app (l:=l),List.length_cons,Bool.and_assoc]
  congr 3
  rw [show ((i + 1 : Nat) : Int) + l.length + 1 = (i : Int) + ((l.length + 1 : Nat) : Int) + 1 by omega]

structure Vgood (v : VOL) (n : Nat) : Prop where
 right : rightV v = true
 by8 : byW v.ws
 ws : v.ws.length≤n
 pins : v.pins.length≤n
 hidp : v.hid = true→v.pins = []

theorem Vgood.mono {v : VOL} {n m : Nat} (h : Vgood v n) (hm : n≤m) : Vgood v m:=⟨h.right,h.by8,by have:=h.ws;omega,by have:=h.pins;omega,h.hidp⟩

theorem shape_lims {v : VOL} (h : shapeV v = true) : (0≤v.id∧v.id≤7)∧(1≤v.blocks∧v.blocks≤256)∧(1≤v.size∧v.size≤32)∧(1≤v.per∧v.per≤v.blocks)∧(v.place.length : Int) = chunksN v.blocks v.per∧(0≤v.total∧v.total≤1099511627776)∧v.place.length≤512:=by
 have h':=h
 simp only [shapeV,shapeP,Bool.and_eq_true,inR_iff,decide_eq_true_eq] at h'
 obtain ⟨⟨⟨⟨⟨⟨h1,h2⟩,h3⟩,h4⟩,h5⟩,h6⟩,_⟩:=h'
 have:=(chunks_nn (b:=v.blocks) (p:=v.per) (by omega) (by omega)).2
 exact ⟨h1,h2,h3,h4,h5,h6,by omega⟩

theorem Vgood.ok {v : VOL} {n : Nat} (h : Vgood v n) (hn : n≤50000) : Vok v:=by
 obtain ⟨h1,h2,h3,h4,h5⟩:=h
 obtain ⟨r1,r2,r3,r4,r5,r6,r7,r8⟩:=rightV_iff.1 h1
 obtain ⟨s1,s2,s3,s4,s5,s6,s7⟩:=shape_lims r1
 refine ⟨by omega,by omega,by omega,fun w hw=>?_⟩
 have hi:=wsR_mem r8 w hw
 exact ⟨by have:=(itemsR_len hi).2;omega,fun x hx=>by have:=(itemsR_mem hi x hx).2.2;omega⟩

theorem Vgood.next {v : VOL} {n : Nat} (h : Vgood v n) : 0≤v.next∧v.next≤1099511627776:=by
 obtain ⟨r1,r2,r3,r4,r5,r6,r7,r8⟩:=rightV_iff.1 h.right
 obtain ⟨s1,s2,s3,s4,s5,s6,s7⟩:=shape_lims r1
 omega

theorem Vgood.new {c : CMD} (h : shapeV (newV c) = true) : Vgood (newV c) 0:=by
 have s6 : 0≤c.total:=(shape_lims h).2.2.2.2.2.1.1
 refine ⟨rightV_iff.2 ⟨h,⟨Int.le_refl _,s6⟩,?_,?_,Int.le_refl _,?_,rfl,rfl⟩,fun w hw=>(by cases hw),Nat.le_refl _,Nat.le_refl _,fun _=>rfl⟩
 ·show decide (0 < c.total) = true∨0 = c.total
  simp;omega
 ·show decide (0 < c.total) = false∨c.total≠0
  simp;omega
 ·simp [newV,lenV]

theorem insP_mem {t x : Int} {l : List Int} (hs : l.Pairwise (·≤·)) : x ∈ insP t l ↔ x ∈ l∨x = t:=by
 rw [← insP_eq hs]
 have:=(isort_perm (l ++ [t])).mem_iff (a:=x)
 rw [this];simp
theorem insP_sorted {t : Int} {l : List Int} (hs : l.Pairwise (·≤·)) : (insP t l).Pairwise (·≤·):=by
 rw [← insP_eq hs];exact isort_sorted _
theorem insP_len {t : Int} {l : List Int} (hs : l.Pairwise (·≤·)) : (insP t l).length = l.length + 1:=by
 rw [← insP_eq hs,isort_len];simp
theorem delP_sub {t : Int} : ∀ l : List Int,(delP t l).Sublist l
 | []=>.slnil
 | x :: l=>by
  unfold delP
  split
  ·exact List.sublist_cons_self _ _
  ·exact (delP_sub l).cons_cons _
theorem lowL_le : ∀ (l : List Int) (n : Int),lowL n l≤n∧∀ p ∈ l,lowL n l≤p
 | [],n=>⟨Int.le_refl _,fun p hp=>(by cases hp)⟩
 | x :: l,n=>by
  have:=lowL_le l (min n x)
  have e : lowL n (x :: l) = lowL (min n x) l:=rfl
  rw [e]
  refine ⟨by omega,fun p hp=>?_⟩
  rcases List.mem_cons.1 hp with rfl | hp
  ·omega
  ·exact this.2 p hp

theorem Vgood.add {v : VOL} {n : Nat} (h : Vgood v n) {l : List IT} (hr : itemsR v.blocks v.size l = true) (hb : byI l) : Vgood (addW v l) (n + 1):=by
 obtain ⟨h1,h2,h3,h4,h5⟩:=h
 obtain ⟨r1,r2,r3,r4,r5,r6,r7,r8⟩:=rightV_iff.1 h1
 have hlen : lenV (addW v l) = lenV v + 1:=by simp [lenV,addW]
 refine ⟨rightV_iff.2 ⟨r1,r2,r3,r4,r5,by rw [hlen];show v.floor≤_;omega,?_,?_⟩,fun w hw=>?_,by simp [addW];omega,by show v.pins.length≤_;omega,h5⟩
 ·rw [hlen];show pinsR _ v.floor v.pins = true
  obtain ⟨p1,p2⟩:=pinsR_iff.1 r7
  exact pinsR_iff.2 ⟨fun p hp=>by have:=p1 p hp;omega,p2⟩
 ·show wsR v.blocks v.size 0 (v.ws ++ [⟨v.ws.length + 1,l⟩]) = true
  rw [wsR_app,r8];simp [hr]
 ·simp only [addW,List.mem_append,List.mem_singleton] at hw
  rcases hw with hw | rfl
  ·exact h2 w hw
  ·exact hb

theorem Vgood.doV {v : VOL} {n : Nat} (h : Vgood v n) {c : CMD} (hb : byI c.items) : Vgood (doV v c).v (n + 1):=by
 have hm:=h.mono (Nat.le_succ n)
 have hf : ∀ e,Vgood (fail v e).v (n + 1):=fun e=>hm
 obtain ⟨h1,h2,h3,h4,h5⟩:=h
 obtain ⟨r1,r2,r3,r4,r5,r6,r7,r8⟩:=rightV_iff.1 h1
 obtain ⟨p1,p2⟩:=pinsR_iff.1 r7
 have himp : Vgood (doImp v c).v (n + 1):=by
  unfold doImp
  split
  ·rename_i hi
   unfold impS at hi
   split at hi
   ·cases hi
   split at hi
   ·split at hi <;> cases hi
   split at hi
   ·cases hi
   split at hi
   ·cases hi
   rename_i g1 g2 g3 g4
   split at hi
   ·rename_i g5
    have ha:=Vgood.add ⟨h1,h2,h3,h4,h5⟩ g5 hb
    obtain ⟨a1,a2,a3,a4,a5⟩:=ha
    obtain ⟨q1,q2,q3,q4,q5,q6,q7,q8⟩:=rightV_iff.1 a1
    have g1' : v.hid = true:=by simpa using g1
    exact ⟨rightV_iff.2 ⟨q1,⟨by show 0≤v.next + 1;omega,by show v.next + 1≤v.total;omega⟩,.inl g1',q4,q5,q6,q7,q8⟩,a2,a3,a4,a5⟩
   ·cases hi
  ·rename_i w e hi
   split
   ·rename_i he
    subst he
    unfold impS at hi
    split at hi
    ·cases hi
    split at hi
    ·split at hi
     ·cases hi
      rename_i g1 g2 g3
      have g1' : v.hid = true:=by simpa using g1
      have hp:=h5 g1'
      refine ⟨rightV_iff.2 ⟨r1,r2,.inr g3,.inl rfl,?_,Int.le_refl _,?_,r8⟩,h2,by show v.ws.length≤_;omega,by show v.pins.length≤_;omega,fun h=>by cases h⟩
      ·show (0 : Int)≤(v.ws.length : Int);omega
      ·show pinsR _ _ v.pins = true;rw [hp];rfl
     ·cases hi
    split at hi
    ·cases hi;exact hm
    split at hi
    ·cases hi
    split at hi <;> cases hi
   ·exact hm
 unfold Go.Abs.doV
 split
 ·unfold doPut
  split
  ·exact hm
  split
  ·rename_i g;exact Vgood.add ⟨h1,h2,h3,h4,h5⟩ g hb
  ·exact hm
 split
 ·unfold doPrune
  split
  ·exact hm
  split
  ·exact hm
  split
  ·exact hm
  ·rename_i g1 g2 g3
   have hl:=lowL_le v.pins v.ws.length
   refine ⟨rightV_iff.2 ⟨r1,r2,r3,r4,by show 0≤c.at';omega,?_,?_,r8⟩,h2,by show v.ws.length≤_;omega,by show v.pins.length≤_;omega,h5⟩
   ·show c.at'≤lenV v
    have:=lowV_le v;omega
   ·show pinsR (lenV v) c.at' v.pins = true
    refine pinsR_iff.2 ⟨fun p hp=>⟨?_,(p1 p hp).2⟩,p2⟩
    have : lowV v≤p:=hl.2 p hp
    omega
 split
 ·unfold doPin
  split
  ·exact hm
  split
  ·exact hm
  split
  ·exact hm
  ·rename_i g1 g2 g3
   have g1' : v.hid = false:=by simpa using g1
   refine ⟨rightV_iff.2 ⟨r1,r2,r3,r4,r5,r6,?_,r8⟩,h2,by show v.ws.length≤_;omega,?_,fun h=>by rw [show v.hid = true from h] at g1';cases g1'⟩
   ·show pinsR (lenV v) v.floor (insP c.at' v.pins) = true
    refine pinsR_iff.2 ⟨fun p hp=>?_,insP_sorted p2⟩
    rcases (insP_mem p2).1 hp with hp | rfl
    ·exact p1 p hp
    ·omega
   ·show (insP c.at' v.pins).length≤_
    rw [insP_len p2];omega
 split
 ·unfold doUnpin
  split
  ·exact hm
  split
  ·rename_i g1 g2
   have g1' : v.hid = false:=by simpa using g1
   refine ⟨rightV_iff.2 ⟨r1,r2,r3,r4,r5,r6,?_,r8⟩,h2,by show v.ws.length≤_;omega,?_,fun h=>by rw [show v.hid = true from h] at g1';cases g1'⟩
   ·show pinsR (lenV v) v.floor (delP c.at' v.pins) = true
    exact pinsR_iff.2 ⟨fun p hp=>p1 p ((delP_sub _).subset hp),p2.sublist (delP_sub _)⟩
   ·show (delP c.at' v.pins).length≤_
    have:=(delP_sub (t:=c.at') v.pins).length_le;omega
  ·exact hm
 split
 ·exact himp
 split
 ·exact hm
 ·exact hm

theorem createC_shape (vol blocks size per total : Nat) (h : total < 1000) : shapeV (newV (createC vol blocks size per total)) = true:=by
 obtain ⟨b,hb⟩ : ∃ b,b = blocks % 9 + 1:=⟨_,rfl⟩
 obtain ⟨p,hp⟩ : ∃ p,p = per % b + 1:=⟨_,rfl⟩
 have hpb : p≤b:=by have:=Nat.mod_lt per (show 0 < b by omega);omega
 obtain ⟨c1,c2⟩:=chunks_nn (b:=b) (p:=p) (by omega) (by omega)
 have e : createC vol blocks size per total = ⟨1,(vol % 3 : Nat),b,(size % 3 + 1 : Nat),p,placeN per (chunksN b p).toNat,total,0,0,[]⟩:=by unfold createC;rw [← hb,← hp]
 rw [e]
 obtain ⟨m,hm⟩ : ∃ m,m = (chunksN b p).toNat:=⟨_,rfl⟩
 rw [← hm]
 show (inR ((vol % 3 : Nat) : Int) 0 7 && inR b 1 256 && inR ((size % 3 + 1 : Nat) : Int) 1 32 && inR p 1 b && decide (((placeN per m).length : Int) = chunksN b p) && inR total 0 1099511627776 && (placeN per m).all fun n=>inR n 1 7) = true
 rw [placeN_len]
 simp only [Bool.and_eq_true,inR_iff,decide_eq_true_eq]
 refine ⟨⟨⟨⟨⟨⟨by omega,by omega⟩,by omega⟩,by omega⟩,by omega⟩,by omega⟩,List.all_eq_true.2 fun x hx=>?_⟩
 obtain ⟨i,_,rfl⟩:=List.mem_map.1 hx
 rw [inR_iff];omega

theorem new_of {c : CMD} (h : shapeV (newV c) = true) : newR c = (newV c,0):=by unfold newR;rw [if_pos h]

end Go.Abs

namespace Go.Abs
open Go Go.Proofs
set_option maxRecDepth 100000
set_option linter.unusedSimpArgs false
set_option maxHeartbeats 4000000

def cmd0 (v : VOL) (B S L k a b c : Nat) : CMD :=
 if k≤3 then ⟨2,v.id,0,0,0,[],0,0,0,itsN B S [a,b,c]⟩
 else if k = 4 then ⟨3,v.id,0,0,0,[],0,(a % (L + 2) : Nat),0,[]⟩
 else if k = 5 then ⟨4,v.id,0,0,0,[],0,(a % (L + 2) : Nat),0,[]⟩
 else if k = 6 then ⟨5,v.id,0,0,0,[],0,(a % (L + 2) : Nat),0,[]⟩
 else if k = 7 then ⟨8,v.id,0,0,0,[],0,0,0,[]⟩
 else if k = 8 then ⟨6,v.id,0,0,0,[],0,0,max (v.next - (c % 5 / 4 : Nat)) 0,itsN B S [a,b]⟩
 else ⟨7,v.id,0,0,0,[],0,0,0,[]⟩
def cmdV (v : VOL) (B S L w a b c : Nat) : CMD :=
 if v.hid = true∧w % 10 < 5 then ⟨6,v.id,0,0,0,[],0,0,v.next,itsN B S [a,b,c]⟩ else cmd0 v B S L (w % 10) a b c

def zeroC0 : CMD:=⟨0,0,0,0,0,[],0,0,0,[]⟩
theorem Cmd_there (v : VOL) (n : Nat) (g : Vgood v n) (hn : n≤50000) (w a b c : Nat) (hw : w < 256) (ha : a < 256) (hb : b < 256) (hc : c < 256) :
  Con Try.prog 17 [.agg (volC v),B true,.c (.v (.int .u8 w)),.c (.v (.int .u8 a)),.c (.v (.int .u8 b)),.c (.v (.int .u8 c))] [] (.agg (cmdC (cmdV v v.blocks.toNat v.size.toNat v.ws.length w a b c))) []:=by
 obtain ⟨r1,r2,r3,r4,r5,r6,r7,r8⟩:=rightV_iff.1 g.right
 obtain ⟨s1,s2,s3,s4,s5,s6,s7⟩:=shape_lims r1
 have hlen:=g.ws
 obtain ⟨bl,hbl⟩ : ∃ bl : Nat,v.blocks = bl:=⟨v.blocks.toNat,by omega⟩
 obtain ⟨sz,hsz⟩ : ∃ sz : Nat,v.size = sz:=⟨v.size.toNat,by omega⟩
 obtain ⟨k,hk⟩ : ∃ k,k = w % 10:=⟨_,rfl⟩
 have e1 : (w : Int) % 10 = (k : Int):=by omega
 rw [hbl,hsz]
 simp only [Int.toNat_natCast]
 have m1 : (a : Int).tmod ((v.ws.length : Int) + 2) = ((a % (v.ws.length + 2) : Nat) : Int):=by
  rw [Int.tmod_eq_emod_of_nonneg (by omega)];push_cast;rfl
 have cI3 : Con Try.prog 38 [I v.blocks,I v.size,.c (.sl [[.v (.int .u8 a)],[.v (.int .u8 b)],[.v (.int .u8 c)]])] [] (.c (.sl ((itsN bl sz [a,b,c]).map irow))) []:=by
  rw [hbl,hsz];exact (Items_con bl sz [a,b,c] (by omega) (by omega) (by simp) (by intro x hx;simp at hx;omega)).rows (drows_irow _)
 have cI2 : Con Try.prog 38 [I v.blocks,I v.size,.c (.sl [[.v (.int .u8 a)],[.v (.int .u8 b)]])] [] (.c (.sl ((itsN bl sz [a,b]).map irow))) []:=by
  rw [hbl,hsz];exact (Items_con bl sz [a,b] (by omega) (by omega) (by simp) (by intro x hx;simp at hx;omega)).rows (drows_irow _)
 have cL:=mementoref16_Len_con v
 refine C_mementoseat_Cmd (Nat.le_of_ble_eq_true rfl) (Nat.le_of_ble_eq_true rfl) ?_
 simp only [cz,A_mementoseat_Cmd,argL,objL,List.length_nil,Nat.zero_add,zX,simprocAttr]
 refine aw_reg 16 (RG.go fun Q hQ=>?_)
 simp (disch:=intros;contradiction) only [zS,vC_eq,simprocAttr]
 refine hQ (RG.nil ?_)
 simp only [zX]
 refine aw_reg 80 (RG.go fun Q hQ=>?_)
 simp (disch:=intros;contradiction) only [zS,simprocAttr]
 refine hQ (RG.nil ?_)
 simp only [zX]
 refine aw_cond _ rfl trivial (fun ht=>by cases ht) (fun hf=>?_)
 simp only [zX]
 refine aw_reg 144 (RG.go fun Q hQ=>?_)
 simp (disch:=intros;contradiction) only [zS,simprocAttr]
 refine hQ (RG.nil ?_)
 simp only [zY]
 refine aw_joinS (Y:=Unit) [2,3,4,5,6,12,14] (fun y=>[]) [16] (fun y=>[(32,.box (cmdC zeroC0)),(192,.box (cmdC (cmd0 v bl sz v.ws.length k a b c)))]) (by (repeat' (exact cl_fin))) ?_ ?_
 ·skip
  simp only [zX]
  refine aw_reg 256 (RG.go fun Q hQ=>?_)
  simp (disch:=first | (intros;contradiction) | omega | (simp only [zN];omega)) only [zS,zW,e1,simprocAttr]
  repeat refine ⟨by (omega),?_⟩
  refine hQ (RG.nil ?_)
  simp only [zY]
  refine aw_block ?_
  refine aw_joinS (Y:={ q : Bool // q = decide (k≤3) }) [2,3,4,5,6,12,14,37] (fun q=>[(39,B q.1)]) [16,32,192] (fun q=>[]) (by (repeat' (first | exact cl_fin | refine cl_block ?_ | refine cl_goto ?_))) ?_ ?_
  ·skip
   simp only [zX]
   refine aw_reg 320 (RG.go fun Q hQ=>?_)
   simp (disch:=intros;contradiction) only [zS,simprocAttr]
   refine hQ (RG.nil ?_)
   simp only [zX]
   refine aw_cond _ rfl trivial (fun ht=>?_) (fun hf=>?_)
   ·skip
    try simp at ht
    simp only [zX]
    refine ⟨⟨decide (k≤3),rfl⟩,?_⟩
    simp only [keepS,keepE,Option.getD_some,lk_cons,lkE_cons,List.cons_append,List.nil_append,simprocAttr]
    refine Le.lit [] [] _ _ ?_ ?_ ?_ ?_
    ·simp only [zL,simprocAttr]
     all_goals (rw [Value.bool.injEq,Bool.eq_iff_iff];simp;omega;skip)
    ·simp only [zL,simprocAttr]
    ·simp [rlook]
    ·first | (simp;done) | (intro k hk;simp [rlook];omega)
   try simp at hf
   simp only [zX]
   refine aw_reg 384 (RG.go fun Q hQ=>?_)
   simp (disch:=intros;contradiction) only [zS,simprocAttr]
   refine hQ (RG.nil ?_)
   simp only [zX]
   refine aw_cond _ rfl trivial (fun ht=>?_) (fun hf=>?_)
   ·skip
    try simp at ht
    simp only [zX]
    refine ⟨⟨decide (k≤3),rfl⟩,?_⟩
    simp only [keepS,keepE,Option.getD_some,lk_cons,lkE_cons,List.cons_append,List.nil_append,simprocAttr]
    refine Le.lit [] [] _ _ ?_ ?_ ?_ ?_
    ·simp only [zL,simprocAttr]
     all_goals (rw [Value.bool.injEq,Bool.eq_iff_iff];simp;omega;skip)
    ·simp only [zL,simprocAttr]
    ·simp [rlook]
    ·first | (simp;done) | (intro k hk;simp [rlook];omega)
   try simp at hf
   simp only [zX]
   refine aw_reg 448 (RG.go fun Q hQ=>?_)
   simp (disch:=intros;contradiction) only [zS,simprocAttr]
   refine hQ (RG.nil ?_)
   simp only [zX]
   refine aw_cond _ rfl trivial (fun ht=>?_) (fun hf=>?_)
   ·skip
    try simp at ht
    simp only [zX]
    refine ⟨⟨decide (k≤3),rfl⟩,?_⟩
    simp only [keepS,keepE,Option.getD_some,lk_cons,lkE_cons,List.cons_append,List.nil_append,simprocAttr]
    refine Le.lit [] [] _ _ ?_ ?_ ?_ ?_
    ·simp only [zL,simprocAttr]
     all_goals (rw [Value.bool.injEq,Bool.eq_iff_iff];simp;omega;skip)
    ·simp only [zL,simprocAttr]
    ·simp [rlook]
    ·first | (simp;done) | (intro k hk;simp [rlook];omega)
   try simp at hf
   refine aw_reg 512 (RG.go fun Q hQ=>?_)
   simp (disch:=intros;contradiction) only [zS,simprocAttr]
   refine hQ (RG.nil ?_)
   simp only [zX]
   refine ⟨⟨decide (k≤3),rfl⟩,?_⟩
   simp only [keepS,keepE,Option.getD_some,lk_cons,lkE_cons,List.cons_append,List.nil_append,simprocAttr]
   refine Le.lit [] [] _ _ ?_ ?_ ?_ ?_
   ·simp only [zL,simprocAttr]
    all_goals (rw [Value.bool.injEq,Bool.eq_iff_iff];simp;omega;skip)
   ·simp only [zL,simprocAttr]
   ·simp [rlook]
   ·first | (simp;done) | (intro k hk;simp [rlook];omega)
  rintro ⟨q,hq⟩
  simp only [keepS,keepE,Option.getD_some,lk_cons,lkE_cons,List.cons_append,List.nil_append,simprocAttr]
  refine aw_cond _ rfl trivial (fun ht=>?_) (fun hf=>?_)
  ·skip
   try simp at ht
   have hE : cmd0 v bl sz v.ws.length k a b c = ⟨2,v.id,0,0,0,[],0,0,0,itsN bl sz [a,b,c]⟩:=by unfold cmd0;rw [if_pos (by simp [hq] at ht;omega)]
   refine aw_reg 576 (RG.go fun Q hQ=>?_)
   simp (disch:=intros;contradiction) only [zS,simprocAttr]
   refine hQ ?_
   refine RG.callo [] [688] (cI3) (.mk (tr_cons tr_v (tr_cons tr_v (tr_cons (tr_view (by simp) rfl (by simp [isDRows,C.isD])) tr_nil))) (by first | trivial | (simp only [zT,simprocAttr];done) | (simp only [zT,simprocAttr];trivial) | (simp only [zT,simprocAttr];repeat' (fail))) (by simp) (by simp) (views1 rfl trivial) (by first | (simp [lkE_cons,lkE_nil];done) | (intro j hj;simp at hj;simp only [setEs,setE_cons,setE_nil,lkE_cons,lkE_nil];repeat rw [if_neg (by omega)])) (by first | (simp [Ent.pure];done) | (simp [Ent.pure];repeat' (fail))) (by simp) (by simp)) ?_
   refine RG.go fun Q hQ=>?_
   simp (disch:=intros;contradiction) only [zS,simprocAttr]
   refine hQ (RG.nil ?_)
   simp only [zX]
   refine ⟨(),?_⟩
   refine Le.lit [] [] _ _ ?_ ?_ ?_ ?_
   ·simp only [zL,simprocAttr]
   ·simp only [zL,simprocAttr]
    all_goals (rw [hE];trivial;skip)
   ·simp [rlook]
   ·first | (simp;done) | (intro k hk;simp [rlook];omega)
  try simp at hf
  simp only [zX]
  have hq3 : ¬ k≤3:=by simp [hq] at hf;omega
  refine aw_reg 816 (RG.go fun Q hQ=>?_)
  simp (disch:=intros;contradiction) only [zS,simprocAttr]
  refine hQ (RG.nil ?_)
  simp only [zX]
  refine aw_cond _ rfl trivial (fun ht=>?_) (fun hf=>?_)
  ·skip
   try simp at ht
   have hE : cmd0 v bl sz v.ws.length k a b c = ⟨3,v.id,0,0,0,[],0,(a % (v.ws.length + 2) : Nat),0,[]⟩:=by unfold cmd0;rw [if_neg hq3,if_pos (by omega)]
   refine aw_draw 880 (RG.go fun Q hQ=>?_)
   simp (disch:=first | (intros;contradiction) | omega | (simp only [zN];omega)) only [zS,zW,simprocAttr]
   refine hQ ?_
   refine RG.call [] (cL) (by (repeat' (first | exact tr_nil | refine tr_cons ?_ ?_ | exact tr_agg (by repeat' (first | exact trivial | rfl | refine ⟨?_,?_⟩))))) trivial (by (exact .inl trivial)) ?_
   refine RG.go fun Q hQ=>?_
   simp (disch:=first | (intros;contradiction) | omega | (simp only [zN];omega)) only [zS,zW,lenV,simprocAttr]
   repeat refine ⟨by (omega),?_⟩
   refine hQ (RG.nil ⟨by decide +kernel,?_⟩)
   simp only [zX]
   refine ⟨(),?_⟩
   refine Le.lit [] [] _ _ ?_ ?_ ?_ ?_
   ·simp only [zL,simprocAttr]
   ·simp only [zL,simprocAttr]
    all_goals (rw [hE];trivial;skip)
   ·simp [rlook]
   ·first | (simp;done) | (intro k hk;simp [rlook];omega)
  try simp at hf
  simp only [zX]
  refine aw_reg 1072 (RG.go fun Q hQ=>?_)
  simp (disch:=intros;contradiction) only [zS,simprocAttr]
  refine hQ (RG.nil ?_)
  simp only [zX]
  refine aw_cond _ rfl trivial (fun ht=>?_) (fun hf=>?_)
  ·skip
   try simp at ht
   have hE : cmd0 v bl sz v.ws.length k a b c = ⟨4,v.id,0,0,0,[],0,(a % (v.ws.length + 2) : Nat),0,[]⟩:=by unfold cmd0;rw [if_neg hq3,if_neg (by omega),if_pos (by omega)]
   refine aw_draw 1136 (RG.go fun Q hQ=>?_)
   simp (disch:=first | (intros;contradiction) | omega | (simp only [zN];omega)) only [zS,zW,simprocAttr]
   refine hQ ?_
   refine RG.call [] (cL) (by (repeat' (first | exact tr_nil | refine tr_cons ?_ ?_ | exact tr_agg (by repeat' (first | exact trivial | rfl | refine ⟨?_,?_⟩))))) trivial (by (exact .inl trivial)) ?_
   refine RG.go fun Q hQ=>?_
   simp (disch:=first | (intros;contradiction) | omega | (simp only [zN];omega)) only [zS,zW,lenV,simprocAttr]
   repeat refine ⟨by (omega),?_⟩
   refine hQ (RG.nil ⟨by decide +kernel,?_⟩)
   simp only [zX]
   refine ⟨(),?_⟩
   refine Le.lit [] [] _ _ ?_ ?_ ?_ ?_
   ·simp only [zL,simprocAttr]
   ·simp only [zL,simprocAttr]
    all_goals (rw [hE];trivial;skip)
   ·simp [rlook]
   ·first | (simp;done) | (intro k hk;simp [rlook];omega)
  try simp at hf
  simp only [zX]
  refine aw_reg 1328 (RG.go fun Q hQ=>?_)
  simp (disch:=intros;contradiction) only [zS,simprocAttr]
  refine hQ (RG.nil ?_)
  simp only [zX]
  refine aw_cond _ rfl trivial (fun ht=>?_) (fun hf=>?_)
  ·skip
   try simp at ht
   have hE : cmd0 v bl sz v.ws.length k a b c = ⟨5,v.id,0,0,0,[],0,(a % (v.ws.length + 2) : Nat),0,[]⟩:=by unfold cmd0;rw [if_neg hq3,if_neg (by omega),if_neg (by omega),if_pos (by omega)]
   refine aw_draw 1392 (RG.go fun Q hQ=>?_)
   simp (disch:=first | (intros;contradiction) | omega | (simp only [zN];omega)) only [zS,zW,simprocAttr]
   refine hQ ?_
   refine RG.call [] (cL) (by (repeat' (first | exact tr_nil | refine tr_cons ?_ ?_ | exact tr_agg (by repeat' (first | exact trivial | rfl | refine ⟨?_,?_⟩))))) trivial (by (exact .inl trivial)) ?_
   refine RG.go fun Q hQ=>?_
   simp (disch:=first | (intros;contradiction) | omega | (simp only [zN];omega)) only [zS,zW,lenV,simprocAttr]
   repeat refine ⟨by (omega),?_⟩
   refine hQ (RG.nil ⟨by decide +kernel,?_⟩)
   simp only [zX]
   refine ⟨(),?_⟩
   refine Le.lit [] [] _ _ ?_ ?_ ?_ ?_
   ·simp only [zL,simprocAttr]
   ·simp only [zL,simprocAttr]
    all_goals (rw [hE];trivial;skip)
   ·simp [rlook]
   ·first | (simp;done) | (intro k hk;simp [rlook];omega)
  try simp at hf
  simp only [zX]
  refine aw_reg 1584 (RG.go fun Q hQ=>?_)
  simp (disch:=intros;contradiction) only [zS,simprocAttr]
  refine hQ (RG.nil ?_)
  simp only [zX]
  refine aw_cond _ rfl trivial (fun ht=>?_) (fun hf=>?_)
  ·skip
   try simp at ht
   have hE : cmd0 v bl sz v.ws.length k a b c = ⟨8,v.id,0,0,0,[],0,0,0,[]⟩:=by unfold cmd0;rw [if_neg hq3,if_neg (by omega),if_neg (by omega),if_neg (by omega),if_pos (by omega)]
   refine aw_reg 1648 (RG.go fun Q hQ=>?_)
   simp (disch:=intros;contradiction) only [zS,simprocAttr]
   refine hQ (RG.nil ?_)
   simp only [zX]
   refine ⟨(),?_⟩
   refine Le.lit [] [] _ _ ?_ ?_ ?_ ?_
   ·simp only [zL,simprocAttr]
   ·simp only [zL,simprocAttr]
    all_goals (rw [hE];trivial;skip)
   ·simp [rlook]
   ·first | (simp;done) | (intro k hk;simp [rlook];omega)
  try simp at hf
  simp only [zX]
  refine aw_reg 1712 (RG.go fun Q hQ=>?_)
  simp (disch:=intros;contradiction) only [zS,simprocAttr]
  refine hQ (RG.nil ?_)
  simp only [zX]
  refine aw_cond _ rfl trivial (fun ht=>?_) (fun hf=>?_)
  ·skip
   try simp at ht
   have hE : cmd0 v bl sz v.ws.length k a b c = ⟨6,v.id,0,0,0,[],0,0,max (v.next - (c % 5 / 4 : Nat)) 0,itsN bl sz [a,b]⟩:=by unfold cmd0;rw [if_neg hq3,if_neg (by omega),if_neg (by omega),if_neg (by omega),if_neg (by omega),if_pos (by omega)]
   have m2 : (c : Int) % 5 = ((c % 5 : Nat) : Int):=by omega
   have m3 : ((c % 5 : Nat) : Int) / 4 = ((c % 5 / 4 : Nat) : Int):=by omega
   have m4 : ((c % 5 : Nat) : Int).tdiv 4 = ((c % 5 / 4 : Nat) : Int):=by rw [Int.tdiv_eq_ediv_of_nonneg (by omega)];omega
   refine aw_draw 1776 (RG.go fun Q hQ=>?_)
   simp (disch:=first | (intros;contradiction) | omega | (simp only [zN];omega)) only [zS,zW,m2,m3,simprocAttr]
   repeat refine ⟨by (omega),?_⟩
   refine hQ ?_
   refine RG.callo [] [2000] (cI2) (.mk (tr_cons tr_v (tr_cons tr_v (tr_cons (tr_view (by simp) rfl (by simp [isDRows,C.isD])) tr_nil))) (by first | trivial | (simp only [zT,simprocAttr];done) | (simp only [zT,simprocAttr];trivial) | (simp only [zT,simprocAttr];repeat' (fail))) (by simp) (by simp) (views1 rfl trivial) (by first | (simp [lkE_cons,lkE_nil];done) | (intro j hj;simp at hj;simp only [setEs,setE_cons,setE_nil,lkE_cons,lkE_nil];repeat rw [if_neg (by omega)])) (by first | (simp [Ent.pure];done) | (simp [Ent.pure];repeat' (fail))) (by simp) (by simp)) ?_
   refine RG.go fun Q hQ=>?_
   simp (disch:=intros;contradiction) only [zS,simprocAttr]
   have m5:=max_if (v.next - (c % 5 / 4 : Nat)) 0
   refine hQ (RG.nil ⟨by decide +kernel,?_⟩)
   simp only [zX]
   refine ⟨(),?_⟩
   refine Le.lit [] [] _ _ ?_ ?_ ?_ ?_
   ·simp only [zL,simprocAttr]
   ·simp only [zL,simprocAttr]
    all_goals (rw [hE];simp only [m5];trivial;skip)
   ·simp [rlook]
   ·first | (simp;done) | (intro k hk;simp [rlook];omega)
  try simp at hf
  have hE : cmd0 v bl sz v.ws.length k a b c = ⟨7,v.id,0,0,0,[],0,0,0,[]⟩:=by unfold cmd0;rw [if_neg hq3,if_neg (by omega),if_neg (by omega),if_neg (by omega),if_neg (by omega),if_neg (by omega)]
  refine aw_reg 2160 (RG.go fun Q hQ=>?_)
  simp (disch:=intros;contradiction) only [zS,simprocAttr]
  refine hQ (RG.nil ?_)
  simp only [zX]
  refine ⟨(),?_⟩
  refine Le.lit [] [] _ _ ?_ ?_ ?_ ?_
  ·simp only [zL,simprocAttr]
  ·simp only [zL,simprocAttr]
   all_goals (rw [hE];trivial;skip)
  ·simp [rlook]
  ·first | (simp;done) | (intro k hk;simp [rlook];omega)
 rintro y
 simp only [keepS,keepE,Option.getD_some,lk_cons,lkE_cons,List.cons_append,List.nil_append,simprocAttr]
 simp only [zX]
 refine aw_reg 2224 (RG.go fun Q hQ=>?_)
 simp (disch:=first | (intros;contradiction) | omega | (simp only [zN];omega)) only [zS,zW,cmdC,cC,e1,simprocAttr]
 repeat refine ⟨by ((simp;done)),?_⟩
 refine hQ (RG.nil ?_)
 simp only [zX]
 refine aw_cond _ rfl trivial (fun ht=>?_) (fun hf=>?_)
 ·skip
  try simp at ht
  have hE : cmdV v bl sz v.ws.length w a b c = ⟨6,v.id,0,0,0,[],0,0,v.next,itsN bl sz [a,b,c]⟩:=by unfold cmdV;rw [if_pos ⟨ht.1,by have:=ht.2;omega⟩]
  rw [hE]
  refine aw_draw 2368 (RG.go fun Q hQ=>?_)
  simp (disch:=intros;contradiction) only [zS,simprocAttr]
  refine hQ ?_
  refine RG.callo [] [2544] (cI3) (.mk (tr_cons tr_v (tr_cons tr_v (tr_cons (tr_view (by simp) rfl (by simp [isDRows,C.isD])) tr_nil))) (by first | trivial | (simp only [zT,simprocAttr];done) | (simp only [zT,simprocAttr];trivial) | (simp only [zT,simprocAttr];repeat' (fail))) (by simp) (by simp) (views1 rfl trivial) (by first | (simp [lkE_cons,lkE_nil];done) | (intro j hj;simp at hj;simp only [setEs,setE_cons,setE_nil,lkE_cons,lkE_nil];repeat rw [if_neg (by omega)])) (by first | (simp [Ent.pure];done) | (simp [Ent.pure];repeat' (fail))) (by simp) (by simp)) ?_
  refine RG.go fun Q hQ=>?_
  simp (disch:=intros;contradiction) only [zS,simprocAttr]
  refine hQ (RG.nil ⟨by decide +kernel,?_⟩)
  simp only [zX]
  refine aw_reg 2640 (RG.go fun Q hQ=>?_)
  simp (disch:=intros;contradiction) only [zS,simprocAttr]
  refine hQ (RG.nil ?_)
  simp only [zX]
  refine Fin.data [] (.inr rfl) rfl (by (exact ⟨trivial,trivial⟩)) ?_
  simp only [zL]
  all_goals ((repeat' (first | exact trivial | rfl | refine ⟨?_,?_⟩)))
 try simp at hf
 simp only [zX]
 have hE : cmdV v bl sz v.ws.length w a b c = cmd0 v bl sz v.ws.length k a b c:=by unfold cmdV;rw [if_neg (by rintro ⟨h1,h2⟩;have:=hf h1;omega),hk]
 rw [hE]
 refine aw_reg 2704 (RG.go fun Q hQ=>?_)
 simp (disch:=intros;contradiction) only [zS,simprocAttr]
 refine hQ (RG.nil ?_)
 simp only [zX]
 refine Fin.data [] (.inr rfl) rfl (by (exact ⟨trivial,trivial⟩)) ?_
 simp only [zL]
 all_goals ((repeat' (first | exact trivial | rfl | refine ⟨?_,?_⟩)))

end Go.Abs

namespace Go.Abs
open Go Go.Proofs
set_option maxRecDepth 100000
set_option linter.unusedSimpArgs false
set_option maxHeartbeats 4000000

def u64N (n : Int) : Nat:=(n % 18446744073709551616).toNat
theorem u64N_wrap (n : Int) : IntKind.u64.wrap n = (u64N n : Int):=by rw [w_u64];unfold u64N;omega
theorem u64N_lt (n : Int) : u64N n < 18446744073709551616:=by unfold u64N;omega
def numsL (l : List Int) : List Nat:=putS (l.map u64N)
theorem numsL_len (l : List Int) : (numsL l).length≤l.length * 10:=by
 have:=putS_len (l.map u64N) (fun n hn=>by obtain ⟨m,_,rfl⟩:=List.mem_map.1 hn;exact u64N_lt m)
 simpa [numsL] using this
theorem numsL_succ (l : List Int) (i : Nat) (hi : i < l.length) : numsL (l.take (i + 1)) = numsL (l.take i) ++ putS [u64N l[i]]:=by
 unfold numsL;rw [take_one l i hi,List.map_append];unfold putS;rw [List.flatMap_append];rfl
theorem putS1_len (n : Int) : (putS [u64N n]).length≤10:=by
 have:=putS_len [u64N n] (fun m hm=>by simp at hm;rw [hm];exact u64N_lt n)
 simpa using this
theorem Put1_con (n : Int) : Con Try.prog 84 [.c (.sl [[.v (.int .u64 (u64N n))]])] [] (.c (.osl 0)) [.arr 5 1 ((putS [u64N n]).map brow) false] :=
 mementoref1_Put_con [u64N n] (by simp) (by intro m hm;simp at hm;rw [hm];exact u64N_lt n)

theorem nums16_con (l : List Int) (hl : l.length≤1000000) : Con Try.prog 72 [.c (.sl (l.map nrow))] [] (.c (.osl 0)) [.arr 5 1 ((numsL l).map brow) false]:=by
 refine C_mementoref16_nums (Nat.le_of_ble_eq_true rfl) (Nat.le_of_ble_eq_true rfl) ?_
 simp only [cz,A_mementoref16_nums,argL,objL,List.length_nil,zX]
 refine aw_reg 16 (RG.go fun Q hQ=>?_)
 simp (disch:=intros;contradiction) only [zS,simprocAttr]
 refine hQ (RG.nil ?_)
 simp only [zX]
 refine aw_reg 64 (RG.go fun Q hQ=>?_)
 simp (disch:=intros;contradiction) only [zS,simprocAttr]
 refine hQ (RG.nil ?_)
 simp only [zX]
 refine aw_reg 112 (RG.go fun Q hQ=>?_)
 simp (disch:=intros;contradiction) only [zS,simprocAttr]
 refine hQ (RG.nil ?_)
 simp only [zX]
 refine aw_loopK (X:={ i : Nat // i≤l.length }) [0] (fun i=>[(3,.c (.osl 5000)),(4,I i.1)]) [] (fun i=>[(5000,.arr 5 1 ((numsL (l.take i.1)).map brow) false)]) (fun i=>l.length - i.1) (⟨0,by omega⟩) ?_ ?_
 ·skip
  simp only [keepS,keepE,lk_cons,List.cons_append,List.nil_append,↓reduceIte]
  refine (Le.own 3 5000 5 1 rfl rfl (by decide)).trans ?_
  simp only [setS_cons,setE_nil,simprocAttr]
  refine Le.lit [] [] _ _ ?_ ?_ ?_ ?_
  ·simp only [zL,simprocAttr]
  ·simp only [zL,simprocAttr]
   all_goals (try ((repeat' (first | (exact drows_brow _) | rfl | refine ⟨?_,?_⟩))))
  ·simp [rlook]
  ·first | (simp;done) | (intro k hk;simp [rlook];omega)
 rintro ⟨i,hi⟩
 simp only [keepS,keepE,lk_cons,List.cons_append,List.nil_append,↓reduceIte]
 simp only [zX]
 refine aw_reg 160 (RG.go fun Q hQ=>?_)
 simp (disch:=intros;contradiction) only [zS,zW,simprocAttr]
 refine hQ (RG.nil ?_)
 simp only [zX]
 refine aw_cond _ rfl trivial (fun ht=>?_) (fun hf=>?_)
 ·skip
  try simp at ht
  simp only [zX]
  have hi' : i < l.length:=by omega
  have e1:=u64N_wrap l[i]
  have e2:=numsL_len (l.take i)
  have e3:=putS1_len l[i]
  have e4 : (numsL (l.take i)).map brow ++ (putS [u64N l[i]]).map brow = (numsL (l.take (i + 1))).map brow:=by rw [numsL_succ l i hi',List.map_append]
  simp only [List.length_take] at e2
  refine aw_reg 256 (RG.go fun Q hQ=>?_)
  simp (disch:=first | (intros;contradiction) | omega | (simp only [zN];omega)) only [zS,zW,nrow,e1,simprocAttr]
  repeat refine ⟨by (omega),?_⟩
  refine hQ ?_
  refine RG.callo [] [352] (Put1_con l[i]) (.mk (tr_cons (tr_view (by simp) rfl (by simp [isDRows,C.isD])) tr_nil) (by first | trivial | (simp only [zT,simprocAttr];done) | (simp only [zT,simprocAttr];trivial) | (simp only [zT,simprocAttr];repeat' (fail))) (by simp) (by simp) (views1 rfl trivial) (by first | (simp [lkE_cons,lkE_nil];done) | (intro j hj;simp at hj;simp only [setEs,setE_cons,setE_nil,lkE_cons,lkE_nil];repeat rw [if_neg (by omega)])) (by first | (simp [Ent.pure];done) | (simp [Ent.pure];repeat' ((exact drows_brow _)))) (by simp) (by simp)) ?_
  refine RG.go fun Q hQ=>?_
  simp (disch:=intros;contradiction) only [zS,zW,e4,simprocAttr]
  repeat refine ⟨by (exact ⟨by (intro q hq;obtain ⟨_,_,rfl⟩:=List.mem_map.1 hq;rfl),by omega⟩),?_⟩
  refine hQ (RG.nil ?_)
  simp only [zX]
  refine aw_reg 448 (RG.go fun Q hQ=>?_)
  simp (disch:=first | (intros;contradiction) | omega | (simp only [zN];omega)) only [zS,zW,simprocAttr]
  refine hQ (RG.nil ?_)
  simp only [zX]
  refine ⟨⟨i + 1,by omega⟩,?_,by first | omega | (simp only;omega)⟩
  refine Le.lit [] [(5000,384)] _ _ ?_ ?_ ?_ ?_
  ·simp only [zL,simprocAttr]
   all_goals (try ((repeat' (rfl))))
  ·simp only [zL,simprocAttr]
   all_goals (try ((repeat' ((exact drows_brow _)))))
  ·simp [rlook]
  ·first | (simp;done) | (intro k hk;simp [rlook];omega)
 try simp at hf
 simp only [zX,↓reduceIte]
 obtain rfl : i = l.length:=by omega
 refine aw_reg 528 (RG.go fun Q hQ=>?_)
 simp (disch:=intros;contradiction) only [zS,zW,simprocAttr]
 refine hQ (RG.nil ?_)
 simp only [zX]
 refine Fin.objs [] [(0,5000)] (.inr rfl) rfl (by first | exact trivial | exact ⟨trivial,trivial⟩ | exact ⟨trivial,trivial,trivial⟩) ?_ ?_ (by simp [objL,rlook]) (by first | (simp [objL,rlook];done) | (intro k hk;simp [objL,rlook];omega))
 ·simp only [zL,simprocAttr]
 ·simp only [zL,simprocAttr]
  all_goals (try ((repeat' ((exact drows_brow _)))))

theorem nums13_con (l : List Int) (hl : l.length≤1000000) : Con Try.prog 85 [.c (.sl (l.map nrow))] [] (.c (.osl 0)) [.arr 5 1 ((numsL l).map brow) false]:=by
 refine C_mementoref13_nums (Nat.le_of_ble_eq_true rfl) (Nat.le_of_ble_eq_true rfl) ?_
 simp only [cz,A_mementoref13_nums,argL,objL,List.length_nil,zX]
 refine aw_reg 16 (RG.go fun Q hQ=>?_)
 simp (disch:=intros;contradiction) only [zS,simprocAttr]
 refine hQ (RG.nil ?_)
 simp only [zX]
 refine aw_reg 64 (RG.go fun Q hQ=>?_)
 simp (disch:=intros;contradiction) only [zS,simprocAttr]
 refine hQ (RG.nil ?_)
 simp only [zX]
 refine aw_reg 112 (RG.go fun Q hQ=>?_)
 simp (disch:=intros;contradiction) only [zS,simprocAttr]
 refine hQ (RG.nil ?_)
 simp only [zX]
 refine aw_loopK (X:={ i : Nat // i≤l.length }) [0] (fun i=>[(3,.c (.osl 5000)),(4,I i.1)]) [] (fun i=>[(5000,.arr 5 1 ((numsL (l.take i.1)).map brow) false)]) (fun i=>l.length - i.1) (⟨0,by omega⟩) ?_ ?_
 ·skip
  simp only [keepS,keepE,lk_cons,List.cons_append,List.nil_append,↓reduceIte]
  refine (Le.own 3 5000 5 1 rfl rfl (by decide)).trans ?_
  simp only [setS_cons,setE_nil,simprocAttr]
  refine Le.lit [] [] _ _ ?_ ?_ ?_ ?_
  ·simp only [zL,simprocAttr]
  ·simp only [zL,simprocAttr]
   all_goals (try ((repeat' (first | (exact drows_brow _) | rfl | refine ⟨?_,?_⟩))))
  ·simp [rlook]
  ·first | (simp;done) | (intro k hk;simp [rlook];omega)
 rintro ⟨i,hi⟩
 simp only [keepS,keepE,lk_cons,List.cons_append,List.nil_append,↓reduceIte]
 simp only [zX]
 refine aw_reg 160 (RG.go fun Q hQ=>?_)
 simp (disch:=intros;contradiction) only [zS,zW,simprocAttr]
 refine hQ (RG.nil ?_)
 simp only [zX]
 refine aw_cond _ rfl trivial (fun ht=>?_) (fun hf=>?_)
 ·skip
  try simp at ht
  simp only [zX]
  have hi' : i < l.length:=by omega
  have e1:=u64N_wrap l[i]
  have e2:=numsL_len (l.take i)
  have e3:=putS1_len l[i]
  have e4 : (numsL (l.take i)).map brow ++ (putS [u64N l[i]]).map brow = (numsL (l.take (i + 1))).map brow:=by rw [numsL_succ l i hi',List.map_append]
  simp only [List.length_take] at e2
  refine aw_reg 256 (RG.go fun Q hQ=>?_)
  simp (disch:=first | (intros;contradiction) | omega | (simp only [zN];omega)) only [zS,zW,nrow,e1,simprocAttr]
  repeat refine ⟨by (omega),?_⟩
  refine hQ ?_
  refine RG.callo [] [352] (Put1_con l[i]) (.mk (tr_cons (tr_view (by simp) rfl (by simp [isDRows,C.isD])) tr_nil) (by first | trivial | (simp only [zT,simprocAttr];done) | (simp only [zT,simprocAttr];trivial) | (simp only [zT,simprocAttr];repeat' (fail))) (by simp) (by simp) (views1 rfl trivial) (by first | (simp [lkE_cons,lkE_nil];done) | (intro j hj;simp at hj;simp only [setEs,setE_cons,setE_nil,lkE_cons,lkE_nil];repeat rw [if_neg (by omega)])) (by first | (simp [Ent.pure];done) | (simp [Ent.pure];repeat' ((exact drows_brow _)))) (by simp) (by simp)) ?_
  refine RG.go fun Q hQ=>?_
  simp (disch:=intros;contradiction) only [zS,zW,e4,simprocAttr]
  repeat refine ⟨by (exact ⟨by (intro q hq;obtain ⟨_,_,rfl⟩:=List.mem_map.1 hq;rfl),by omega⟩),?_⟩
  refine hQ (RG.nil ?_)
  simp only [zX]
  refine aw_reg 448 (RG.go fun Q hQ=>?_)
  simp (disch:=first | (intros;contradiction) | omega | (simp only [zN];omega)) only [zS,zW,simprocAttr]
  refine hQ (RG.nil ?_)
  simp only [zX]
  refine ⟨⟨i + 1,by omega⟩,?_,by first | omega | (simp only;omega)⟩
  refine Le.lit [] [(5000,384)] _ _ ?_ ?_ ?_ ?_
  ·simp only [zL,simprocAttr]
   all_goals (try ((repeat' (rfl))))
  ·simp only [zL,simprocAttr]
   all_goals (try ((repeat' ((exact drows_brow _)))))
  ·simp [rlook]
  ·first | (simp;done) | (intro k hk;simp [rlook];omega)
 try simp at hf
 simp only [zX,↓reduceIte]
 obtain rfl : i = l.length:=by omega
 refine aw_reg 528 (RG.go fun Q hQ=>?_)
 simp (disch:=intros;contradiction) only [zS,zW,simprocAttr]
 refine hQ (RG.nil ?_)
 simp only [zX]
 refine Fin.objs [] [(0,5000)] (.inr rfl) rfl (by first | exact trivial | exact ⟨trivial,trivial⟩ | exact ⟨trivial,trivial,trivial⟩) ?_ ?_ (by simp [objL,rlook]) (by first | (simp [objL,rlook];done) | (intro k hk;simp [objL,rlook];omega))
 ·simp only [zL,simprocAttr]
 ·simp only [zL,simprocAttr]
  all_goals (try ((repeat' ((exact drows_brow _)))))

theorem num1_16 (n : Int) : Con Try.prog 72 [.c (.sl [[.v (.int .i64 n)]])] [] (.c (.osl 0)) [.arr 5 1 ((putS [u64N n]).map brow) false]:=nums16_con [n] (by simp)
theorem num1_13 (n : Int) : Con Try.prog 85 [.c (.sl [[.v (.int .i64 n)]])] [] (.c (.osl 0)) [.arr 5 1 ((putS [u64N n]).map brow) false]:=nums13_con [n] (by simp)

def placeB (l : List Int) : List Nat:=putS [u64N l.length] ++ numsL l
theorem placeB_succ (n : Nat) (l : List Int) (i : Nat) (hi : i < l.length) : putS [u64N n] ++ numsL (l.take (i + 1)) = putS [u64N n] ++ numsL (l.take i) ++ putS [u64N l[i]]:=by
 rw [numsL_succ l i hi,List.append_assoc]

theorem place_con (l : List Int) (hl : l.length≤1000000) : Con Try.prog 73 [.c (.sl (l.map nrow))] [] (.c (.osl 0)) [.arr 5 1 ((placeB l).map brow) false]:=by
 refine C_mementoref16_place (Nat.le_of_ble_eq_true rfl) (Nat.le_of_ble_eq_true rfl) ?_
 simp only [cz,A_mementoref16_place,argL,objL,List.length_nil,zX]
 refine aw_reg 16 (RG.go fun Q hQ=>?_)
 simp (disch:=intros;contradiction) only [zS,simprocAttr]
 refine hQ (RG.nil ?_)
 simp only [zX]
 refine aw_reg 64 (RG.go fun Q hQ=>?_)
 simp (disch:=intros;contradiction) only [zS,zW,simprocAttr]
 refine hQ ?_
 refine RG.callo [] [96] (num1_16 (l.length : Int)) (.mk (tr_cons (tr_view (by simp) rfl (by simp [isDRows,C.isD])) tr_nil) (by first | trivial | (simp only [zT,simprocAttr];done) | (simp only [zT,simprocAttr];trivial) | (simp only [zT,simprocAttr];repeat' (fail))) (by simp) (by simp) (views1 rfl trivial) (by first | (simp [lkE_cons,lkE_nil];done) | (intro j hj;simp at hj;simp only [setEs,setE_cons,setE_nil,lkE_cons,lkE_nil];repeat rw [if_neg (by omega)])) (by first | (simp [Ent.pure];done) | (simp [Ent.pure];repeat' ((exact drows_brow _)))) (by simp) (by simp)) ?_
 refine RG.go fun Q hQ=>?_
 simp (disch:=intros;contradiction) only [zS,simprocAttr]
 refine hQ (RG.nil ?_)
 simp only [zX]
 refine aw_reg 176 (RG.go fun Q hQ=>?_)
 simp (disch:=intros;contradiction) only [zS,simprocAttr]
 refine hQ (RG.nil ?_)
 simp only [zX]
 refine aw_loopK (X:={ i : Nat // i≤l.length }) [0] (fun i=>[(3,.c (.osl 5000)),(4,I i.1)]) [] (fun i=>[(5000,.arr 5 1 ((putS [u64N l.length] ++ numsL (l.take i.1)).map brow) false)]) (fun i=>l.length - i.1) (⟨0,by omega⟩) ?_ ?_
 ·skip
  simp only [keepS,keepE,lk_cons,List.cons_append,List.nil_append,↓reduceIte]
  refine Le.lit [] [(5000,112)] _ _ ?_ ?_ ?_ ?_
  ·simp only [zL,simprocAttr]
  ·simp only [zL,simprocAttr]
   all_goals (simp [numsL,putS];(repeat' (((simp [brow,C.isD];done)))))
  ·simp [rlook]
  ·first | (simp;done) | (intro k hk;simp [rlook];omega)
 rintro ⟨i,hi⟩
 simp only [keepS,keepE,lk_cons,List.cons_append,List.nil_append,↓reduceIte]
 simp only [zX]
 refine aw_reg 224 (RG.go fun Q hQ=>?_)
 simp (disch:=intros;contradiction) only [zS,zW,simprocAttr]
 refine hQ (RG.nil ?_)
 simp only [zX]
 refine aw_cond _ rfl trivial (fun ht=>?_) (fun hf=>?_)
 ·skip
  try simp at ht
  simp only [zX]
  have hi' : i < l.length:=by omega
  have e1:=numsL_len (l.take i)
  have e2:=putS1_len l[i]
  have e3:=putS1_len l.length
  simp only [List.length_take] at e1
  have e4 : (putS [u64N l.length] ++ numsL (l.take i)).map brow ++ (putS [u64N l[i]]).map brow = (putS [u64N l.length] ++ numsL (l.take (i + 1))).map brow:=by rw [placeB_succ _ l i hi',List.map_append (l₁:=_ ++ _)]
  refine aw_reg 320 (RG.go fun Q hQ=>?_)
  simp (disch:=first | (intros;contradiction) | omega | (simp only [zN];omega)) only [zS,zW,nrow,simprocAttr]
  repeat refine ⟨by (omega),?_⟩
  refine hQ ?_
  refine RG.callo [] [400] (num1_16 l[i]) (.mk (tr_cons (tr_view (by simp) rfl (by simp [isDRows,C.isD])) tr_nil) (by first | trivial | (simp only [zT,simprocAttr];done) | (simp only [zT,simprocAttr];trivial) | (simp only [zT,simprocAttr];repeat' (fail))) (by simp) (by simp) (views1 rfl trivial) (by first | (simp [lkE_cons,lkE_nil];done) | (intro j hj;simp at hj;simp only [setEs,setE_cons,setE_nil,lkE_cons,lkE_nil];repeat rw [if_neg (by omega)])) (by first | (simp [Ent.pure];done) | (simp [Ent.pure];repeat' ((exact drows_brow _)))) (by simp) (by simp)) ?_
  refine RG.go fun Q hQ=>?_
  simp (disch:=intros;contradiction) only [zS,zW,e4,simprocAttr]
  repeat refine ⟨by (exact ⟨by (intro q hq;obtain ⟨_,_,rfl⟩:=List.mem_map.1 hq;rfl),by omega⟩),?_⟩
  refine hQ (RG.nil ?_)
  simp only [zX]
  refine aw_reg 496 (RG.go fun Q hQ=>?_)
  simp (disch:=first | (intros;contradiction) | omega | (simp only [zN];omega)) only [zS,zW,simprocAttr]
  refine hQ (RG.nil ?_)
  simp only [zX]
  refine ⟨⟨i + 1,by omega⟩,?_,by first | omega | (simp only;omega)⟩
  refine Le.lit [] [(5000,432)] _ _ ?_ ?_ ?_ ?_
  ·simp only [zL,simprocAttr]
   all_goals (try ((repeat' (rfl))))
  ·simp only [zL,simprocAttr]
   all_goals (try ((repeat' ((exact drows_brow _)))))
  ·simp [rlook]
  ·first | (simp;done) | (intro k hk;simp [rlook];omega)
 try simp at hf
 simp only [zX,↓reduceIte]
 obtain rfl : i = l.length:=by omega
 rw [List.take_length]
 refine aw_reg 576 (RG.go fun Q hQ=>?_)
 simp (disch:=intros;contradiction) only [zS,simprocAttr]
 refine hQ (RG.nil ?_)
 simp only [zX]
 refine Fin.objs [] [(0,5000)] (.inr rfl) rfl (by first | exact trivial | exact ⟨trivial,trivial⟩ | exact ⟨trivial,trivial,trivial⟩) ?_ ?_ (by simp [objL,rlook]) (by first | (simp [objL,rlook];done) | (intro k hk;simp [objL,rlook];omega))
 ·simp only [zL,simprocAttr]
 ·simp only [zL,simprocAttr]
  all_goals (try ((repeat' (first | (exact drows_brow _) | rfl | refine ⟨?_,?_⟩))))

def itB (x : IT) : List Nat:=putS [u64N x.b] ++ (num7 x.d.length ++ x.d)
def itsB (l : List IT) : List Nat:=l.flatMap itB
def itemsB (l : List IT) : List Nat:=putS [u64N l.length] ++ itsB l
theorem itsB_succ (l : List IT) (i : Nat) (hi : i < l.length) : itsB (l.take (i + 1)) = itsB (l.take i) ++ itB l[i]:=by
 unfold itsB;rw [take_one l i hi,List.flatMap_append];simp
theorem itB_len (x : IT) (h : x.d.length≤1000000) : (itB x).length≤x.d.length + 20:=by
 have h1:=putS1_len x.b
 have h2:=num7_len x.d.length (by omega)
 unfold itB;simp only [List.length_append];omega
theorem itsB_len : ∀ (l : List IT),(∀ x ∈ l,x.d.length≤1000000)→(itsB l).length≤l.length * 1000020
 | [],_=>by simp [itsB]
 | x :: l,h=>by
  have h1:=itB_len x (h x (by simp))
  have h2:=itsB_len l fun y hy=>h y (by simp [hy])
  have h3:=h x (by simp)
  have : itsB (x :: l) = itB x ++ itsB l:=rfl
  rw [this,List.length_append,List.length_cons];omega

theorem PutItems_con (l : List IT) (hl : l.length≤1000000) (hd : ∀ x ∈ l,x.d.length≤1000000) : Con Try.prog 74 [.c (.sl (l.map irow))] [] (.c (.osl 0)) [.arr 5 1 ((itemsB l).map brow) false]:=by
 refine C_mementoref13_PutItems (Nat.le_of_ble_eq_true rfl) (Nat.le_of_ble_eq_true rfl) ?_
 simp only [cz,A_mementoref13_PutItems,argL,objL,List.length_nil,zX]
 refine aw_reg 16 (RG.go fun Q hQ=>?_)
 simp (disch:=intros;contradiction) only [zS,simprocAttr]
 refine hQ (RG.nil ?_)
 simp only [zX]
 refine aw_reg 64 (RG.go fun Q hQ=>?_)
 simp (disch:=intros;contradiction) only [zS,zW,simprocAttr]
 refine hQ ?_
 refine RG.callo [] [96] (num1_13 (l.length : Int)) (.mk (tr_cons (tr_view (by simp) rfl (by simp [isDRows,C.isD])) tr_nil) (by first | trivial | (simp only [zT,simprocAttr];done) | (simp only [zT,simprocAttr];trivial) | (simp only [zT,simprocAttr];repeat' (fail))) (by simp) (by simp) (views1 rfl trivial) (by first | (simp [lkE_cons,lkE_nil];done) | (intro j hj;simp at hj;simp only [setEs,setE_cons,setE_nil,lkE_cons,lkE_nil];repeat rw [if_neg (by omega)])) (by first | (simp [Ent.pure];done) | (simp [Ent.pure];repeat' ((exact drows_brow _)))) (by simp) (by simp)) ?_
 refine RG.go fun Q hQ=>?_
 simp (disch:=intros;contradiction) only [zS,simprocAttr]
 refine hQ (RG.nil ?_)
 simp only [zX]
 refine aw_reg 176 (RG.go fun Q hQ=>?_)
 simp (disch:=intros;contradiction) only [zS,simprocAttr]
 refine hQ (RG.nil ?_)
 simp only [zX]
 refine aw_loopK (X:={ i : Nat // i≤l.length }) [0] (fun i=>[(3,.c (.osl 5000)),(4,I i.1)]) [] (fun i=>[(5000,.arr 5 1 ((putS [u64N l.length] ++ itsB (l.take i.1)).map brow) false)]) (fun i=>l.length - i.1) (⟨0,by omega⟩) ?_ ?_
 ·skip
  simp only [keepS,keepE,lk_cons,List.cons_append,List.nil_append,↓reduceIte]
  refine Le.lit [] [(5000,112)] _ _ ?_ ?_ ?_ ?_
  ·simp only [zL,simprocAttr]
  ·simp only [zL,simprocAttr]
   all_goals (simp [itsB];(repeat' (((simp [brow,C.isD];done)))))
  ·simp [rlook]
  ·first | (simp;done) | (intro k hk;simp [rlook];omega)
 rintro ⟨i,hi⟩
 simp only [keepS,keepE,lk_cons,List.cons_append,List.nil_append,↓reduceIte]
 simp only [zX]
 refine aw_reg 224 (RG.go fun Q hQ=>?_)
 simp (disch:=intros;contradiction) only [zS,zW,simprocAttr]
 refine hQ (RG.nil ?_)
 simp only [zX]
 refine aw_cond _ rfl trivial (fun ht=>?_) (fun hf=>?_)
 ·skip
  try simp at ht
  simp only [zX]
  have hi' : i < l.length:=by omega
  have hx:=hd _ (List.getElem_mem hi')
  have e1:=itsB_len (l.take i) (fun x hx=>hd x (List.mem_of_mem_take hx))
  have e2:=putS1_len l[i].b
  have e3:=putS1_len l.length
  have e5:=num7_len l[i].d.length (by omega)
  simp only [List.length_take] at e1
  have e4 : (putS [u64N l.length] ++ itsB (l.take i)).map brow ++ (putS [u64N l[i].b]).map brow ++ (num7 l[i].d.length ++ l[i].d).map brow = (putS [u64N l.length] ++ itsB (l.take (i + 1))).map brow:=by
   rw [itsB_succ l i hi',← List.map_append,← List.map_append];simp only [itB,List.append_assoc]
  refine aw_draw 320 (RG.go fun Q hQ=>?_)
  simp (disch:=first | (intros;contradiction) | omega | (simp only [zN];omega)) only [zS,zW,irow,itC,simprocAttr]
  repeat refine ⟨by (omega),?_⟩
  refine hQ ?_
  refine RG.callo [] [416] (num1_13 l[i].b) (.mk (tr_cons (tr_view (by simp) rfl (by simp [isDRows,C.isD])) tr_nil) (by first | trivial | (simp only [zT,simprocAttr];done) | (simp only [zT,simprocAttr];trivial) | (simp only [zT,simprocAttr];repeat' (fail))) (by simp) (by simp) (views1 rfl trivial) (by first | (simp [lkE_cons,lkE_nil];done) | (intro j hj;simp at hj;simp only [setEs,setE_cons,setE_nil,lkE_cons,lkE_nil];repeat rw [if_neg (by omega)])) (by first | (simp [Ent.pure];done) | (simp [Ent.pure];repeat' ((exact drows_brow _)))) (by simp) (by simp)) ?_
  refine RG.go fun Q hQ=>?_
  simp (disch:=first | (intros;contradiction) | omega | (simp only [zN];omega)) only [zS,zW,irow,itC,simprocAttr]
  repeat refine ⟨by (first | omega | exact ⟨by (intro q hq;obtain ⟨_,_,rfl⟩:=List.mem_map.1 hq;rfl),by omega⟩),?_⟩
  refine hQ ?_
  refine RG.callo [] [] (mementoref1_Lump_con l[i].d (by omega)) (.mk (by (repeat' (first | exact tr_nil | refine tr_cons ?_ ?_ | exact tr_sl))) (by first | trivial | (simp only [zT,simprocAttr];done) | (simp only [zT,simprocAttr];trivial) | (simp only [zT,simprocAttr];repeat' (fail))) (by simp) (by simp) (trivial) (by first | (simp [lkE_cons,lkE_nil];done) | (intro j hj;simp at hj;simp only [setEs,setE_cons,setE_nil,lkE_cons,lkE_nil];repeat rw [if_neg (by omega)])) (by first | (simp [Ent.pure];done) | (simp [Ent.pure];repeat' (((rw [← List.map_append];first | exact drows_brow _ | exact drows_nrow _ | exact drows_irow _ | exact drows_wrow _))))) (by simp) (by simp)) ?_
  refine RG.go fun Q hQ=>?_
  simp (disch:=intros;contradiction) only [zS,zW,e4,simprocAttr]
  repeat refine ⟨by (exact ⟨by (intro q hq;obtain ⟨_,_,rfl⟩:=List.mem_map.1 hq;rfl),by omega⟩),?_⟩
  refine hQ (RG.nil ⟨by decide +kernel,?_⟩)
  simp only [zX]
  refine aw_reg 624 (RG.go fun Q hQ=>?_)
  simp (disch:=first | (intros;contradiction) | omega | (simp only [zN];omega)) only [zS,zW,simprocAttr]
  refine hQ (RG.nil ?_)
  simp only [zX]
  refine ⟨⟨i + 1,by omega⟩,?_,by first | omega | (simp only;omega)⟩
  refine Le.lit [] [(5000,560)] _ _ ?_ ?_ ?_ ?_
  ·simp only [zL,simprocAttr]
   all_goals (try ((repeat' (rfl))))
  ·simp only [zL,simprocAttr]
   all_goals (try ((repeat' ((exact drows_brow _)))))
  ·simp [rlook]
  ·first | (simp;done) | (intro k hk;simp [rlook];omega)
 try simp at hf
 simp only [zX,↓reduceIte]
 obtain rfl : i = l.length:=by omega
 rw [List.take_length]
 refine aw_reg 704 (RG.go fun Q hQ=>?_)
 simp (disch:=intros;contradiction) only [zS,simprocAttr]
 refine hQ (RG.nil ?_)
 simp only [zX]
 refine Fin.objs [] [(0,5000)] (.inr rfl) rfl (by first | exact trivial | exact ⟨trivial,trivial⟩ | exact ⟨trivial,trivial,trivial⟩) ?_ ?_ (by simp [objL,rlook]) (by first | (simp [objL,rlook];done) | (intro k hk;simp [objL,rlook];omega))
 ·simp only [zL,simprocAttr]
 ·simp only [zL,simprocAttr]
  all_goals (try ((repeat' (first | (exact drows_brow _) | rfl | refine ⟨?_,?_⟩))))

end Go.Abs

namespace Go.Abs
open Go Go.Proofs
set_option maxRecDepth 100000
set_option linter.unusedSimpArgs false
set_option maxHeartbeats 4000000

theorem within16_con (n : Int) : Con Try.prog 83 [I n] [] (B (inR n 0 1099511627776)) []:=by
 refine C_mementoref16_within (Nat.le_of_ble_eq_true rfl) (Nat.le_of_ble_eq_true rfl) ?_
 simp only [cz,A_mementoref16_within,argL,objL,List.length_nil,zX]
 refine aw_reg 16 (RG.go fun Q hQ=>?_)
 simp (disch:=intros;contradiction) only [zS,simprocAttr]
 refine hQ (RG.nil ?_)
 simp only [zX]
 refine aw_reg 64 (RG.go fun Q hQ=>?_)
 simp (disch:=intros;contradiction) only [zS,simprocAttr]
 refine hQ (RG.nil ?_)
 simp only [zX]
 refine Fin.b (.inr rfl) rfl trivial ?_
 simp [inR]

def itC8 (x : IT) : Bool:=inR x.b 0 255 && decide (x.d.length≤32)
def cmdR (c : CMD) : Bool :=
 inR c.kind 1 8 && inR c.vol 0 7 && inR c.blocks 0 1099511627776 && inR c.size 0 1099511627776 && inR c.per 0 1099511627776 && inR c.total 0 1099511627776 && inR c.index 0 1099511627776 && inR c.at' 0 1099511627776 &&
  decide (c.place.length≤256) && decide (c.items.length≤8) && (c.place.all fun n=>inR n 0 7) && c.items.all itC8

theorem CmdRight_con (c : CMD) (hp : c.place.length≤1000000) (hl : c.items.length≤1000000) : Con Try.prog 71 [.agg (cmdC c)] [] (B (cmdR c)) []:=by
 obtain ⟨c1,c2,c3,c4,c5,c6,c7,c8,c9,c10⟩:=c
 simp only at hp hl
 have hs : cmdR ⟨c1,c2,c3,c4,c5,c6,c7,c8,c9,c10⟩ = (inR c1 1 8 && inR c2 0 7 && inR c3 0 1099511627776 && inR c4 0 1099511627776 && inR c5 0 1099511627776 && inR c7 0 1099511627776 && inR c9 0 1099511627776 && inR c8 0 1099511627776 &&
  decide (c6.length≤256) && decide (c10.length≤8) && (c6.all fun n=>inR n 0 7) && c10.all itC8):=rfl
 refine C_mementoref16_CmdRight (Nat.le_of_ble_eq_true rfl) (Nat.le_of_ble_eq_true rfl) ?_
 simp only [cz,A_mementoref16_CmdRight,argL,objL,List.length_nil,zX]
 refine aw_reg 16 (RG.go fun Q hQ=>?_)
 simp (disch:=intros;contradiction) only [zS,cmdC,cC,simprocAttr]
 refine hQ (RG.nil ?_)
 simp only [zX]
 refine aw_reg 80 (RG.go fun Q hQ=>?_)
 simp (disch:=intros;contradiction) only [zS,simprocAttr]
 repeat refine ⟨by ((simp;done)),?_⟩
 refine hQ ?_
 refine RG.callg _ _ [] rfl (fun hg=>⟨_,(within16_con c3),by (repeat' (first | exact tr_nil | refine tr_cons ?_ ?_ | exact tr_opt (by simpa using hg) tr_v)),trivial,by (exact .inl trivial)⟩) ?_
 refine RG.go fun Q hQ=>?_
 simp (disch:=intros;contradiction) only [zS,simprocAttr]
 repeat refine ⟨by ((simp;done)),?_⟩
 refine hQ ?_
 refine RG.callg _ _ [] rfl (fun hg=>⟨_,(within16_con c4),by (repeat' (first | exact tr_nil | refine tr_cons ?_ ?_ | exact tr_opt (by simpa using hg) tr_v)),trivial,by (exact .inl trivial)⟩) ?_
 refine RG.go fun Q hQ=>?_
 simp (disch:=intros;contradiction) only [zS,simprocAttr]
 repeat refine ⟨by ((simp;done)),?_⟩
 refine hQ ?_
 refine RG.callg _ _ [] rfl (fun hg=>⟨_,(within16_con c5),by (repeat' (first | exact tr_nil | refine tr_cons ?_ ?_ | exact tr_opt (by simpa using hg) tr_v)),trivial,by (exact .inl trivial)⟩) ?_
 refine RG.go fun Q hQ=>?_
 simp (disch:=intros;contradiction) only [zS,simprocAttr]
 repeat refine ⟨by ((simp;done)),?_⟩
 refine hQ ?_
 refine RG.callg _ _ [] rfl (fun hg=>⟨_,(within16_con c7),by (repeat' (first | exact tr_nil | refine tr_cons ?_ ?_ | exact tr_opt (by simpa using hg) tr_v)),trivial,by (exact .inl trivial)⟩) ?_
 refine RG.go fun Q hQ=>?_
 simp (disch:=intros;contradiction) only [zS,simprocAttr]
 repeat refine ⟨by ((simp;done)),?_⟩
 refine hQ ?_
 refine RG.callg _ _ [] rfl (fun hg=>⟨_,(within16_con c9),by (repeat' (first | exact tr_nil | refine tr_cons ?_ ?_ | exact tr_opt (by simpa using hg) tr_v)),trivial,by (exact .inl trivial)⟩) ?_
 refine RG.go fun Q hQ=>?_
 simp (disch:=intros;contradiction) only [zS,simprocAttr]
 repeat refine ⟨by ((simp;done)),?_⟩
 refine hQ ?_
 refine RG.callg _ _ [] rfl (fun hg=>⟨_,(within16_con c8),by (repeat' (first | exact tr_nil | refine tr_cons ?_ ?_ | exact tr_opt (by simpa using hg) tr_v)),trivial,by (exact .inl trivial)⟩) ?_
 refine RG.go fun Q hQ=>?_
 simp (disch:=intros;contradiction) only [zS,zW,simprocAttr]
 repeat refine ⟨by ((simp;done)),?_⟩
 refine hQ (RG.nil ?_)
 simp only [zX]
 refine aw_cond _ rfl trivial (fun ht=>?_) (fun hf=>?_)
 ·skip
  try simp at ht
  simp only [zX]
  refine aw_reg 1168 (RG.go fun Q hQ=>?_)
  simp (disch:=intros;contradiction) only [zS,simprocAttr]
  refine hQ (RG.nil ?_)
  simp only [zX]
  refine Fin.b (.inr rfl) rfl trivial ?_
  rw [hs,eq_comm,Bool.eq_false_iff]
  intro h
  simp only [Bool.and_eq_true,inR_iff,decide_eq_true_eq] at h
  simp only [Bool.eq_false_iff,ne_eq,inR_iff] at ht
  omega
 try simp at hf
 simp only [zX]
 simp only [inR_iff] at hf
 have hq : cmdR ⟨c1,c2,c3,c4,c5,c6,c7,c8,c9,c10⟩ = ((c6.all fun n=>inR n 0 7) && c10.all itC8):=by
  rw [hs]
  have : inR c1 1 8 = true∧inR c2 0 7 = true∧inR c3 0 1099511627776 = true∧inR c4 0 1099511627776 = true∧inR c5 0 1099511627776 = true∧inR c7 0 1099511627776 = true∧inR c9 0 1099511627776 = true∧inR c8 0 1099511627776 = true∧c6.length≤256∧c10.length≤8:=by
   simp only [inR_iff];omega
  obtain ⟨q1,q2,q3,q4,q5,q6,q7,q8,q9,q10⟩:=this
  simp [q1,q2,q3,q4,q5,q6,q7,q8,q9,q10]
 rw [hq]
 refine aw_reg 1216 (RG.go fun Q hQ=>?_)
 simp (disch:=intros;contradiction) only [zS,simprocAttr]
 refine hQ (RG.nil ?_)
 simp only [zX]
 refine aw_loopK (X:={ i : Nat // i≤c6.length∧(c6.take i).all (fun n=>inR n 0 7) = true }) [1] (fun i=>[(3,I i.1)]) [16] (fun i=>[]) (fun i=>c6.length - i.1) (⟨0,by omega,rfl⟩) ?_ ?_
 ·skip
  simp only [keepS,keepE,Option.getD_some,lk_cons,lkE_cons,List.cons_append,List.nil_append,simprocAttr]
  refine Le.lit [] [] _ _ ?_ ?_ ?_ ?_
  ·simp only [zL,simprocAttr]
  ·simp only [zL,↓reduceIte]
  ·simp [rlook]
  ·first | (simp;done) | (intro k hk;simp [rlook];omega)
 rintro ⟨i,hi,ha⟩
 simp only [keepS,keepE,Option.getD_some,lk_cons,lkE_cons,List.cons_append,List.nil_append,simprocAttr]
 simp only [zX]
 refine aw_reg 1264 (RG.go fun Q hQ=>?_)
 simp (disch:=intros;contradiction) only [zS,zW,simprocAttr]
 refine hQ (RG.nil ?_)
 simp only [zX]
 refine aw_cond _ rfl trivial (fun ht=>?_) (fun hf=>?_)
 ·skip
  try simp at ht
  simp only [zX]
  have h1 : i < c6.length:=by omega
  refine aw_reg 1376 (RG.go fun Q hQ=>?_)
  simp (disch:=first | (intros;contradiction) | omega | (simp only [zN];omega)) only [zS,zW,nrow,simprocAttr]
  repeat refine ⟨by (first | omega | (simp;omega) | (simp;done)),?_⟩
  refine hQ (RG.nil ?_)
  simp only [zX]
  refine aw_cond _ rfl trivial (fun ht=>?_) (fun hf=>?_)
  ·skip
   try simp at ht
   simp only [zX]
   refine aw_reg 1632 (RG.go fun Q hQ=>?_)
   simp (disch:=intros;contradiction) only [zS,simprocAttr]
   refine hQ (RG.nil ?_)
   simp only [zX]
   refine Fin.b (.inr rfl) rfl trivial ?_
   rw [all_no h1]
   ·rfl
   rw [← Bool.not_eq_true,inR_iff];omega
  try simp at hf
  simp only [zX]
  refine aw_reg 1680 (RG.go fun Q hQ=>?_)
  simp (disch:=first | (intros;contradiction) | omega | (simp only [zN];omega)) only [zS,zW,simprocAttr]
  refine hQ (RG.nil ?_)
  simp only [zX]
  refine ⟨⟨i + 1,by omega,by rw [all_succ h1,ha,Bool.true_and,inR_iff];omega⟩,?_,by first | omega | (simp only;omega)⟩
  refine Le.lit [] [] _ _ ?_ ?_ ?_ ?_
  ·simp only [zL,simprocAttr]
   all_goals (try ((repeat' (rfl))))
  ·simp only [zL,↓reduceIte]
  ·simp [rlook]
  ·first | (simp;done) | (intro k hk;simp [rlook];omega)
 try simp at hf
 simp only [zX,↓reduceIte]
 have ha6:=all_yes (by omega) ha
 rw [ha6,Bool.true_and]
 refine aw_reg 1760 (RG.go fun Q hQ=>?_)
 simp (disch:=intros;contradiction) only [zS,simprocAttr]
 refine hQ (RG.nil ?_)
 simp only [zX]
 refine aw_loopK (X:={ i : Nat // i≤c10.length∧(c10.take i).all itC8 = true }) [1] (fun i=>[(4,I i.1)]) [16] (fun i=>[]) (fun i=>c10.length - i.1) (⟨0,by omega,rfl⟩) ?_ ?_
 ·skip
  simp only [keepS,keepE,Option.getD_some,lk_cons,lkE_cons,List.cons_append,List.nil_append,simprocAttr]
  refine Le.lit [] [] _ _ ?_ ?_ ?_ ?_
  ·simp only [zL,simprocAttr]
  ·simp only [zL,↓reduceIte]
  ·simp [rlook]
  ·first | (simp;done) | (intro k hk;simp [rlook];omega)
 rintro ⟨i,hi,ha⟩
 simp only [keepS,keepE,Option.getD_some,lk_cons,lkE_cons,List.cons_append,List.nil_append,simprocAttr]
 simp only [zX]
 refine aw_reg 1808 (RG.go fun Q hQ=>?_)
 simp (disch:=intros;contradiction) only [zS,zW,simprocAttr]
 refine hQ (RG.nil ?_)
 simp only [zX]
 refine aw_cond _ rfl trivial (fun ht=>?_) (fun hf=>?_)
 ·skip
  try simp at ht
  simp only [zX]
  have h1 : i < c10.length:=by omega
  refine aw_reg 1920 (RG.go fun Q hQ=>?_)
  simp (disch:=first | (intros;contradiction) | omega | (simp only [zN];omega)) only [zS,zW,irow,itC,simprocAttr]
  repeat refine ⟨by (first | omega | (simp;omega) | (simp;done)),?_⟩
  refine hQ (RG.nil ?_)
  simp only [zX]
  refine aw_cond _ rfl trivial (fun ht=>?_) (fun hf=>?_)
  ·skip
   try simp at ht
   simp only [zX]
   refine aw_reg 2368 (RG.go fun Q hQ=>?_)
   simp (disch:=intros;contradiction) only [zS,simprocAttr]
   refine hQ (RG.nil ?_)
   simp only [zX]
   refine Fin.b (.inr rfl) rfl trivial ?_
   rw [all_no h1]
   rw [← Bool.not_eq_true,itC8];simp only [Bool.and_eq_true,inR_iff,decide_eq_true_eq];omega
  try simp at hf
  simp only [zX]
  refine aw_reg 2416 (RG.go fun Q hQ=>?_)
  simp (disch:=first | (intros;contradiction) | omega | (simp only [zN];omega)) only [zS,zW,simprocAttr]
  refine hQ (RG.nil ?_)
  simp only [zX]
  refine ⟨⟨i + 1,by omega,by rw [all_succ h1,ha,Bool.true_and];simp only [itC8,Bool.and_eq_true,inR_iff,decide_eq_true_eq];omega⟩,?_,by first | omega | (simp only;omega)⟩
  refine Le.lit [] [] _ _ ?_ ?_ ?_ ?_
  ·simp only [zL,simprocAttr]
   all_goals (try ((repeat' (rfl))))
  ·simp only [zL,↓reduceIte]
  ·simp [rlook]
  ·first | (simp;done) | (intro k hk;simp [rlook];omega)
 try simp at hf
 simp only [zX,↓reduceIte]
 refine aw_reg 2496 (RG.go fun Q hQ=>?_)
 simp (disch:=intros;contradiction) only [zS,simprocAttr]
 refine hQ (RG.nil ?_)
 simp only [zX]
 refine Fin.b (.inr rfl) rfl trivial ?_
 rw [all_yes (by omega) ha]

def cmdB (c : CMD) : List Nat:=numsL [c.kind,c.vol,c.blocks,c.size,c.per,c.total,c.at',c.index] ++ placeB c.place ++ itemsB c.items
abbrev putC (c : CMD) : SV:=.tup [.c (.sl ((if cmdR c = true then cmdB c else []).map brow)),I (if cmdR c = true then 0 else 23)]

theorem PutCmd_con (c : CMD) (hp : c.place.length≤1000000) (hl : c.items.length≤1000000) (hd : ∀ x ∈ c.items,x.d.length≤1000000) : Con Try.prog 53 [.agg (cmdC c)] [] (putC c) []:=by
 have cR:=CmdRight_con c hp hl
 have e1:=numsL_len [c.kind,c.vol,c.blocks,c.size,c.per,c.total,c.at',c.index]
 have e2:=numsL_len c.place
 have e3:=putS1_len c.place.length
 have e4:=itsB_len c.items hd
 have e5:=putS1_len c.items.length
 cases hr : cmdR c
 ·have hE : putC c = .tup [.c (.sl []),I 23]:=by simp [putC,hr]
  rw [hE]
  rw [hr] at cR
  refine C_mementoref16_PutCmd (Nat.le_of_ble_eq_true rfl) (Nat.le_of_ble_eq_true rfl) ?_
  simp only [cz,A_mementoref16_PutCmd,argL,objL,List.length_nil,zX]
  refine aw_reg 16 (RG.go fun Q hQ=>?_)
  simp (disch:=intros;contradiction) only [zS,cmdC,cC,simprocAttr]
  refine hQ (RG.nil ?_)
  simp only [zX]
  refine aw_reg 96 (RG.go fun Q hQ=>?_)
  simp (disch:=intros;contradiction) only [zS,simprocAttr]
  refine hQ ?_
  refine RG.call [] (cR) (by (repeat' (first | exact tr_nil | refine tr_cons ?_ ?_ | exact tr_agg (by repeat' (first | exact trivial | rfl | refine ⟨?_,?_⟩))))) trivial (by (exact .inl trivial)) ?_
  refine RG.go fun Q hQ=>?_
  simp (disch:=intros;contradiction) only [zS,simprocAttr]
  refine hQ (RG.nil ?_)
  simp only [zX]
  refine aw_cond _ rfl trivial (fun ht=>?_) (fun hf=>by cases hf)
  simp only [zX]
  refine aw_reg 176 (RG.go fun Q hQ=>?_)
  simp (disch:=intros;contradiction) only [zS,simprocAttr]
  refine hQ (RG.nil ?_)
  simp only [zX]
  refine Fin.data [] (.inr rfl) rfl (by (exact trivial)) ?_
  simp only [zL,simprocAttr]
  all_goals (skip)

 ·have hE : putC c = .tup [.c (.sl ((numsL [c.kind,c.vol,c.blocks,c.size,c.per,c.total,c.at',c.index]).map brow ++ (placeB c.place).map brow ++ (itemsB c.items).map brow)),I 0]:=by
   simp [putC,hr,cmdB,List.map_append]
  have hE2 : (cmdB c).map brow = (numsL [c.kind,c.vol,c.blocks,c.size,c.per,c.total,c.at',c.index]).map brow ++ (placeB c.place).map brow ++ (itemsB c.items).map brow:=by
   unfold cmdB;rw [List.map_append,List.map_append]
  have hdr : isDRows ((numsL [c.kind,c.vol,c.blocks,c.size,c.per,c.total,c.at',c.index]).map brow ++ (placeB c.place).map brow ++ (itemsB c.items).map brow):=by rw [← hE2];exact drows_brow _
  rw [hE]
  rw [hr] at cR
  have e6 : (numsL [c.kind,c.vol,c.blocks,c.size,c.per,c.total,c.at',c.index]).length≤80:=by simpa using e1
  have e7 : (placeB c.place).length≤10000010:=by unfold placeB;rw [List.length_append];omega
  have e8 : (itemsB c.items).length≤10 + c.items.length * 1000020:=by unfold itemsB;rw [List.length_append];omega
  refine C_mementoref16_PutCmd (Nat.le_of_ble_eq_true rfl) (Nat.le_of_ble_eq_true rfl) ?_
  simp only [cz,A_mementoref16_PutCmd,argL,objL,List.length_nil,zX]
  refine aw_reg 16 (RG.go fun Q hQ=>?_)
  simp (disch:=intros;contradiction) only [zS,cmdC,cC,simprocAttr]
  refine hQ (RG.nil ?_)
  simp only [zX]
  refine aw_reg 96 (RG.go fun Q hQ=>?_)
  simp (disch:=intros;contradiction) only [zS,simprocAttr]
  refine hQ ?_
  refine RG.call [] (cR) (by (repeat' (first | exact tr_nil | refine tr_cons ?_ ?_ | exact tr_agg (by repeat' (first | exact trivial | rfl | refine ⟨?_,?_⟩))))) trivial (by (exact .inl trivial)) ?_
  refine RG.go fun Q hQ=>?_
  simp (disch:=intros;contradiction) only [zS,simprocAttr]
  refine hQ (RG.nil ?_)
  simp only [zX]
  refine aw_cond _ rfl trivial (fun ht=>by cases ht) (fun hf=>?_)
  simp only [zX]
  refine aw_reg 176 (RG.go fun Q hQ=>?_)
  simp (disch:=intros;contradiction) only [zS,simprocAttr]
  refine hQ ?_
  refine RG.callo [] [432] (nums16_con [c.kind,c.vol,c.blocks,c.size,c.per,c.total,c.at',c.index] (by simp)) (.mk (tr_cons (tr_view (by simp) rfl (by simp [isDRows,nrow,C.isD])) tr_nil) (by first | trivial | (simp only [zT,simprocAttr];done) | (simp only [zT,simprocAttr];trivial) | (simp only [zT,simprocAttr];repeat' (fail))) (by simp) (by simp) (views1 rfl trivial) (by first | (simp [lkE_cons,lkE_nil];done) | (intro j hj;simp at hj;simp only [setEs,setE_cons,setE_nil,lkE_cons,lkE_nil];repeat rw [if_neg (by omega)])) (by first | (simp [Ent.pure];done) | (simp [Ent.pure];repeat' ((exact drows_brow _)))) (by simp) (by simp)) ?_
  refine RG.go fun Q hQ=>?_
  simp (disch:=intros;contradiction) only [zS,simprocAttr]
  refine hQ (RG.nil ?_)
  simp only [zX]
  refine aw_draw 512 (RG.go fun Q hQ=>?_)
  simp (disch:=intros;contradiction) only [zS,simprocAttr]
  refine hQ ?_
  refine RG.callo [] [] (place_con c.place hp) (.mk (by (repeat' (first | exact tr_nil | refine tr_cons ?_ ?_ | exact tr_sl))) (by first | trivial | (simp only [zT,simprocAttr];done) | (simp only [zT,simprocAttr];trivial) | (simp only [zT,simprocAttr];repeat' (fail))) (by simp) (by simp) (trivial) (by first | (simp [lkE_cons,lkE_nil];done) | (intro j hj;simp at hj;simp only [setEs,setE_cons,setE_nil,lkE_cons,lkE_nil];repeat rw [if_neg (by omega)])) (by first | (simp [Ent.pure];done) | (simp [Ent.pure];repeat' ((exact drows_brow _)))) (by simp) (by simp)) ?_
  refine RG.go fun Q hQ=>?_
  simp (disch:=intros;contradiction) only [zS,zW,simprocAttr]
  repeat refine ⟨by (exact ⟨by (intro q hq;obtain ⟨_,_,rfl⟩:=List.mem_map.1 hq;rfl),by omega⟩),?_⟩
  refine hQ ?_
  refine RG.callo [] [] (PutItems_con c.items hl hd) (.mk (by (repeat' (first | exact tr_nil | refine tr_cons ?_ ?_ | exact tr_sl))) (by first | trivial | (simp only [zT,simprocAttr];done) | (simp only [zT,simprocAttr];trivial) | (simp only [zT,simprocAttr];repeat' (fail))) (by simp) (by simp) (trivial) (by first | (simp [lkE_cons,lkE_nil];done) | (intro j hj;simp at hj;simp only [setEs,setE_cons,setE_nil,lkE_cons,lkE_nil];repeat rw [if_neg (by omega)])) (by first | (simp [Ent.pure];done) | (simp [Ent.pure];repeat' ((exact drows_brow _)))) (by simp) (by simp)) ?_
  refine RG.go fun Q hQ=>?_
  simp (disch:=intros;contradiction) only [zS,zW,simprocAttr]
  repeat refine ⟨by (exact ⟨by (intro q hq;obtain ⟨_,_,rfl⟩:=List.mem_map.1 hq;rfl),by omega⟩),?_⟩
  refine hQ (RG.nil ⟨by decide +kernel,?_⟩)
  simp only [zX]
  refine Fin.data [640] (.inr rfl) rfl (by (exact trivial)) ?_
  simp only [zL,simprocAttr]
  all_goals ((repeat' ((refine ⟨⟨_,_,rfl⟩,?_⟩;(assumption)))))

end Go.Abs

namespace Go.Abs
open Go Go.Proofs
set_option maxRecDepth 100000
set_option linter.unusedSimpArgs false
set_option maxHeartbeats 4000000

theorem lumpR_mem {most : Nat} {l : List Nat} {e : Nat} (hl : ∀ c ∈ l,c < 256) : (∀ c ∈ (lumpR most l e).1,c < 256)∧∀ c ∈ (lumpR most l e).2.1,c < 256:=by
 have h:=numR_mem (most:=most) (e:=e) hl
 unfold lumpR
 split
 ·exact ⟨by simp,h⟩
 split
 ·exact ⟨by simp,by simp⟩
 ·exact ⟨fun c hc=>h c (List.mem_of_mem_take hc),fun c hc=>h c (List.mem_of_mem_drop hc)⟩
theorem lumpR_len {most : Nat} {l : List Nat} {e : Nat} : (lumpR most l e).1.length≤l.length∧(lumpR most l e).2.1.length≤l.length:=by
 have h:=numR_len (most:=most) (l:=l) (e:=e)
 unfold lumpR
 split
 ·exact ⟨by simp,h⟩
 split
 ·exact ⟨by simp,by simp⟩
 ·simp only [List.length_take,List.length_drop];omega
theorem numR_le {most : Nat} {l : List Nat} {e : Nat} : (numR most l e).1≤most:=by
 unfold numR
 split
 ·exact Nat.zero_le _
 split
 ·exact Nat.zero_le _
 split
 ·exact Nat.zero_le _
 ·simp only;omega
structure RestOk (n : Nat) (l : List Nat) : Prop where
 b8 : ∀ c ∈ l,c < 256
 len : l.length≤n
theorem RestOk.num {n : Nat} {l : List Nat} (h : RestOk n l) (most e : Nat) : RestOk n (numR most l e).2.1:=⟨numR_mem h.b8,by have:=h.len;have:=numR_len (most:=most) (l:=l) (e:=e);omega⟩
theorem RestOk.lump {n : Nat} {l : List Nat} (h : RestOk n l) (most e : Nat) : RestOk n (lumpR most l e).2.1:=⟨(lumpR_mem h.b8).2,by have:=h.len;have:=(lumpR_len (most:=most) (l:=l) (e:=e)).2;omega⟩

def tkP : Nat→List Int→List Nat→Nat→List Int × List Nat × Nat
 | 0,acc,l,e=>(acc,l,e)
 | k + 1,acc,l,e=>if e = 0 then tkP k (acc ++ [((numR 8 l e).1 : Int)]) (numR 8 l e).2.1 (numR 8 l e).2.2 else (acc,l,e)
def takeP (l : List Nat) (e : Nat) : List Int × List Nat × Nat:=tkP (numR 256 l e).1 [] (numR 256 l e).2.1 (numR 256 l e).2.2

theorem takePlace_con (l : List Nat) (e n : Nat) (hl : RestOk n l) (hn : n≤100000000000000) :
  Con Try.prog 88 [.c (.bp 0 0)] [Rd l e] (.c (.osl 1)) [Rd (takeP l e).2.1 (takeP l e).2.2,.arr 3 1 ((takeP l e).1.map nrow) false]:=by
 have h1:=hl.len
 have hq:=hl.num 256 e
 have hm : (numR 256 l e).1≤256:=numR_le
 have cN:=mementoref1_Reader_Num_con l e 256 hl.b8 (by omega)
 generalize hR : takeP l e = R
 unfold takeP at hR
 generalize numR 256 l e = q at hR hq hm cN
 obtain ⟨m,l1,e1⟩:=q
 simp only at hR hq hm cN
 refine C_mementoref16_takePlace (Nat.le_of_ble_eq_true rfl) (Nat.le_of_ble_eq_true rfl) ?_
 simp only [cz,A_mementoref16_takePlace,argL,objL,List.length_nil,List.length_cons,Nat.zero_add,zX]
 refine aw_reg 16 (RG.go fun Q hQ=>?_)
 simp (disch:=intros;contradiction) only [zS,simprocAttr]
 refine hQ (RG.nil ?_)
 simp only [zX]
 refine aw_reg 64 (RG.go fun Q hQ=>?_)
 simp (disch:=intros;contradiction) only [zS,simprocAttr]
 refine hQ (RG.nil ?_)
 simp only [zX]
 refine aw_reg 112 (RG.go fun Q hQ=>?_)
 simp (disch:=intros;contradiction) only [zS,simprocAttr]
 refine hQ ?_
 refine RG.callo [0] [] (cN) (.mk (by (repeat' (first | exact tr_nil | refine tr_cons ?_ ?_ | exact tr_v | exact tr_bp rfl))) (by first | trivial | (simp only [zT,↓reduceIte];done) | (simp only [zT,simprocAttr];trivial) | (simp only [zT,simprocAttr];repeat' (fail))) (by simp) (by simp) (trivial) (by first | (simp [lkE_cons,lkE_nil];done) | (intro j hj;simp at hj;simp only [setEs,setE_cons,setE_nil,lkE_cons,lkE_nil];repeat rw [if_neg (by omega)])) (by first | (simp [Ent.pure];done) | (simp [Ent.pure];repeat' (fail))) (by simp) (by simp)) ?_
 refine RG.go fun Q hQ=>?_
 simp (disch:=intros;contradiction) only [zS,simprocAttr]
 refine hQ (RG.nil ?_)
 simp only [zX]
 refine aw_reg 192 (RG.go fun Q hQ=>?_)
 simp (disch:=intros;contradiction) only [zS,simprocAttr]
 refine hQ (RG.nil ?_)
 simp only [zX]
 refine aw_loopK (X:={ p : Nat × List Int × List Nat × Nat // p.1≤m∧p.2.1.length≤p.1∧RestOk n p.2.2.1∧tkP (m - p.1) p.2.1 p.2.2.1 p.2.2.2 = R }) [0,4] (fun p=>[(3,.c (.osl 5000)),(5,.c (.v (.int .u64 p.1.1)))]) [] (fun p=>[(0,Rd p.1.2.2.1 p.1.2.2.2),(5000,.arr 3 1 (p.1.2.1.map nrow) false)]) (fun p=>m - p.1.1) (⟨(0,[],l1,e1),by simp only;omega,by simp,hq,hR⟩) ?_ ?_
 ·skip
  simp only [keepS,keepE,lk_cons,List.cons_append,List.nil_append,simprocAttr]
  refine (Le.own 3 5000 3 1 rfl rfl (by decide)).trans ?_
  simp only [setS_cons,setE_cons,setE_nil,simprocAttr]
  refine Le.lit [] [] _ _ ?_ ?_ ?_ ?_
  ·simp only [zL,simprocAttr]
  ·simp only [zL,simprocAttr]
   all_goals (try ((repeat' (((simp [C.isD];done))))))
  ·simp [rlook]
  ·first | (simp;done) | (intro k hk;simp [rlook];omega)
 rintro ⟨⟨i,acc,l2,e2⟩,k1,k2,k3,k4⟩
 simp only [keepS,keepE,lk_cons,List.cons_append,List.nil_append,simprocAttr]
 simp only [zX]
 simp only at k1 k2 k3 k4
 refine aw_reg 240 (RG.go fun Q hQ=>?_)
 simp (disch:=intros;contradiction) only [zS,simprocAttr]
 refine hQ (RG.nil ?_)
 simp only [zX]
 refine aw_cond _ rfl trivial (fun ht=>?_) (fun hf=>?_)
 ·skip
  try simp at ht
  simp only [zX]
  obtain ⟨d,hd⟩ : ∃ d,m - i = d + 1:=⟨m - i - 1,by omega⟩
  obtain rfl : e2 = 0:=by omega
  have k5:=k3.len
  have k6:=k3.num 8 0
  have k7 : (numR 8 l2 0).1≤8:=numR_le
  have cM:=mementoref1_Reader_Num_con l2 0 8 k3.b8 (by omega)
  rw [hd] at k4
  unfold tkP at k4
  rw [if_pos rfl] at k4
  generalize numR 8 l2 0 = q at k4 k6 k7 cM
  obtain ⟨v,l3,e3⟩:=q
  simp only at k4 k6 k7 cM
  refine aw_reg 432 (RG.go fun Q hQ=>?_)
  simp (disch:=intros;contradiction) only [zS,simprocAttr]
  refine hQ ?_
  refine RG.callo [0] [] (cM) (.mk (by (repeat' (first | exact tr_nil | refine tr_cons ?_ ?_ | exact tr_v | exact tr_bp rfl))) (by first | trivial | (simp only [zT,↓reduceIte];done) | (simp only [zT,simprocAttr];trivial) | (simp only [zT,simprocAttr];repeat' (fail))) (by simp) (by simp) (trivial) (by first | (simp [lkE_cons,lkE_nil];done) | (intro j hj;simp at hj;simp only [setEs,setE_cons,setE_nil,lkE_cons,lkE_nil];repeat rw [if_neg (by omega)])) (by first | (simp [Ent.pure];done) | (simp [Ent.pure];repeat' (fail))) (by simp) (by simp)) ?_
  refine RG.go fun Q hQ=>?_
  simp (disch:=first | (intros;contradiction) | omega | (simp only [zN];omega)) only [zS,zW,simprocAttr]
  have e6 : acc.map nrow ++ [[.v (.int .i64 (v : Int))]] = (acc ++ [(v : Int)]).map nrow:=by rw [List.map_append];rfl
  repeat refine ⟨by ((simp;omega)),?_⟩
  refine hQ (RG.nil ?_)
  simp only [zX]
  refine aw_reg 576 (RG.go fun Q hQ=>?_)
  simp (disch:=first | (intros;contradiction) | omega | (simp only [zN];omega)) only [zS,zW,e6,simprocAttr]
  refine hQ (RG.nil ?_)
  simp only [zX]
  refine ⟨⟨(i + 1,acc ++ [(v : Int)],l3,e3),by simp only;omega,by simp;omega,k6,by simp only;rw [show m - (i + 1) = d by omega];exact k4⟩,?_,by first | omega | (simp only;omega)⟩
  refine Le.lit [] [(5000,512)] _ _ ?_ ?_ ?_ ?_
  ·simp only [zL,simprocAttr]
   all_goals (try ((repeat' (rfl))))
  ·simp only [zL,simprocAttr]
   all_goals (try (exact drows_nrow _))
  ·simp [rlook]
  ·first | (simp;done) | (intro k hk;simp [rlook];omega)
 try simp at hf
 simp only [zX,↓reduceIte]
 have hR2 : R = (acc,l2,e2):=by
  rw [← k4]
  cases hmi : m - i with
  | zero=>rfl
  | succ d=>unfold tkP;rw [if_neg (by omega)]
 rw [hR2]
 refine aw_reg 656 (RG.go fun Q hQ=>?_)
 simp (disch:=intros;contradiction) only [zS,simprocAttr]
 refine hQ (RG.nil ?_)
 simp only [zX]
 refine Fin.objs [] [(1,5000)] (.inr rfl) rfl (by first | exact trivial | exact ⟨trivial,trivial⟩ | exact ⟨trivial,trivial,trivial⟩) ?_ ?_ (by simp [objL,rlook]) (by first | (simp [objL,rlook];done) | (intro k hk;simp [objL,rlook];omega))
 ·simp only [zL,simprocAttr]
 ·simp only [zL,simprocAttr]
  all_goals (try (exact drows_nrow _))

def tkI : Nat→List IT→List Nat→Nat→List IT × List Nat × Nat
 | 0,acc,l,e=>(acc,l,e)
 | k + 1,acc,l,e =>
  if e = 0 then tkI k (acc ++ [⟨((numR 256 l e).1 : Int),(lumpR 32 (numR 256 l e).2.1 (numR 256 l e).2.2).1⟩]) (lumpR 32 (numR 256 l e).2.1 (numR 256 l e).2.2).2.1 (lumpR 32 (numR 256 l e).2.1 (numR 256 l e).2.2).2.2
  else (acc,l,e)
def takeI (l : List Nat) (e : Nat) : List IT × List Nat × Nat:=tkI (numR 8 l e).1 [] (numR 8 l e).2.1 (numR 8 l e).2.2

structure ItsOk (n : Nat) (its : List IT) : Prop where
 b8 : byI its
 len : its.length≤8
 d : ∀ x ∈ its,x.d.length≤n

theorem tkI_ok {n : Nat} : ∀ (k : Nat) (acc : List IT) (l : List Nat) (e : Nat),RestOk n l→byI acc→(∀ x ∈ acc,x.d.length≤n)→acc.length + k≤8→ItsOk n (tkI k acc l e).1∧RestOk n (tkI k acc l e).2.1
 | 0,acc,l,e,h1,h2,h3,h4=>⟨⟨h2,by unfold tkI;omega,h3⟩,h1⟩
 | k + 1,acc,l,e,h1,h2,h3,h4=>by
  unfold tkI
  split
  ·have g1:=h1.num 256 e
   have g2:=g1.lump 32 (numR 256 l e).2.2
   have g3:=lumpR_mem (most:=32) (e:=(numR 256 l e).2.2) g1.b8
   have g4:=lumpR_len (most:=32) (l:=(numR 256 l e).2.1) (e:=(numR 256 l e).2.2)
   refine tkI_ok k _ _ _ g2 ?_ ?_ (by simp;omega)
   ·intro x hx
    rcases List.mem_append.1 hx with hx | hx
    ·exact h2 x hx
    ·simp only [List.mem_singleton] at hx;subst hx;exact g3.1
   ·intro x hx
    rcases List.mem_append.1 hx with hx | hx
    ·exact h3 x hx
    ·simp only [List.mem_singleton] at hx;subst hx;have:=g1.len;exact Nat.le_trans g4.1 this
  ·exact ⟨⟨h2,by show acc.length≤8;omega,h3⟩,h1⟩
theorem takeI_ok {n : Nat} {l : List Nat} (e : Nat) (h : RestOk n l) : ItsOk n (takeI l e).1∧RestOk n (takeI l e).2.1:=by
 have : (numR 8 l e).1≤8:=numR_le
 exact tkI_ok _ _ _ _ (h.num 8 e) (fun x hx=>by cases hx) (fun x hx=>by cases hx) (by simpa using this)
theorem tkP_ok {n : Nat} : ∀ (k : Nat) (acc : List Int) (l : List Nat) (e : Nat),RestOk n l→acc.length + k≤256→(tkP k acc l e).1.length≤256∧RestOk n (tkP k acc l e).2.1
 | 0,acc,l,e,h1,h4=>⟨by unfold tkP;simpa using h4,h1⟩
 | k + 1,acc,l,e,h1,h4=>by
  unfold tkP
  split
  ·exact tkP_ok k _ _ _ (h1.num 8 e) (by simp;omega)
  ·exact ⟨by show acc.length≤256;omega,h1⟩
theorem takeP_ok {n : Nat} {l : List Nat} (e : Nat) (h : RestOk n l) : (takeP l e).1.length≤256∧RestOk n (takeP l e).2.1:=by
 have : (numR 256 l e).1≤256:=numR_le
 exact tkP_ok _ _ _ _ (h.num 256 e) (by simpa using this)

theorem TakeItems_con (l : List Nat) (e n : Nat) (hl : RestOk n l) (hn : n≤100000000000000) :
  Con Try.prog 89 [.c (.bp 0 0)] [Rd l e] (.c (.osl 1)) [Rd (takeI l e).2.1 (takeI l e).2.2,.arr 76 2 ((takeI l e).1.map irow) false]:=by
 have h1:=hl.len
 have hq:=hl.num 8 e
 have hm : (numR 8 l e).1≤8:=numR_le
 have cN:=mementoref1_Reader_Num_con l e 8 hl.b8 (by omega)
 generalize hR : takeI l e = R
 unfold takeI at hR
 generalize numR 8 l e = q at hR hq hm cN
 obtain ⟨m,l1,e1⟩:=q
 simp only at hR hq hm cN
 refine C_mementoref13_TakeItems (Nat.le_of_ble_eq_true rfl) (Nat.le_of_ble_eq_true rfl) ?_
 simp only [cz,A_mementoref13_TakeItems,argL,objL,List.length_nil,List.length_cons,Nat.zero_add,zX]
 refine aw_reg 16 (RG.go fun Q hQ=>?_)
 simp (disch:=intros;contradiction) only [zS,simprocAttr]
 refine hQ (RG.nil ?_)
 simp only [zX]
 refine aw_reg 64 (RG.go fun Q hQ=>?_)
 simp (disch:=intros;contradiction) only [zS,simprocAttr]
 refine hQ (RG.nil ?_)
 simp only [zX]
 refine aw_reg 112 (RG.go fun Q hQ=>?_)
 simp (disch:=intros;contradiction) only [zS,simprocAttr]
 refine hQ ?_
 refine RG.callo [0] [] (cN) (.mk (by (repeat' (first | exact tr_nil | refine tr_cons ?_ ?_ | exact tr_v | exact tr_bp rfl))) (by first | trivial | (simp only [zT,↓reduceIte];done) | (simp only [zT,simprocAttr];trivial) | (simp only [zT,simprocAttr];repeat' (fail))) (by simp) (by simp) (trivial) (by first | (simp [lkE_cons,lkE_nil];done) | (intro j hj;simp at hj;simp only [setEs,setE_cons,setE_nil,lkE_cons,lkE_nil];repeat rw [if_neg (by omega)])) (by first | (simp [Ent.pure];done) | (simp [Ent.pure];repeat' (fail))) (by simp) (by simp)) ?_
 refine RG.go fun Q hQ=>?_
 simp (disch:=intros;contradiction) only [zS,simprocAttr]
 refine hQ (RG.nil ?_)
 simp only [zX]
 refine aw_reg 192 (RG.go fun Q hQ=>?_)
 simp (disch:=intros;contradiction) only [zS,simprocAttr]
 refine hQ (RG.nil ?_)
 simp only [zX]
 refine aw_loopK (X:={ p : Nat × List IT × List Nat × Nat // p.1≤m∧p.2.1.length≤p.1∧RestOk n p.2.2.1∧tkI (m - p.1) p.2.1 p.2.2.1 p.2.2.2 = R }) [0,4] (fun p=>[(3,.c (.osl 5000)),(5,.c (.v (.int .u64 p.1.1)))]) [] (fun p=>[(0,Rd p.1.2.2.1 p.1.2.2.2),(5000,.arr 76 2 (p.1.2.1.map irow) false)]) (fun p=>m - p.1.1) (⟨(0,[],l1,e1),by simp only;omega,by simp,hq,hR⟩) ?_ ?_
 ·skip
  simp only [keepS,keepE,lk_cons,List.cons_append,List.nil_append,simprocAttr]
  refine (Le.own 3 5000 76 2 rfl rfl (by decide)).trans ?_
  simp only [setS_cons,setE_cons,setE_nil,simprocAttr]
  refine Le.lit [] [] _ _ ?_ ?_ ?_ ?_
  ·simp only [zL,simprocAttr]
  ·simp only [zL,simprocAttr]
   all_goals (try ((repeat' (((simp [C.isD];done))))))
  ·simp [rlook]
  ·first | (simp;done) | (intro k hk;simp [rlook];omega)
 rintro ⟨⟨i,acc,l2,e2⟩,k1,k2,k3,k4⟩
 simp only [keepS,keepE,lk_cons,List.cons_append,List.nil_append,simprocAttr]
 simp only [zX]
 simp only at k1 k2 k3 k4
 refine aw_reg 240 (RG.go fun Q hQ=>?_)
 simp (disch:=intros;contradiction) only [zS,simprocAttr]
 refine hQ (RG.nil ?_)
 simp only [zX]
 refine aw_cond _ rfl trivial (fun ht=>?_) (fun hf=>?_)
 ·skip
  try simp at ht
  simp only [zX]
  obtain ⟨d,hd⟩ : ∃ d,m - i = d + 1:=⟨m - i - 1,by omega⟩
  obtain rfl : e2 = 0:=by omega
  have k5:=k3.len
  have k6:=k3.num 256 0
  have k7 : (numR 256 l2 0).1≤256:=numR_le
  have cM:=mementoref1_Reader_Num_con l2 0 256 k3.b8 (by omega)
  rw [hd] at k4
  unfold tkI at k4
  rw [if_pos rfl] at k4
  generalize numR 256 l2 0 = q at k4 k6 k7 cM
  obtain ⟨v,l3,e3⟩:=q
  simp only at k4 k6 k7 cM
  have k8:=k6.len
  have k9:=k6.lump 32 e3
  have ka:=lumpR_len (most:=32) (l:=l3) (e:=e3)
  have cL:=mementoref1_Reader_Lump_con l3 e3 32 k6.b8 (by omega) (by omega)
  generalize lumpR 32 l3 e3 = q at k4 k9 ka cL
  obtain ⟨bs,l4,e4⟩:=q
  simp only at k4 k9 ka cL
  refine aw_reg 432 (RG.go fun Q hQ=>?_)
  simp (disch:=intros;contradiction) only [zS,simprocAttr]
  refine hQ ?_
  refine RG.callo [0] [] (cM) (.mk (by (repeat' (first | exact tr_nil | refine tr_cons ?_ ?_ | exact tr_v | exact tr_bp rfl))) (by first | trivial | (simp only [zT,↓reduceIte];done) | (simp only [zT,simprocAttr];trivial) | (simp only [zT,simprocAttr];repeat' (fail))) (by simp) (by simp) (trivial) (by first | (simp [lkE_cons,lkE_nil];done) | (intro j hj;simp at hj;simp only [setEs,setE_cons,setE_nil,lkE_cons,lkE_nil];repeat rw [if_neg (by omega)])) (by first | (simp [Ent.pure];done) | (simp [Ent.pure];repeat' (fail))) (by simp) (by simp)) ?_
  refine RG.go fun Q hQ=>?_
  simp (disch:=first | (intros;contradiction) | omega | (simp only [zN];omega)) only [zS,zW,simprocAttr]
  refine hQ (RG.nil ?_)
  simp only [zX]
  refine aw_reg 528 (RG.go fun Q hQ=>?_)
  simp (disch:=intros;contradiction) only [zS,simprocAttr]
  refine hQ ?_
  refine RG.callo [0] [] (cL) (.mk (by (repeat' (first | exact tr_nil | refine tr_cons ?_ ?_ | exact tr_v | exact tr_bp rfl))) (by first | trivial | (simp only [zT,↓reduceIte];done) | (simp only [zT,simprocAttr];trivial) | (simp only [zT,simprocAttr];repeat' (fail))) (by simp) (by simp) (trivial) (by first | (simp [lkE_cons,lkE_nil];done) | (intro j hj;simp at hj;simp only [setEs,setE_cons,setE_nil,lkE_cons,lkE_nil];repeat rw [if_neg (by omega)])) (by first | (simp [Ent.pure];done) | (simp [Ent.pure];repeat' (fail))) (by simp) (by simp)) ?_
  refine RG.go fun Q hQ=>?_
  simp (disch:=intros;contradiction) only [zS,zW,simprocAttr]
  repeat refine ⟨by (first | exact ⟨by (intro q hq;obtain ⟨_,_,rfl⟩:=List.mem_map.1 hq;rfl),by omega⟩ | (simp;omega)),?_⟩
  refine hQ (RG.nil ?_)
  simp only [zX]
  refine aw_reg 704 (RG.go fun Q hQ=>?_)
  simp (disch:=first | (intros;contradiction) | omega | (simp only [zN];omega)) only [zS,zW,simprocAttr]
  refine hQ (RG.nil ?_)
  simp only [zX]
  refine ⟨⟨(i + 1,acc ++ [⟨(v : Int),bs⟩],l4,e4),by simp only;omega,by simp;omega,k9,by simp only;rw [show m - (i + 1) = d by omega];exact k4⟩,?_,by first | omega | (simp only;omega)⟩
  refine (Le.tell [592] 640 76 2 _ ((acc ++ [(⟨(v : Int),bs⟩ : IT)]).map irow) false rfl (by rw [List.map_append];refine tell_app ?_ _;exact ⟨⟨.inl rfl,.inr (.inr ⟨_,_,_,_,rfl,rfl,rfl,drows_brow _⟩),trivial⟩,trivial⟩)).trans ?_
  refine Le.lit [] [(5000,640)] _ _ ?_ ?_ ?_ ?_
  ·simp only [zL,simprocAttr]
   all_goals (try ((repeat' (rfl))))
  ·simp only [zL,simprocAttr]
   all_goals (try ((repeat' ((exact drows_irow _)))))
  ·simp [rlook]
  ·first | (simp;done) | (intro k hk;simp [rlook];omega)
 try simp at hf
 simp only [zX,↓reduceIte]
 have hR2 : R = (acc,l2,e2):=by
  rw [← k4]
  cases hmi : m - i with
  | zero=>rfl
  | succ d=>unfold tkI;rw [if_neg (by omega)]
 rw [hR2]
 refine aw_reg 784 (RG.go fun Q hQ=>?_)
 simp (disch:=intros;contradiction) only [zS,simprocAttr]
 refine hQ (RG.nil ?_)
 simp only [zX]
 refine Fin.objs [] [(1,5000)] (.inr rfl) rfl (by first | exact trivial | exact ⟨trivial,trivial⟩ | exact ⟨trivial,trivial,trivial⟩) ?_ ?_ (by simp [objL,rlook]) (by first | (simp [objL,rlook];done) | (intro k hk;simp [objL,rlook];omega))
 ·simp only [zL,simprocAttr]
 ·simp only [zL,simprocAttr]
  all_goals (try ((repeat' ((exact drows_irow _)))))

abbrev NR:=Nat × List Nat × Nat
def rc10 (a b c d e f g h : Nat) (p : List Int × List Nat × Nat) : CMD × List Nat × Nat:=(⟨a,b,c,d,e,p.1,f,g,h,(takeI p.2.1 p.2.2).1⟩,(takeI p.2.1 p.2.2).2)
def rc9 (a b c d e f g : Nat) (q : NR) : CMD × List Nat × Nat:=rc10 a b c d e f g q.1 (takeP q.2.1 q.2.2)
def rc8 (a b c d e f : Nat) (q : NR) : CMD × List Nat × Nat:=rc9 a b c d e f q.1 (numR 1099511627776 q.2.1 q.2.2)
def rc7 (a b c d e : Nat) (q : NR) : CMD × List Nat × Nat:=rc8 a b c d e q.1 (numR 1099511627776 q.2.1 q.2.2)
def rc6 (a b c d : Nat) (q : NR) : CMD × List Nat × Nat:=rc7 a b c d q.1 (numR 1099511627776 q.2.1 q.2.2)
def rc5 (a b c : Nat) (q : NR) : CMD × List Nat × Nat:=rc6 a b c q.1 (numR 1099511627776 q.2.1 q.2.2)
def rc4 (a b : Nat) (q : NR) : CMD × List Nat × Nat:=rc5 a b q.1 (numR 1099511627776 q.2.1 q.2.2)
def rc3 (a : Nat) (q : NR) : CMD × List Nat × Nat:=rc4 a q.1 (numR 1099511627776 q.2.1 q.2.2)
def rc2 (q : NR) : CMD × List Nat × Nat:=rc3 q.1 (numR 8 q.2.1 q.2.2)
def rawC (l : List Nat) : CMD × List Nat × Nat:=rc2 (numR 8 l 0)
def zeroC : CMD:=⟨0,0,0,0,0,[],0,0,0,[]⟩
def readC (l : List Nat) : CMD × Int:=if (rawC l).2.2≠0∨cmdR (rawC l).1 = false∨cmdB (rawC l).1≠l then (zeroC,20) else ((rawC l).1,0)

theorem rc10_ok {n a b c d e f g h : Nat} (p : List Int × List Nat × Nat) (h1 : p.1.length≤256) (h2 : RestOk n p.2.1) : (rc10 a b c d e f g h p).1.place.length≤256∧ItsOk n (rc10 a b c d e f g h p).1.items :=
 ⟨h1,(takeI_ok _ h2).1⟩
theorem rawC_ok {n : Nat} {l : List Nat} (h : RestOk n l) : (rawC l).1.place.length≤256∧ItsOk n (rawC l).1.items:=by
 unfold rawC
 have h:=h.num 8 0
 generalize numR 8 l 0 = q at h
 unfold rc2
 have h:=h.num 8 q.2.2
 generalize numR 8 q.2.1 q.2.2 = q1 at h
 unfold rc3
 have h:=h.num 1099511627776 q1.2.2
 generalize numR 1099511627776 q1.2.1 q1.2.2 = q2 at h
 unfold rc4
 have h:=h.num 1099511627776 q2.2.2
 generalize numR 1099511627776 q2.2.1 q2.2.2 = q3 at h
 unfold rc5
 have h:=h.num 1099511627776 q3.2.2
 generalize numR 1099511627776 q3.2.1 q3.2.2 = q4 at h
 unfold rc6
 have h:=h.num 1099511627776 q4.2.2
 generalize numR 1099511627776 q4.2.1 q4.2.2 = q5 at h
 unfold rc7
 have h:=h.num 1099511627776 q5.2.2
 generalize numR 1099511627776 q5.2.1 q5.2.2 = q6 at h
 unfold rc8
 have h:=h.num 1099511627776 q6.2.2
 generalize numR 1099511627776 q6.2.1 q6.2.2 = q7 at h
 unfold rc9
 obtain ⟨k1,k2⟩:=takeP_ok q7.2.2 h
 exact rc10_ok _ k1 k2
theorem num7_by (n : Nat) : ∀ c ∈ num7 n,c < 256:=by
 induction n using Nat.strongRecOn with
 | _ n ih =>
  intro c hc
  unfold num7 at hc
  split at hc
  ·simp at hc;omega
  ·rcases List.mem_cons.1 hc with rfl | hc
   ·omega
   ·exact ih (n / 128) (by omega) c hc
theorem putS_by (l : List Nat) : ∀ c ∈ putS l,c < 256:=by
 intro c hc
 unfold putS at hc
 obtain ⟨n,_,hc⟩:=List.mem_flatMap.1 hc
 exact num7_by n c hc
theorem cmdB_by (c : CMD) (h : byI c.items) : ∀ x ∈ cmdB c,x < 256:=by
 intro x hx
 unfold cmdB placeB itemsB itsB numsL at hx
 simp only [List.mem_append] at hx
 rcases hx with (hx | hx | hx) | hx | hx
 ·exact putS_by _ _ hx
 ·exact putS_by _ _ hx
 ·exact putS_by _ _ hx
 ·exact putS_by _ _ hx
 ·obtain ⟨y,hy,hx⟩:=List.mem_flatMap.1 hx
  unfold itB at hx
  simp only [List.mem_append] at hx
  rcases hx with hx | hx | hx
  ·exact putS_by _ _ hx
  ·exact num7_by _ _ hx
  ·exact h y hy x hx
end Go.Abs

namespace Go.Abs
open Go Go.Proofs
set_option maxRecDepth 100000
set_option linter.unusedSimpArgs false
set_option maxHeartbeats 8000000

theorem readC_no {l : List Nat} (h : (rawC l).2.2≠0∨cmdR (rawC l).1 = false∨cmdB (rawC l).1≠l) : readC l = (zeroC,20):=by unfold readC;rw [if_pos h]
theorem readC_yes {l : List Nat} (h : ¬ ((rawC l).2.2≠0∨cmdR (rawC l).1 = false∨cmdB (rawC l).1≠l)) : readC l = ((rawC l).1,0):=by unfold readC;rw [if_neg h]

theorem ReadCmd_con (l : List Nat) (h8 : ∀ c ∈ l,c < 256) (hn : l.length≤1000000) :
  Con Try.prog 75 [.c (.sl (l.map brow))] [] (.tup [.agg (cmdC (readC l).1),I (readC l).2]) []:=by
 have hok:=rawC_ok (n:=1000000) (l:=l) ⟨h8,hn⟩
 have hr : RestOk 1000000 l:=⟨h8,hn⟩
 obtain ⟨R,hR⟩ : ∃ R,R = rawC l:=⟨_,rfl⟩
 have hno:=readC_no (l:=l)
 have hyes:=readC_yes (l:=l)
 rw [← hR] at hok hno hyes
 unfold rawC at hR
 have c1:=mementoref1_Reader_Num_con l 0 8 hr.b8 (by have:=hr.len;omega)
 have g1:=hr.num 8 0
 have k1 : (numR 8 l 0).1≤8:=numR_le
 generalize numR 8 l 0 = q at hR c1 g1 k1
 obtain ⟨a1,l1,e1⟩:=q
 simp only at c1 g1 k1
 unfold rc2 at hR
 simp only at hR
 have c2:=mementoref1_Reader_Num_con l1 e1 8 g1.b8 (by have:=g1.len;omega)
 have g2:=g1.num 8 e1
 have k2 : (numR 8 l1 e1).1≤8:=numR_le
 generalize numR 8 l1 e1 = q at hR c2 g2 k2
 obtain ⟨a2,l2,e2⟩:=q
 simp only at c2 g2 k2
 unfold rc3 at hR
 simp only at hR
 have c3:=mementoref1_Reader_Num_con l2 e2 1099511627776 g2.b8 (by have:=g2.len;omega)
 have g3:=g2.num 1099511627776 e2
 have k3 : (numR 1099511627776 l2 e2).1≤1099511627776:=numR_le
 generalize numR 1099511627776 l2 e2 = q at hR c3 g3 k3
 obtain ⟨a3,l3,e3⟩:=q
 simp only at c3 g3 k3
 unfold rc4 at hR
 simp only at hR
 have c4:=mementoref1_Reader_Num_con l3 e3 1099511627776 g3.b8 (by have:=g3.len;omega)
 have g4:=g3.num 1099511627776 e3
 have k4 : (numR 1099511627776 l3 e3).1≤1099511627776:=numR_le
 generalize numR 1099511627776 l3 e3 = q at hR c4 g4 k4
 obtain ⟨a4,l4,e4⟩:=q
 simp only at c4 g4 k4
 unfold rc5 at hR
 simp only at hR
 have c5:=mementoref1_Reader_Num_con l4 e4 1099511627776 g4.b8 (by have:=g4.len;omega)
 have g5:=g4.num 1099511627776 e4
 have k5 : (numR 1099511627776 l4 e4).1≤1099511627776:=numR_le
 generalize numR 1099511627776 l4 e4 = q at hR c5 g5 k5
 obtain ⟨a5,l5,e5⟩:=q
 simp only at c5 g5 k5
 unfold rc6 at hR
 simp only at hR
 have c6:=mementoref1_Reader_Num_con l5 e5 1099511627776 g5.b8 (by have:=g5.len;omega)
 have g6:=g5.num 1099511627776 e5
 have k6 : (numR 1099511627776 l5 e5).1≤1099511627776:=numR_le
 generalize numR 1099511627776 l5 e5 = q at hR c6 g6 k6
 obtain ⟨a6,l6,e6⟩:=q
 simp only at c6 g6 k6
 unfold rc7 at hR
 simp only at hR
 have c7:=mementoref1_Reader_Num_con l6 e6 1099511627776 g6.b8 (by have:=g6.len;omega)
 have g7:=g6.num 1099511627776 e6
 have k7 : (numR 1099511627776 l6 e6).1≤1099511627776:=numR_le
 generalize numR 1099511627776 l6 e6 = q at hR c7 g7 k7
 obtain ⟨a7,l7,e7⟩:=q
 simp only at c7 g7 k7
 unfold rc8 at hR
 simp only at hR
 have c8:=mementoref1_Reader_Num_con l7 e7 1099511627776 g7.b8 (by have:=g7.len;omega)
 have g8:=g7.num 1099511627776 e7
 have k8 : (numR 1099511627776 l7 e7).1≤1099511627776:=numR_le
 generalize numR 1099511627776 l7 e7 = q at hR c8 g8 k8
 obtain ⟨a8,l8,e8⟩:=q
 simp only at c8 g8 k8
 unfold rc9 at hR
 simp only at hR
 have cP:=takePlace_con l8 e8 1000000 g8 (by omega)
 have gP:=takeP_ok e8 g8
 generalize takeP l8 e8 = q at hR cP gP
 obtain ⟨pl,l9,e9⟩:=q
 simp only at cP gP
 unfold rc10 at hR
 simp only at hR
 have cI:=TakeItems_con l9 e9 1000000 gP.2 (by omega)
 have gI:=takeI_ok e9 gP.2
 generalize takeI l9 e9 = q at hR cI gI
 obtain ⟨its,l10,e10⟩:=q
 simp only at cI gI hR
 subst hR
 obtain ⟨hpl,hi1,hi2,hi3⟩:=hok
 simp only at hpl hi1 hi2 hi3 hno hyes
 have cC:=PutCmd_con ⟨a1,a2,a3,a4,a5,pl,a6,a7,a8,its⟩ (by simp only;omega) (by simp only;omega) (fun x hx=>hi3 x hx)
 have hby : ∀ c ∈ (if cmdR ⟨a1,a2,a3,a4,a5,pl,a6,a7,a8,its⟩ = true then cmdB ⟨a1,a2,a3,a4,a5,pl,a6,a7,a8,its⟩ else []),c < 256:=by
  split
  ·exact cmdB_by _ hi1
  ·simp
 have hs:=str_eq _ l hby h8
 refine C_mementoref16_ReadCmd (Nat.le_of_ble_eq_true rfl) (Nat.le_of_ble_eq_true rfl) ?_
 simp only [cz,A_mementoref16_ReadCmd,argL,objL,List.length_nil,zX]
 refine aw_reg 16 (RG.go fun Q hQ=>?_)
 simp (disch:=intros;contradiction) only [zS,simprocAttr]
 refine hQ (RG.nil ?_)
 simp only [zX]
 refine aw_reg 80 (RG.go fun Q hQ=>?_)
 simp (disch:=intros;contradiction) only [zS,simprocAttr]
 refine hQ (RG.nil ?_)
 simp only [zX]
 refine aw_reg 176 (RG.go fun Q hQ=>?_)
 simp (disch:=intros;contradiction) only [zS,simprocAttr]
 refine hQ (RG.nil ?_)
 simp only [zX]
 refine aw_reg 224 (RG.go fun Q hQ=>?_)
 simp (disch:=intros;contradiction) only [zS,simprocAttr]
 refine hQ ?_
 refine RG.callo [112] [] (c1) (.mk (by (repeat' (first | exact tr_nil | refine tr_cons ?_ ?_ | exact tr_v | exact tr_bp rfl))) (by first | trivial | (simp only [zT,simprocAttr];done) | (simp only [zT,simprocAttr];trivial) | (simp only [zT,simprocAttr];repeat' (fail))) (by simp) (by simp) (trivial) (by first | (simp [lkE_cons,lkE_nil];done) | (intro j hj;simp at hj;simp only [setEs,setE_cons,setE_nil,lkE_cons,lkE_nil];repeat rw [if_neg (by omega)])) (by first | (simp [Ent.pure];done) | (simp [Ent.pure];repeat' (fail))) (by simp) (by simp)) ?_
 refine RG.go fun Q hQ=>?_
 simp (disch:=first | (intros;contradiction) | omega | (simp only [zN];omega)) only [zS,zW,simprocAttr]
 refine hQ (RG.nil ?_)
 simp only [zX]
 refine aw_reg 336 (RG.go fun Q hQ=>?_)
 simp (disch:=intros;contradiction) only [zS,simprocAttr]
 refine hQ ?_
 refine RG.callo [112] [] (c2) (.mk (by (repeat' (first | exact tr_nil | refine tr_cons ?_ ?_ | exact tr_v | exact tr_bp rfl))) (by first | trivial | (simp only [zT,simprocAttr];done) | (simp only [zT,simprocAttr];trivial) | (simp only [zT,simprocAttr];repeat' (fail))) (by simp) (by simp) (trivial) (by first | (simp [lkE_cons,lkE_nil];done) | (intro j hj;simp at hj;simp only [setEs,setE_cons,setE_nil,lkE_cons,lkE_nil];repeat rw [if_neg (by omega)])) (by first | (simp [Ent.pure];done) | (simp [Ent.pure];repeat' (fail))) (by simp) (by simp)) ?_
 refine RG.go fun Q hQ=>?_
 simp (disch:=first | (intros;contradiction) | omega | (simp only [zN];omega)) only [zS,zW,simprocAttr]
 refine hQ (RG.nil ?_)
 simp only [zX]
 refine aw_reg 448 (RG.go fun Q hQ=>?_)
 simp (disch:=intros;contradiction) only [zS,simprocAttr]
 refine hQ ?_
 refine RG.callo [112] [] (c3) (.mk (by (repeat' (first | exact tr_nil | refine tr_cons ?_ ?_ | exact tr_v | exact tr_bp rfl))) (by first | trivial | (simp only [zT,simprocAttr];done) | (simp only [zT,simprocAttr];trivial) | (simp only [zT,simprocAttr];repeat' (fail))) (by simp) (by simp) (trivial) (by first | (simp [lkE_cons,lkE_nil];done) | (intro j hj;simp at hj;simp only [setEs,setE_cons,setE_nil,lkE_cons,lkE_nil];repeat rw [if_neg (by omega)])) (by first | (simp [Ent.pure];done) | (simp [Ent.pure];repeat' (fail))) (by simp) (by simp)) ?_
 refine RG.go fun Q hQ=>?_
 simp (disch:=first | (intros;contradiction) | omega | (simp only [zN];omega)) only [zS,zW,simprocAttr]
 refine hQ (RG.nil ?_)
 simp only [zX]
 refine aw_reg 560 (RG.go fun Q hQ=>?_)
 simp (disch:=intros;contradiction) only [zS,simprocAttr]
 refine hQ ?_
 refine RG.callo [112] [] (c4) (.mk (by (repeat' (first | exact tr_nil | refine tr_cons ?_ ?_ | exact tr_v | exact tr_bp rfl))) (by first | trivial | (simp only [zT,simprocAttr];done) | (simp only [zT,simprocAttr];trivial) | (simp only [zT,simprocAttr];repeat' (fail))) (by simp) (by simp) (trivial) (by first | (simp [lkE_cons,lkE_nil];done) | (intro j hj;simp at hj;simp only [setEs,setE_cons,setE_nil,lkE_cons,lkE_nil];repeat rw [if_neg (by omega)])) (by first | (simp [Ent.pure];done) | (simp [Ent.pure];repeat' (fail))) (by simp) (by simp)) ?_
 refine RG.go fun Q hQ=>?_
 simp (disch:=first | (intros;contradiction) | omega | (simp only [zN];omega)) only [zS,zW,simprocAttr]
 refine hQ (RG.nil ?_)
 simp only [zX]
 refine aw_reg 672 (RG.go fun Q hQ=>?_)
 simp (disch:=intros;contradiction) only [zS,simprocAttr]
 refine hQ ?_
 refine RG.callo [112] [] (c5) (.mk (by (repeat' (first | exact tr_nil | refine tr_cons ?_ ?_ | exact tr_v | exact tr_bp rfl))) (by first | trivial | (simp only [zT,simprocAttr];done) | (simp only [zT,simprocAttr];trivial) | (simp only [zT,simprocAttr];repeat' (fail))) (by simp) (by simp) (trivial) (by first | (simp [lkE_cons,lkE_nil];done) | (intro j hj;simp at hj;simp only [setEs,setE_cons,setE_nil,lkE_cons,lkE_nil];repeat rw [if_neg (by omega)])) (by first | (simp [Ent.pure];done) | (simp [Ent.pure];repeat' (fail))) (by simp) (by simp)) ?_
 refine RG.go fun Q hQ=>?_
 simp (disch:=first | (intros;contradiction) | omega | (simp only [zN];omega)) only [zS,zW,simprocAttr]
 refine hQ (RG.nil ?_)
 simp only [zX]
 refine aw_reg 784 (RG.go fun Q hQ=>?_)
 simp (disch:=intros;contradiction) only [zS,simprocAttr]
 refine hQ ?_
 refine RG.callo [112] [] (c6) (.mk (by (repeat' (first | exact tr_nil | refine tr_cons ?_ ?_ | exact tr_v | exact tr_bp rfl))) (by first | trivial | (simp only [zT,simprocAttr];done) | (simp only [zT,simprocAttr];trivial) | (simp only [zT,simprocAttr];repeat' (fail))) (by simp) (by simp) (trivial) (by first | (simp [lkE_cons,lkE_nil];done) | (intro j hj;simp at hj;simp only [setEs,setE_cons,setE_nil,lkE_cons,lkE_nil];repeat rw [if_neg (by omega)])) (by first | (simp [Ent.pure];done) | (simp [Ent.pure];repeat' (fail))) (by simp) (by simp)) ?_
 refine RG.go fun Q hQ=>?_
 simp (disch:=first | (intros;contradiction) | omega | (simp only [zN];omega)) only [zS,zW,simprocAttr]
 refine hQ (RG.nil ?_)
 simp only [zX]
 refine aw_reg 896 (RG.go fun Q hQ=>?_)
 simp (disch:=intros;contradiction) only [zS,simprocAttr]
 refine hQ ?_
 refine RG.callo [112] [] (c7) (.mk (by (repeat' (first | exact tr_nil | refine tr_cons ?_ ?_ | exact tr_v | exact tr_bp rfl))) (by first | trivial | (simp only [zT,simprocAttr];done) | (simp only [zT,simprocAttr];trivial) | (simp only [zT,simprocAttr];repeat' (fail))) (by simp) (by simp) (trivial) (by first | (simp [lkE_cons,lkE_nil];done) | (intro j hj;simp at hj;simp only [setEs,setE_cons,setE_nil,lkE_cons,lkE_nil];repeat rw [if_neg (by omega)])) (by first | (simp [Ent.pure];done) | (simp [Ent.pure];repeat' (fail))) (by simp) (by simp)) ?_
 refine RG.go fun Q hQ=>?_
 simp (disch:=first | (intros;contradiction) | omega | (simp only [zN];omega)) only [zS,zW,simprocAttr]
 refine hQ (RG.nil ?_)
 simp only [zX]
 refine aw_reg 1008 (RG.go fun Q hQ=>?_)
 simp (disch:=intros;contradiction) only [zS,simprocAttr]
 refine hQ ?_
 refine RG.callo [112] [] (c8) (.mk (by (repeat' (first | exact tr_nil | refine tr_cons ?_ ?_ | exact tr_v | exact tr_bp rfl))) (by first | trivial | (simp only [zT,simprocAttr];done) | (simp only [zT,simprocAttr];trivial) | (simp only [zT,simprocAttr];repeat' (fail))) (by simp) (by simp) (trivial) (by first | (simp [lkE_cons,lkE_nil];done) | (intro j hj;simp at hj;simp only [setEs,setE_cons,setE_nil,lkE_cons,lkE_nil];repeat rw [if_neg (by omega)])) (by first | (simp [Ent.pure];done) | (simp [Ent.pure];repeat' (fail))) (by simp) (by simp)) ?_
 refine RG.go fun Q hQ=>?_
 simp (disch:=first | (intros;contradiction) | omega | (simp only [zN];omega)) only [zS,zW,simprocAttr]
 refine hQ (RG.nil ?_)
 simp only [zX]
 refine aw_reg 1120 (RG.go fun Q hQ=>?_)
 simp (disch:=intros;contradiction) only [zS,simprocAttr]
 refine hQ ?_
 refine RG.callo [112] [] (cP) (.mk (by (repeat' (first | exact tr_nil | refine tr_cons ?_ ?_ | exact tr_bp rfl))) (by first | trivial | (simp only [zT,simprocAttr];done) | (simp only [zT,simprocAttr];trivial) | (simp only [zT,simprocAttr];repeat' (fail))) (by simp) (by simp) (trivial) (by first | (simp [lkE_cons,lkE_nil];done) | (intro j hj;simp at hj;simp only [setEs,setE_cons,setE_nil,lkE_cons,lkE_nil];repeat rw [if_neg (by omega)])) (by first | (simp [Ent.pure];done) | (simp [Ent.pure];repeat' ((exact drows_nrow _)))) (by simp) (by simp)) ?_
 refine RG.go fun Q hQ=>?_
 simp (disch:=intros;contradiction) only [zS,simprocAttr]
 refine hQ (RG.nil ?_)
 simp only [zX]
 refine aw_reg 1216 (RG.go fun Q hQ=>?_)
 simp (disch:=intros;contradiction) only [zS,simprocAttr]
 refine hQ ?_
 refine RG.callo [112] [] (cI) (.mk (by (repeat' (first | exact tr_nil | refine tr_cons ?_ ?_ | exact tr_bp rfl))) (by first | trivial | (simp only [zT,simprocAttr];done) | (simp only [zT,simprocAttr];trivial) | (simp only [zT,simprocAttr];repeat' (fail))) (by simp) (by simp) (trivial) (by first | (simp [lkE_cons,lkE_nil];done) | (intro j hj;simp at hj;simp only [setEs,setE_cons,setE_nil,lkE_cons,lkE_nil];repeat rw [if_neg (by omega)])) (by first | (simp [Ent.pure];done) | (simp [Ent.pure];repeat' ((exact drows_irow _)))) (by simp) (by simp)) ?_
 refine RG.go fun Q hQ=>?_
 simp (disch:=intros;contradiction) only [zS,simprocAttr]
 refine hQ (RG.nil ?_)
 simp only [zX]
 refine aw_reg 1312 (RG.go fun Q hQ=>?_)
 simp (disch:=intros;contradiction) only [zS,simprocAttr]
 refine hQ ?_
 refine RG.callo [] [1136,1232] (cC) (.mk (by (repeat' (first | exact tr_nil | refine tr_cons ?_ ?_ | exact tr_agg (by (repeat' (first | exact trivial | rfl | (refine ⟨by simp,_,_,_,rfl,?_⟩;(first | exact drows_nrow _ | exact drows_irow _)) | refine ⟨?_,?_⟩)))))) (by first | trivial | (simp only [zT,simprocAttr];done) | (simp only [zT,simprocAttr];trivial) | (simp only [zT,simprocAttr];repeat' (fail))) (by simp) (by simp) (views1 rfl (views1 rfl trivial)) (by first | (simp [lkE_cons,lkE_nil];done) | (intro j hj;simp at hj;simp only [setEs,setE_cons,setE_nil,lkE_cons,lkE_nil];repeat rw [if_neg (by omega)])) (by first | (simp [Ent.pure];done) | (simp [Ent.pure];repeat' (fail))) (by simp) (by simp)) ?_
 refine RG.go fun Q hQ=>?_
 simp (disch:=intros;contradiction) only [zS,simprocAttr]
 refine hQ (RG.nil ?_)
 simp only [zX]
 refine aw_reg 1456 (RG.go fun Q hQ=>?_)
 simp (disch:=intros;contradiction) only [zS,hs,simprocAttr]
 repeat refine ⟨by (first | exact fun h=>⟨isByteRow_brow _,h⟩ | (simp;done)),?_⟩
 refine hQ (RG.nil ?_)
 simp only [zX]
 refine aw_cond _ rfl trivial (fun ht=>?_) (fun hf=>?_)
 ·skip
  try simp at ht
  simp only [zX]
  rw [hno (by
   rcases ht with (h | h) | h
   ·exact .inl (by omega)
   ·refine .inr (.inl ?_)
    cases hc : cmdR ⟨a1,a2,a3,a4,a5,pl,a6,a7,a8,its⟩ with
    | false=>rfl
    | true=>simp [hc] at h
   ·cases hc : cmdR ⟨a1,a2,a3,a4,a5,pl,a6,a7,a8,its⟩ with
    | false=>exact .inr (.inl rfl)
    | true=>refine .inr (.inr ?_);simpa [hc] using h)]
  refine aw_reg 1744 (RG.go fun Q hQ=>?_)
  simp (disch:=intros;contradiction) only [zS,simprocAttr]
  refine hQ (RG.nil ?_)
  simp only [zX]
  refine Fin.data [] (.inr rfl) rfl (by (exact ⟨trivial,trivial⟩)) ?_
  simp only [zL,simprocAttr]
  all_goals ((repeat' (first | exact trivial | rfl | refine ⟨?_,?_⟩)))
 try simp at hf
 simp only [zX]
 obtain ⟨⟨hf1,hf2⟩,hf3⟩:=hf
 rw [if_pos hf2] at hf3
 rw [hyes (by
  rintro (h | h | h)
  ·exact h hf1
  ·rw [hf2] at h;cases h
  ·exact h hf3)]
 refine aw_reg 1824 (RG.go fun Q hQ=>?_)
 simp (disch:=intros;contradiction) only [zS,simprocAttr]
 refine hQ (RG.nil ?_)
 simp only [zX]
 refine Fin.data [1136,1232] (.inr rfl) rfl (by (exact ⟨trivial,trivial⟩)) ?_
 simp only [zL,simprocAttr]
 all_goals ((repeat' (first | exact trivial | rfl | (refine ⟨⟨_,_,rfl⟩,?_⟩;(first | exact drows_nrow _ | exact drows_irow _)) | refine ⟨?_,?_⟩)))

end Go.Abs

namespace Go.Abs
open Go Go.Proofs
set_option maxRecDepth 100000
set_option linter.unusedSimpArgs false
set_option maxHeartbeats 4000000

theorem drows_vol (l : List VOL) : isDRows (l.map volC):=by
 intro r hr c hc
 obtain ⟨p,_,rfl⟩:=List.mem_map.1 hr
 exact volC_pure p c hc
abbrev MB (L : List VOL) : Ent:=.box [.sl (L.map volC)]

def idxV (id : Int) : List VOL→Nat→Int
 | [],_=>-1
 | v :: l,i=>if v.id = id then i else idxV id l (i + 1)
theorem idxV_cases (id : Int) : ∀ (l : List VOL) (i : Nat),(idxV id l i = -1∧∀ v ∈ l,v.id≠id)∨∃ (k : Nat) (hk : k < l.length),idxV id l i = ((i + k : Nat) : Int)∧l[k].id = id
 | [],i=>.inl ⟨rfl,fun v hv=>by cases hv⟩
 | v :: l,i=>by
  unfold idxV
  split
  ·rename_i h;exact .inr ⟨0,by simp,rfl,h⟩
  ·rename_i h
   rcases idxV_cases id l (i + 1) with ⟨h1,h2⟩ | ⟨k,hk,h1,h2⟩
   ·refine .inl ⟨h1,fun w hw=>?_⟩
    rcases List.mem_cons.1 hw with rfl | hw
    ·exact h
    ·exact h2 w hw
   ·exact .inr ⟨k + 1,by simpa using hk,by rw [h1,show i + 1 + k = i + (k + 1) by omega],by simpa using h2⟩

theorem find_con (L : List VOL) (id : Int) (hL : L.length≤1000000) : Con Try.prog 70 [.c (.bp 0 0),I id] [MB L] (I (idxV id L 0)) [MB L]:=by
 generalize hR : idxV id L 0 = R
 refine C_mementoref16_Machine_find (Nat.le_of_ble_eq_true rfl) (Nat.le_of_ble_eq_true rfl) ?_
 simp only [cz,A_mementoref16_Machine_find,argL,objL,List.length_nil,List.length_cons,Nat.zero_add,zX]
 refine aw_reg 16 (RG.go fun Q hQ=>?_)
 simp (disch:=intros;contradiction) only [zS,simprocAttr]
 refine hQ (RG.nil ?_)
 simp only [zX]
 refine aw_reg 64 (RG.go fun Q hQ=>?_)
 simp (disch:=intros;contradiction) only [zS,simprocAttr]
 refine hQ (RG.nil ?_)
 simp only [zX]
 refine aw_loopK (X:={ i : Nat // i≤L.length∧idxV id (L.drop i) i = R }) [0,1] (fun i=>[(5,I i.1)]) [0] (fun i=>[]) (fun i=>L.length - i.1) (⟨0,by omega,hR⟩) ?_ ?_
 ·skip
  simp only [keepS,keepE,Option.getD_some,lk_cons,lkE_cons,List.cons_append,List.nil_append,simprocAttr]
  refine Le.lit [] [] _ _ ?_ ?_ ?_ ?_
  ·simp only [zL,simprocAttr]
  ·simp only [zL,↓reduceIte]
  ·simp [rlook]
  ·first | (simp;done) | (intro k hk;simp [rlook];omega)
 rintro ⟨i,hi,hr⟩
 simp only [keepS,keepE,Option.getD_some,lk_cons,lkE_cons,List.cons_append,List.nil_append,simprocAttr]
 simp only [zX]
 refine aw_reg 112 (RG.go fun Q hQ=>?_)
 simp (disch:=intros;contradiction) only [zS,zW,simprocAttr]
 refine hQ (RG.nil ?_)
 simp only [zX]
 refine aw_cond _ rfl trivial (fun ht=>?_) (fun hf=>?_)
 ·skip
  try simp at ht
  simp only [zX]
  have h1 : i < L.length:=by omega
  rw [drop_get h1] at hr
  unfold idxV at hr
  refine aw_reg 256 (RG.go fun Q hQ=>?_)
  simp (disch:=first | (intros;contradiction) | omega | (simp only [zN];omega)) only [zS,zW,volC,vC,simprocAttr]
  repeat refine ⟨by (omega),?_⟩
  refine hQ (RG.nil ?_)
  simp only [zX]
  refine aw_cond _ rfl trivial (fun ht=>?_) (fun hf=>?_)
  ·skip
   try simp at ht
   simp only [zX]
   rw [if_pos ht] at hr
   refine aw_reg 448 (RG.go fun Q hQ=>?_)
   simp (disch:=intros;contradiction) only [zS,simprocAttr]
   refine hQ (RG.nil ?_)
   simp only [zX]
   rw [← hr]
   refine Fin.objs [] [] (.inr rfl) rfl (by first | exact trivial | exact ⟨trivial,trivial⟩ | exact ⟨trivial,trivial,trivial⟩) ?_ ?_ (by simp [objL,rlook]) (by first | (simp [objL,rlook];done) | (intro k hk;simp [objL,rlook];omega))
   ·simp only [zL,simprocAttr]
   ·simp only [zL,↓reduceIte]
  try simp at hf
  simp only [zX]
  rw [if_neg hf] at hr
  refine aw_reg 512 (RG.go fun Q hQ=>?_)
  simp (disch:=first | (intros;contradiction) | omega | (simp only [zN];omega)) only [zS,zW,simprocAttr]
  refine hQ (RG.nil ?_)
  simp only [zX]
  refine ⟨⟨i + 1,h1,hr⟩,?_,by first | omega | (simp only;omega)⟩
  refine Le.lit [] [] _ _ ?_ ?_ ?_ ?_
  ·simp only [zL,simprocAttr]
   all_goals (try ((repeat' (rfl))))
  ·simp only [zL,↓reduceIte]
  ·simp [rlook]
  ·first | (simp;done) | (intro k hk;simp [rlook];omega)
 try simp at hf
 simp only [zX,↓reduceIte]
 have hr' : R = -1:=by rw [← hr,List.drop_of_length_le (by omega)];rfl
 refine aw_reg 592 (RG.go fun Q hQ=>?_)
 simp (disch:=intros;contradiction) only [zS,simprocAttr]
 refine hQ (RG.nil ?_)
 simp only [zX]
 rw [hr']
 refine Fin.objs [] [] (.inr rfl) rfl (by first | exact trivial | exact ⟨trivial,trivial⟩ | exact ⟨trivial,trivial,trivial⟩) ?_ ?_ (by simp [objL,rlook]) (by first | (simp [objL,rlook];done) | (intro k hk;simp [objL,rlook];omega))
 ·simp only [zL,simprocAttr]
 ·simp only [zL,↓reduceIte]

def volM (L : List VOL) (id : Int) : VOL × Bool:=if idxV id L 0 < 0 then (zeroV,false) else (L.getD (idxV id L 0).toNat zeroV,true)
theorem MVolume_con (L : List VOL) (id : Int) (hL : L.length≤1000000) : Con Try.prog 52 [.c (.bp 0 0),I id] [MB L] (.tup [.agg (volC (volM L id).1),B (volM L id).2]) [MB L]:=by
 have cF:=find_con L id hL
 rcases idxV_cases id L 0 with ⟨h1,_⟩ | ⟨k,hk,h1,_⟩
 ·rw [show volM L id = (zeroV,false) from by unfold volM;rw [h1,if_pos (by decide)]]
  rw [h1] at cF
  refine C_mementoref16_Machine_Volume (Nat.le_of_ble_eq_true rfl) (Nat.le_of_ble_eq_true rfl) ?_
  simp only [cz,A_mementoref16_Machine_Volume,argL,objL,List.length_nil,List.length_cons,Nat.zero_add,zX]
  refine aw_reg 16 (RG.go fun Q hQ=>?_)
  simp (disch:=intros;contradiction) only [zS,simprocAttr]
  refine hQ (RG.nil ?_)
  simp only [zX]
  refine aw_reg 80 (RG.go fun Q hQ=>?_)
  simp (disch:=intros;contradiction) only [zS,simprocAttr]
  refine hQ ?_
  refine RG.callo [0] [] (cF) (.mk (by (repeat' (first | exact tr_nil | refine tr_cons ?_ ?_ | exact tr_v | exact tr_bp rfl))) (by first | trivial | (simp only [zT,↓reduceIte];done) | (simp only [zT,simprocAttr];trivial) | (simp only [zT,simprocAttr];repeat' (fail))) (by simp) (by simp) (trivial) (by first | (simp [lkE_cons,lkE_nil];done) | (intro j hj;simp at hj;simp only [setEs,setE_cons,setE_nil,lkE_cons,lkE_nil];repeat rw [if_neg (by omega)])) (by first | (simp [Ent.pure];done) | (simp [Ent.pure];repeat' (fail))) (by simp) (by simp)) ?_
  refine RG.go fun Q hQ=>?_
  simp (disch:=intros;contradiction) only [zS,simprocAttr]
  refine hQ (RG.nil ?_)
  simp only [zX]
  refine aw_reg 176 (RG.go fun Q hQ=>?_)
  simp (disch:=intros;contradiction) only [zS,simprocAttr]
  refine hQ (RG.nil ?_)
  simp only [zX]
  refine aw_cond _ rfl trivial (fun ht=>?_) (fun hf=>by cases hf)
  simp only [zX]
  refine aw_reg 240 (RG.go fun Q hQ=>?_)
  simp (disch:=intros;contradiction) only [zS,simprocAttr]
  refine hQ (RG.nil ?_)
  simp only [zX]
  refine Fin.objs [] [] (.inr rfl) rfl (by first | exact trivial | exact ⟨trivial,trivial⟩ | exact ⟨trivial,trivial,trivial⟩) ?_ ?_ (by simp [objL,rlook]) (by first | (simp [objL,rlook];done) | (intro k hk;simp [objL,rlook];omega))
  ·simp only [zL,simprocAttr]
   all_goals ((repeat' (first | exact trivial | rfl | refine ⟨?_,?_⟩)))
  ·simp only [zL,↓reduceIte]

 ·rw [Nat.zero_add] at h1
  rw [show volM L id = (L[k],true) from by unfold volM;rw [h1,if_neg (by omega),Int.toNat_natCast,List.getD_eq_getElem?_getD,List.getElem?_eq_getElem hk];rfl]
  rw [h1] at cF
  refine C_mementoref16_Machine_Volume (Nat.le_of_ble_eq_true rfl) (Nat.le_of_ble_eq_true rfl) ?_
  simp only [cz,A_mementoref16_Machine_Volume,argL,objL,List.length_nil,List.length_cons,Nat.zero_add,zX]
  refine aw_reg 16 (RG.go fun Q hQ=>?_)
  simp (disch:=intros;contradiction) only [zS,simprocAttr]
  refine hQ (RG.nil ?_)
  simp only [zX]
  refine aw_reg 80 (RG.go fun Q hQ=>?_)
  simp (disch:=intros;contradiction) only [zS,simprocAttr]
  refine hQ ?_
  refine RG.callo [0] [] (cF) (.mk (by (repeat' (first | exact tr_nil | refine tr_cons ?_ ?_ | exact tr_v | exact tr_bp rfl))) (by first | trivial | (simp only [zT,↓reduceIte];done) | (simp only [zT,simprocAttr];trivial) | (simp only [zT,simprocAttr];repeat' (fail))) (by simp) (by simp) (trivial) (by first | (simp [lkE_cons,lkE_nil];done) | (intro j hj;simp at hj;simp only [setEs,setE_cons,setE_nil,lkE_cons,lkE_nil];repeat rw [if_neg (by omega)])) (by first | (simp [Ent.pure];done) | (simp [Ent.pure];repeat' (fail))) (by simp) (by simp)) ?_
  refine RG.go fun Q hQ=>?_
  simp (disch:=intros;contradiction) only [zS,simprocAttr]
  refine hQ (RG.nil ?_)
  simp only [zX]
  refine aw_reg 176 (RG.go fun Q hQ=>?_)
  simp (disch:=intros;contradiction) only [zS,simprocAttr]
  refine hQ (RG.nil ?_)
  simp only [zX]
  refine aw_cond _ rfl trivial (fun ht=>by cases ht) (fun hf=>?_)
  simp only [zX]
  refine aw_reg 240 (RG.go fun Q hQ=>?_)
  simp (disch:=first | (intros;contradiction) | omega | (simp only [zN];omega)) only [zS,zW,vC_eq,simprocAttr]
  repeat refine ⟨by (omega),?_⟩
  refine hQ (RG.nil ?_)
  simp only [zX]
  refine Fin.objs [] [] (.inr rfl) rfl (by first | exact trivial | exact ⟨trivial,trivial⟩ | exact ⟨trivial,trivial,trivial⟩) ?_ ?_ (by simp [objL,rlook]) (by first | (simp [objL,rlook];done) | (intro k hk;simp [objL,rlook];omega))
  ·simp only [zL,simprocAttr]
   all_goals ((repeat' (first | exact trivial | rfl | refine ⟨?_,?_⟩)))
  ·simp only [zL,↓reduceIte]

def insM (v : VOL) (L : List VOL) : List VOL:=L.takeWhile (fun w=>decide (w.id < v.id)) ++ v :: L.dropWhile (fun w=>decide (w.id < v.id))
structure RP where
 e : Int
 len : Int
 floor : Int
 next : Int
def appM (L : List VOL) (d : List Nat) : List VOL × RP :=
  if (readC d).2≠0 then (L,⟨20,0,0,0⟩)
  else if (readC d).1.kind = 1 then
    (if 0≤idxV (readC d).1.vol L 0 then (L,⟨29,0,0,0⟩)
     else if (newR (readC d).1).2≠0 then (L,⟨(newR (readC d).1).2,0,0,0⟩)
     else (insM (newR (readC d).1).1 L,⟨0,0,0,0⟩))
  else if idxV (readC d).1.vol L 0 < 0 then (L,⟨28,0,0,0⟩)
  else (L.set (idxV (readC d).1.vol L 0).toNat (doV (L.getD (idxV (readC d).1.vol L 0).toNat zeroV) (readC d).1).v,
    ⟨(doV (L.getD (idxV (readC d).1.vol L 0).toNat zeroV) (readC d).1).e,(doV (L.getD (idxV (readC d).1.vol L 0).toNat zeroV) (readC d).1).len,(doV (L.getD (idxV (readC d).1.vol L 0).toNat zeroV) (readC d).1).floor,(doV (L.getD (idxV (readC d).1.vol L 0).toNat zeroV) (readC d).1).next⟩)

theorem readC_ok {d : List Nat} {c : CMD} {n : Nat} (hd : RestOk n d) (h : readC d = (c,0)) : cmdR c = true∧byI c.items∧c.place.length≤256∧c.items.length≤8∧∀ x ∈ c.items,x.d.length≤n:=by
 unfold readC at h
 split at h
 ·cases h
 ·rename_i hn
  cases h
  obtain ⟨h1,h2,h3,h4⟩:=rawC_ok hd
  refine ⟨?_,h2,h1,h3,h4⟩
  cases hc : cmdR (rawC d).1 with
  | true=>rfl
  | false=>exact absurd (.inr (.inl hc)) hn
end Go.Abs

namespace Go.Abs
open Go Go.Proofs
set_option maxRecDepth 100000
set_option linter.unusedSimpArgs false
set_option maxHeartbeats 4000000

theorem while_ofV {p : VOL→Bool} : ∀ {l : List VOL} {k : Nat},(l.take k).all p = true→(∀ h : k < l.length,p l[k] = false)→l.takeWhile p = l.take k∧l.dropWhile p = l.drop k
 | [],k,_,_=>by simp
 | x :: l,0,_,h=>by
  have:=h (by simp)
  simp only [List.getElem_cons_zero] at this
  simp [this]
 | x :: l,k + 1,h1,h2=>by
  simp only [List.take_succ_cons,List.all_cons,Bool.and_eq_true] at h1
  have:=while_ofV (l:=l) (k:=k) h1.2 (fun h=>by have:=h2 (by simpa using h);simpa using this)
  simp [h1.1,this.1,this.2]

theorem newR_err (c : CMD) : (newR c).2 = 0∨(newR c).2 = 23:=by unfold newR;split <;> simp

abbrev rpC (r : RP) : SV:=.agg (repC r.e r.len r.floor r.next [])

theorem cmdC_pure (c : CMD) : (SV.agg (cmdC c)).pureD:=by
 intro x hx
 simp only [cmdC,cC,List.mem_cons,List.not_mem_nil,or_false] at hx
 rcases hx with rfl | rfl | rfl | rfl | rfl | rfl | rfl | rfl | rfl | rfl <;> rfl
theorem repC_pure (a b c d : Int) : (SV.agg (repC a b c d [])).pureD:=by
 intro x hx
 simp only [repC,List.mem_cons,List.not_mem_nil,or_false] at hx
 rcases hx with rfl | rfl | rfl | rfl | rfl <;> rfl
theorem doR_pure (d : DO) : (doR d).pureD:=by
 intro s hs
 simp only [List.mem_cons,List.not_mem_nil,or_false] at hs
 rcases hs with rfl | rfl
 ·exact volC_pure _
 ·exact repC_pure _ _ _ _

theorem Apply_con (L : List VOL) (d : List Nat) (n : Nat) (hL : L.length≤1000000) (hg : ∀ v ∈ L,Vgood v n) (hn : n≤50000) (h8 : ∀ c ∈ d,c < 256) (hd : d.length≤1000000) :
  Con Try.prog 54 [.c (.bp 0 0),.c (.sl (d.map brow))] [MB L] (rpC (appM L d).2) [MB (appM L d).1]:=by
 have cR:=ReadCmd_con d h8 hd
 have hok:=fun c h=>readC_ok (d:=d) (c:=c) (n:=1000000) ⟨h8,hd⟩ h
 obtain ⟨Z,hZ⟩ : ∃ Z,Z = appM L d:=⟨_,rfl⟩
 rw [← hZ]
 unfold appM at hZ
 generalize readC d = q at cR hok hZ
 obtain ⟨c,e⟩:=q
 simp only at cR hZ
 by_cases he : e≠0
 ·rw [if_pos he] at hZ
  subst hZ
  refine C_mementoref16_Machine_Apply (Nat.le_of_ble_eq_true rfl) (Nat.le_of_ble_eq_true rfl) ?_
  simp only [cz,A_mementoref16_Machine_Apply,argL,objL,List.length_nil,List.length_cons,Nat.zero_add,zX]
  refine aw_reg 16 (RG.go fun Q hQ=>?_)
  simp (disch:=intros;contradiction) only [zS,simprocAttr]
  refine hQ (RG.nil ?_)
  simp only [zX]
  refine aw_reg 64 (RG.go fun Q hQ=>?_)
  simp (disch:=intros;contradiction) only [zS,simprocAttr]
  refine hQ ?_
  refine RG.call [] (cR) (by (repeat' (first | exact tr_nil | refine tr_cons ?_ ?_ | exact tr_sl))) trivial (by exact .inr ⟨pureTA (fun x hx=>cmdC_pure _ x hx),trivial⟩) ?_
  refine RG.go fun Q hQ=>?_
  simp (disch:=intros;contradiction) only [zS,cmdC,cC,simprocAttr]
  refine hQ (RG.nil ?_)
  simp only [zX]
  refine aw_reg 224 (RG.go fun Q hQ=>?_)
  simp (disch:=intros;contradiction) only [zS,simprocAttr]
  refine hQ (RG.nil ?_)
  simp only [zX]
  refine aw_cond _ rfl trivial (fun ht=>?_) (fun hf=>by simp at hf;omega)
  simp only [zX]
  refine aw_reg 288 (RG.go fun Q hQ=>?_)
  simp (disch:=intros;contradiction) only [zS,simprocAttr]
  refine hQ (RG.nil ?_)
  simp only [zX]
  refine Fin.objs [] [] (.inr rfl) rfl (by first | exact trivial | exact ⟨trivial,trivial⟩ | exact ⟨trivial,trivial,trivial⟩) ?_ ?_ (by simp [objL,rlook]) (by first | (simp [objL,rlook];done) | (intro k hk;simp [objL,rlook];omega))
  ·simp only [zL]
   all_goals ((repeat' (first | exact trivial | rfl | refine ⟨?_,?_⟩)))
  ·simp only [zL,↓reduceIte]

 rw [if_neg he] at hZ
 obtain rfl : e = 0:=by omega
 obtain ⟨k1,k2,k3,k4,k5⟩:=hok c rfl
 have cF:=find_con L c.vol hL
 by_cases hk : c.kind = 1
 ·rw [if_pos hk] at hZ
  rcases idxV_cases c.vol L 0 with ⟨h1,h2⟩ | ⟨k,hkl,h1,h2⟩
  ·rw [h1] at hZ cF
   rw [if_neg (by decide)] at hZ
   have cN:=mementoref16_New_con c (by omega)
   rcases newR_err c with h3 | h3
   ·rw [if_neg (by omega)] at hZ
    have h4 : newR c = (newV c,0):=by
     unfold newR at h3 ⊢
     split at h3
     ·rename_i h;rw [if_pos h]
     ·cases h3
    rw [h4] at cN hZ
    simp only at cN hZ
    subst hZ
    refine C_mementoref16_Machine_Apply (Nat.le_of_ble_eq_true rfl) (Nat.le_of_ble_eq_true rfl) ?_
    simp only [cz,A_mementoref16_Machine_Apply,argL,objL,List.length_nil,List.length_cons,Nat.zero_add,zX]
    refine aw_reg 16 (RG.go fun Q hQ=>?_)
    simp (disch:=intros;contradiction) only [zS,simprocAttr]
    refine hQ (RG.nil ?_)
    simp only [zX]
    refine aw_reg 64 (RG.go fun Q hQ=>?_)
    simp (disch:=intros;contradiction) only [zS,simprocAttr]
    refine hQ ?_
    refine RG.call [] (cR) (by (repeat' (first | exact tr_nil | refine tr_cons ?_ ?_ | exact tr_sl))) trivial (by exact .inr ⟨pureTA (fun x hx=>cmdC_pure _ x hx),trivial⟩) ?_
    refine RG.go fun Q hQ=>?_
    simp (disch:=intros;contradiction) only [zS,cmdC,cC,simprocAttr]
    refine hQ (RG.nil ?_)
    simp only [zX]
    refine aw_reg 224 (RG.go fun Q hQ=>?_)
    simp (disch:=intros;contradiction) only [zS,simprocAttr]
    refine hQ (RG.nil ?_)
    simp only [zX]
    refine aw_cond _ rfl trivial (fun ht=>by cases ht) (fun hf=>?_)
    simp only [zX]
    refine aw_reg 288 (RG.go fun Q hQ=>?_)
    simp (disch:=intros;contradiction) only [zS,simprocAttr]
    refine hQ ?_
    refine RG.callo [0] [] (cF) (.mk (by (repeat' (first | exact tr_nil | refine tr_cons ?_ ?_ | exact tr_v | exact tr_bp rfl))) (by first | trivial | (simp only [zT,↓reduceIte];done) | (simp only [zT,simprocAttr];trivial) | (simp only [zT,simprocAttr];repeat' (fail))) (by simp) (by simp) (trivial) (by first | (simp [lkE_cons,lkE_nil];done) | (intro j hj;simp at hj;simp only [setEs,setE_cons,setE_nil,lkE_cons,lkE_nil];repeat rw [if_neg (by omega)])) (by first | (simp [Ent.pure];done) | (simp [Ent.pure];repeat' (fail))) (by simp) (by simp)) ?_
    refine RG.go fun Q hQ=>?_
    simp (disch:=intros;contradiction) only [zS,simprocAttr]
    refine hQ (RG.nil ?_)
    simp only [zX]
    refine aw_reg 400 (RG.go fun Q hQ=>?_)
    simp (disch:=intros;contradiction) only [zS,zW,simprocAttr]
    repeat refine ⟨by (exact ⟨by (intro q hq;obtain ⟨_,_,rfl⟩:=List.mem_map.1 hq;rfl),by omega⟩),?_⟩
    refine hQ (RG.nil ?_)
    simp only [zX]
    refine aw_reg 528 (RG.go fun Q hQ=>?_)
    simp (disch:=intros;contradiction) only [zS,simprocAttr]
    refine hQ (RG.nil ?_)
    simp only [zX]
    refine aw_cond _ rfl trivial (fun ht=>?_) (fun hf=>by simp at hf;omega)
    simp only [zX]
    refine aw_reg 608 (RG.go fun Q hQ=>?_)
    simp (disch:=intros;contradiction) only [zS,simprocAttr]
    refine hQ (RG.nil ?_)
    simp only [zX]
    refine aw_cond _ rfl trivial (fun ht=>by cases ht) (fun hf=>?_)
    simp only [zX]
    refine aw_reg 672 (RG.go fun Q hQ=>?_)
    simp (disch:=intros;contradiction) only [zS,simprocAttr]
    refine hQ ?_
    refine RG.call [] (cN) (by (repeat' (first | exact tr_nil | refine tr_cons ?_ ?_ | exact tr_agg (by repeat' (first | exact trivial | rfl | refine ⟨?_,?_⟩))))) trivial (by exact .inr ⟨pureTA (fun x hx=>volC_pure _ x hx),trivial⟩) ?_
    refine RG.go fun Q hQ=>?_
    simp (disch:=intros;contradiction) only [zS,vC_eq,simprocAttr]
    refine hQ (RG.nil ?_)
    simp only [zX]
    refine aw_reg 832 (RG.go fun Q hQ=>?_)
    simp (disch:=intros;contradiction) only [zS,simprocAttr]
    refine hQ (RG.nil ?_)
    simp only [zX]
    refine aw_cond _ rfl trivial (fun ht=>by cases ht) (fun hf=>?_)
    simp only [zX]
    refine aw_reg 896 (RG.go fun Q hQ=>?_)
    simp (disch:=intros;contradiction) only [zS,simprocAttr]
    refine hQ (RG.nil ?_)
    simp only [zX]
    refine aw_loopK (X:={ i : Nat // i≤L.length∧(L.take i).all (fun w=>decide (w.id < c.vol)) = true }) [0,4,5,9] (fun i=>[(7,I i.1),(8,.c (.sl (L.map volC)))]) [0,16,144,752] (fun i=>[]) (fun i=>L.length - i.1) (⟨0,by omega,rfl⟩) ?_ ?_
    ·skip
     simp only [keepS,keepE,Option.getD_some,lk_cons,lkE_cons,List.cons_append,List.nil_append,simprocAttr]
     refine Le.lit [464] [] _ _ ?_ ?_ ?_ ?_
     ·simp only [zL,simprocAttr]
      all_goals (try ((repeat' ((refine ⟨⟨_,_,rfl⟩,?_⟩;(exact drows_vol _))))))
     ·simp only [zL,simprocAttr]
     ·simp [rlook]
     ·first | (simp;done) | (intro k hk;simp [rlook];omega)
    rintro ⟨i,hi,ha⟩
    simp only [keepS,keepE,Option.getD_some,lk_cons,lkE_cons,List.cons_append,List.nil_append,simprocAttr]
    simp only [zX]
    by_cases hil : i < L.length
    ·skip
     refine aw_draw 944 (RG.go fun Q hQ=>?_)
     simp (disch:=first | (intros;contradiction) | omega | (simp only [zN];omega)) only [zS,zW,vC_eq,simprocAttr]
     repeat refine ⟨by ((simp;done)),?_⟩
     refine hQ (RG.nil ⟨by decide +kernel,?_⟩)
     simp only [zX]
     refine aw_cond _ rfl trivial (fun ht=>?_) (fun hf=>?_)
     ·skip
      try simp at ht
      simp only [zX]
      refine aw_reg 1200 (RG.go fun Q hQ=>?_)
      simp (disch:=first | (intros;contradiction) | omega | (simp only [zN];omega)) only [zS,zW,simprocAttr]
      refine hQ (RG.nil ?_)
      simp only [zX]
      refine ⟨⟨i + 1,by omega,by rw [all_succ hil,ha,Bool.true_and];simp;exact ht.2⟩,?_,by first | omega | (simp only;omega)⟩
      refine Le.lit [] [] _ _ ?_ ?_ ?_ ?_
      ·simp only [zL,simprocAttr]
       all_goals (try ((repeat' (rfl))))
      ·simp only [zL,simprocAttr]
      ·simp [rlook]
      ·first | (simp;done) | (intro k hk;simp [rlook];omega)
     try simp at hf
     simp only [zX,↓reduceIte]
     have hw:=while_ofV (p:=fun w=>decide (w.id < c.vol)) ha (fun h=>by simp;exact hf h)
     have hI : insM (newV c) L = L.take i ++ newV c :: L.drop i:=by unfold insM;rw [← hw.1,← hw.2];rfl
     have hM : (L.take i ++ newV c :: L.drop i).map volC = (L.take i).map volC ++ [volC (newV c)] ++ (L.drop i).map volC:=by simp
     have hdr:=drows_vol (L.take i ++ newV c :: L.drop i)
     rw [hI]
     rw [hM,vC_eq (newV c)] at hdr
     refine aw_draw 1280 (RG.go fun Q hQ=>?_)
     simp (disch:=intros;contradiction) only [zS,zW,simprocAttr]
     repeat refine ⟨by (first | exact ⟨by (intro q hq;obtain ⟨_,_,rfl⟩:=List.mem_map.1 hq;rfl),by omega⟩ | (simp;omega) | (refine ⟨?_,?_⟩ <;> (repeat' (first | omega | (intro q hq;obtain ⟨_,_,rfl⟩:=List.mem_map.1 hq;rfl) | refine ⟨?_,?_⟩)))),?_⟩
     refine hQ (RG.nil ⟨by decide +kernel,?_⟩)
     simp only [zX]
     refine aw_reg 1552 (RG.go fun Q hQ=>?_)
     simp (disch:=intros;contradiction) only [zS,simprocAttr]
     refine hQ (RG.nil ?_)
     simp only [zX]
     rw [show MB (L.take i ++ newV c :: L.drop i) = .box [.sl ((L.take i ++ newV c :: L.drop i).map volC)] from rfl,hM,vC_eq (newV c)]
     refine Fin.objs [1456] [] (.inr rfl) rfl (by first | exact trivial | exact ⟨trivial,trivial⟩ | exact ⟨trivial,trivial,trivial⟩) ?_ ?_ (by simp [objL,rlook]) (by first | (simp [objL,rlook];done) | (intro k hk;simp [objL,rlook];omega))
     ·simp only [zL,simprocAttr]
      all_goals ((repeat' (first | exact trivial | rfl | refine ⟨?_,?_⟩)))
     ·simp only [zL,simprocAttr]
      all_goals (try ((repeat' (first | (first | assumption | (simp [C.isD];done)) | refine ⟨?_,?_⟩))))
    have hw:=while_ofV (p:=fun w=>decide (w.id < c.vol)) ha (fun h=>absurd h hil)
    have hI : insM (newV c) L = L.take i ++ newV c :: L.drop i:=by unfold insM;rw [← hw.1,← hw.2];rfl
    have hM : (L.take i ++ newV c :: L.drop i).map volC = (L.take i).map volC ++ [volC (newV c)] ++ (L.drop i).map volC:=by simp
    have hdr:=drows_vol (L.take i ++ newV c :: L.drop i)
    rw [hI]
    rw [hM,vC_eq (newV c)] at hdr
    refine aw_draw 1616 (RG.go fun Q hQ=>?_)
    simp (disch:=first | (intros;contradiction) | omega | (simp only [zN];omega)) only [zS,zW,simprocAttr]
    repeat refine ⟨by ((simp;omega)),?_⟩
    refine hQ (RG.nil ⟨by decide +kernel,?_⟩)
    simp only [zX]
    refine aw_cond _ rfl trivial (fun ht=>by simp at ht) (fun hf=>?_)
    simp only [zX,↓reduceIte]
    refine aw_draw 1872 (RG.go fun Q hQ=>?_)
    simp (disch:=intros;contradiction) only [zS,zW,simprocAttr]
    repeat refine ⟨by (first | exact ⟨by (intro q hq;obtain ⟨_,_,rfl⟩:=List.mem_map.1 hq;rfl),by omega⟩ | (simp;omega) | (refine ⟨?_,?_⟩ <;> (repeat' (first | omega | (intro q hq;obtain ⟨_,_,rfl⟩:=List.mem_map.1 hq;rfl) | refine ⟨?_,?_⟩)))),?_⟩
    refine hQ (RG.nil ⟨by decide +kernel,?_⟩)
    simp only [zX]
    refine aw_reg 2144 (RG.go fun Q hQ=>?_)
    simp (disch:=intros;contradiction) only [zS,simprocAttr]
    refine hQ (RG.nil ?_)
    simp only [zX]
    rw [show MB (L.take i ++ newV c :: L.drop i) = .box [.sl ((L.take i ++ newV c :: L.drop i).map volC)] from rfl,hM,vC_eq (newV c)]
    refine Fin.objs [2048] [] (.inr rfl) rfl (by first | exact trivial | exact ⟨trivial,trivial⟩ | exact ⟨trivial,trivial,trivial⟩) ?_ ?_ (by simp [objL,rlook]) (by first | (simp [objL,rlook];done) | (intro k hk;simp [objL,rlook];omega))
    ·simp only [zL,simprocAttr]
     all_goals ((repeat' (first | exact trivial | rfl | refine ⟨?_,?_⟩)))
    ·simp only [zL,simprocAttr]
     all_goals (try ((repeat' (first | (first | assumption | (simp [C.isD];done)) | refine ⟨?_,?_⟩))))

   ·rw [if_pos (by omega)] at hZ
    have h4 : newR c = (zeroV,23):=by
     unfold newR at h3 ⊢
     split at h3
     ·cases h3
     ·rename_i h;rw [if_neg h]
    rw [h4] at cN hZ
    simp only at cN hZ
    subst hZ
    refine C_mementoref16_Machine_Apply (Nat.le_of_ble_eq_true rfl) (Nat.le_of_ble_eq_true rfl) ?_
    simp only [cz,A_mementoref16_Machine_Apply,argL,objL,List.length_nil,List.length_cons,Nat.zero_add,zX]
    refine aw_reg 16 (RG.go fun Q hQ=>?_)
    simp (disch:=intros;contradiction) only [zS,simprocAttr]
    refine hQ (RG.nil ?_)
    simp only [zX]
    refine aw_reg 64 (RG.go fun Q hQ=>?_)
    simp (disch:=intros;contradiction) only [zS,simprocAttr]
    refine hQ ?_
    refine RG.call [] (cR) (by (repeat' (first | exact tr_nil | refine tr_cons ?_ ?_ | exact tr_sl))) trivial (by exact .inr ⟨pureTA (fun x hx=>cmdC_pure _ x hx),trivial⟩) ?_
    refine RG.go fun Q hQ=>?_
    simp (disch:=intros;contradiction) only [zS,cmdC,cC,simprocAttr]
    refine hQ (RG.nil ?_)
    simp only [zX]
    refine aw_reg 224 (RG.go fun Q hQ=>?_)
    simp (disch:=intros;contradiction) only [zS,simprocAttr]
    refine hQ (RG.nil ?_)
    simp only [zX]
    refine aw_cond _ rfl trivial (fun ht=>by cases ht) (fun hf=>?_)
    simp only [zX]
    refine aw_reg 288 (RG.go fun Q hQ=>?_)
    simp (disch:=intros;contradiction) only [zS,simprocAttr]
    refine hQ ?_
    refine RG.callo [0] [] (cF) (.mk (by (repeat' (first | exact tr_nil | refine tr_cons ?_ ?_ | exact tr_v | exact tr_bp rfl))) (by first | trivial | (simp only [zT,↓reduceIte];done) | (simp only [zT,simprocAttr];trivial) | (simp only [zT,simprocAttr];repeat' (fail))) (by simp) (by simp) (trivial) (by first | (simp [lkE_cons,lkE_nil];done) | (intro j hj;simp at hj;simp only [setEs,setE_cons,setE_nil,lkE_cons,lkE_nil];repeat rw [if_neg (by omega)])) (by first | (simp [Ent.pure];done) | (simp [Ent.pure];repeat' (fail))) (by simp) (by simp)) ?_
    refine RG.go fun Q hQ=>?_
    simp (disch:=intros;contradiction) only [zS,simprocAttr]
    refine hQ (RG.nil ?_)
    simp only [zX]
    refine aw_reg 400 (RG.go fun Q hQ=>?_)
    simp (disch:=intros;contradiction) only [zS,zW,simprocAttr]
    repeat refine ⟨by (exact ⟨by (intro q hq;obtain ⟨_,_,rfl⟩:=List.mem_map.1 hq;rfl),by omega⟩),?_⟩
    refine hQ (RG.nil ?_)
    simp only [zX]
    refine aw_reg 528 (RG.go fun Q hQ=>?_)
    simp (disch:=intros;contradiction) only [zS,simprocAttr]
    refine hQ (RG.nil ?_)
    simp only [zX]
    refine aw_cond _ rfl trivial (fun ht=>?_) (fun hf=>by simp at hf;omega)
    simp only [zX]
    refine aw_reg 608 (RG.go fun Q hQ=>?_)
    simp (disch:=intros;contradiction) only [zS,simprocAttr]
    refine hQ (RG.nil ?_)
    simp only [zX]
    refine aw_cond _ rfl trivial (fun ht=>by cases ht) (fun hf=>?_)
    simp only [zX]
    refine aw_reg 672 (RG.go fun Q hQ=>?_)
    simp (disch:=intros;contradiction) only [zS,simprocAttr]
    refine hQ ?_
    refine RG.call [] (cN) (by (repeat' (first | exact tr_nil | refine tr_cons ?_ ?_ | exact tr_agg (by repeat' (first | exact trivial | rfl | refine ⟨?_,?_⟩))))) trivial (by exact .inr ⟨pureTA (fun x hx=>volC_pure _ x hx),trivial⟩) ?_
    refine RG.go fun Q hQ=>?_
    simp (disch:=intros;contradiction) only [zS,vC_eq,simprocAttr]
    refine hQ (RG.nil ?_)
    simp only [zX]
    refine aw_reg 832 (RG.go fun Q hQ=>?_)
    simp (disch:=intros;contradiction) only [zS,simprocAttr]
    refine hQ (RG.nil ?_)
    simp only [zX]
    refine aw_cond _ rfl trivial (fun ht=>?_) (fun hf=>by cases hf)
    simp only [zX]
    refine aw_reg 896 (RG.go fun Q hQ=>?_)
    simp (disch:=intros;contradiction) only [zS,simprocAttr]
    refine hQ (RG.nil ?_)
    simp only [zX]
    refine Fin.objs [] [] (.inr rfl) rfl (by first | exact trivial | exact ⟨trivial,trivial⟩ | exact ⟨trivial,trivial,trivial⟩) ?_ ?_ (by simp [objL,rlook]) (by first | (simp [objL,rlook];done) | (intro k hk;simp [objL,rlook];omega))
    ·simp only [zL]
     all_goals ((repeat' (first | exact trivial | rfl | refine ⟨?_,?_⟩)))
    ·simp only [zL,↓reduceIte]

  ·rw [h1] at hZ cF
   rw [if_pos (by omega)] at hZ
   subst hZ
   refine C_mementoref16_Machine_Apply (Nat.le_of_ble_eq_true rfl) (Nat.le_of_ble_eq_true rfl) ?_
   simp only [cz,A_mementoref16_Machine_Apply,argL,objL,List.length_nil,List.length_cons,Nat.zero_add,zX]
   refine aw_reg 16 (RG.go fun Q hQ=>?_)
   simp (disch:=intros;contradiction) only [zS,simprocAttr]
   refine hQ (RG.nil ?_)
   simp only [zX]
   refine aw_reg 64 (RG.go fun Q hQ=>?_)
   simp (disch:=intros;contradiction) only [zS,simprocAttr]
   refine hQ ?_
   refine RG.call [] (cR) (by (repeat' (first | exact tr_nil | refine tr_cons ?_ ?_ | exact tr_sl))) trivial (by exact .inr ⟨pureTA (fun x hx=>cmdC_pure _ x hx),trivial⟩) ?_
   refine RG.go fun Q hQ=>?_
   simp (disch:=intros;contradiction) only [zS,cmdC,cC,simprocAttr]
   refine hQ (RG.nil ?_)
   simp only [zX]
   refine aw_reg 224 (RG.go fun Q hQ=>?_)
   simp (disch:=intros;contradiction) only [zS,simprocAttr]
   refine hQ (RG.nil ?_)
   simp only [zX]
   refine aw_cond _ rfl trivial (fun ht=>by cases ht) (fun hf=>?_)
   simp only [zX]
   refine aw_reg 288 (RG.go fun Q hQ=>?_)
   simp (disch:=intros;contradiction) only [zS,simprocAttr]
   refine hQ ?_
   refine RG.callo [0] [] (cF) (.mk (by (repeat' (first | exact tr_nil | refine tr_cons ?_ ?_ | exact tr_v | exact tr_bp rfl))) (by first | trivial | (simp only [zT,↓reduceIte];done) | (simp only [zT,simprocAttr];trivial) | (simp only [zT,simprocAttr];repeat' (fail))) (by simp) (by simp) (trivial) (by first | (simp [lkE_cons,lkE_nil];done) | (intro j hj;simp at hj;simp only [setEs,setE_cons,setE_nil,lkE_cons,lkE_nil];repeat rw [if_neg (by omega)])) (by first | (simp [Ent.pure];done) | (simp [Ent.pure];repeat' (fail))) (by simp) (by simp)) ?_
   refine RG.go fun Q hQ=>?_
   simp (disch:=intros;contradiction) only [zS,simprocAttr]
   refine hQ (RG.nil ?_)
   simp only [zX]
   refine aw_reg 400 (RG.go fun Q hQ=>?_)
   simp (disch:=intros;contradiction) only [zS,zW,simprocAttr]
   repeat refine ⟨by (exact ⟨by (intro q hq;obtain ⟨_,_,rfl⟩:=List.mem_map.1 hq;rfl),by omega⟩),?_⟩
   refine hQ (RG.nil ?_)
   simp only [zX]
   refine aw_reg 528 (RG.go fun Q hQ=>?_)
   simp (disch:=intros;contradiction) only [zS,simprocAttr]
   refine hQ (RG.nil ?_)
   simp only [zX]
   refine aw_cond _ rfl trivial (fun ht=>?_) (fun hf=>by simp at hf;omega)
   simp only [zX]
   refine aw_reg 608 (RG.go fun Q hQ=>?_)
   simp (disch:=intros;contradiction) only [zS,simprocAttr]
   refine hQ (RG.nil ?_)
   simp only [zX]
   refine aw_cond _ rfl trivial (fun ht=>?_) (fun hf=>by cases hf)
   simp only [zX]
   refine aw_reg 672 (RG.go fun Q hQ=>?_)
   simp (disch:=intros;contradiction) only [zS,simprocAttr]
   refine hQ (RG.nil ?_)
   simp only [zX]
   refine Fin.objs [] [] (.inr rfl) rfl (by first | exact trivial | exact ⟨trivial,trivial⟩ | exact ⟨trivial,trivial,trivial⟩) ?_ ?_ (by simp [objL,rlook]) (by first | (simp [objL,rlook];done) | (intro k hk;simp [objL,rlook];omega))
   ·simp only [zL]
    all_goals ((repeat' (first | exact trivial | rfl | refine ⟨?_,?_⟩)))
   ·simp only [zL,↓reduceIte]

 rw [if_neg hk] at hZ
 rcases idxV_cases c.vol L 0 with ⟨h1,h2⟩ | ⟨k,hkl,h1,h2⟩
 ·rw [h1] at hZ cF
  rw [if_pos (by decide)] at hZ
  subst hZ
  refine C_mementoref16_Machine_Apply (Nat.le_of_ble_eq_true rfl) (Nat.le_of_ble_eq_true rfl) ?_
  simp only [cz,A_mementoref16_Machine_Apply,argL,objL,List.length_nil,List.length_cons,Nat.zero_add,zX]
  refine aw_reg 16 (RG.go fun Q hQ=>?_)
  simp (disch:=intros;contradiction) only [zS,simprocAttr]
  refine hQ (RG.nil ?_)
  simp only [zX]
  refine aw_reg 64 (RG.go fun Q hQ=>?_)
  simp (disch:=intros;contradiction) only [zS,simprocAttr]
  refine hQ ?_
  refine RG.call [] (cR) (by (repeat' (first | exact tr_nil | refine tr_cons ?_ ?_ | exact tr_sl))) trivial (by exact .inr ⟨pureTA (fun x hx=>cmdC_pure _ x hx),trivial⟩) ?_
  refine RG.go fun Q hQ=>?_
  simp (disch:=intros;contradiction) only [zS,cmdC,cC,simprocAttr]
  refine hQ (RG.nil ?_)
  simp only [zX]
  refine aw_reg 224 (RG.go fun Q hQ=>?_)
  simp (disch:=intros;contradiction) only [zS,simprocAttr]
  refine hQ (RG.nil ?_)
  simp only [zX]
  refine aw_cond _ rfl trivial (fun ht=>by cases ht) (fun hf=>?_)
  simp only [zX]
  refine aw_reg 288 (RG.go fun Q hQ=>?_)
  simp (disch:=intros;contradiction) only [zS,simprocAttr]
  refine hQ ?_
  refine RG.callo [0] [] (cF) (.mk (by (repeat' (first | exact tr_nil | refine tr_cons ?_ ?_ | exact tr_v | exact tr_bp rfl))) (by first | trivial | (simp only [zT,↓reduceIte];done) | (simp only [zT,simprocAttr];trivial) | (simp only [zT,simprocAttr];repeat' (fail))) (by simp) (by simp) (trivial) (by first | (simp [lkE_cons,lkE_nil];done) | (intro j hj;simp at hj;simp only [setEs,setE_cons,setE_nil,lkE_cons,lkE_nil];repeat rw [if_neg (by omega)])) (by first | (simp [Ent.pure];done) | (simp [Ent.pure];repeat' (fail))) (by simp) (by simp)) ?_
  refine RG.go fun Q hQ=>?_
  simp (disch:=intros;contradiction) only [zS,simprocAttr]
  refine hQ (RG.nil ?_)
  simp only [zX]
  refine aw_reg 400 (RG.go fun Q hQ=>?_)
  simp (disch:=intros;contradiction) only [zS,zW,simprocAttr]
  repeat refine ⟨by (exact ⟨by (intro q hq;obtain ⟨_,_,rfl⟩:=List.mem_map.1 hq;rfl),by omega⟩),?_⟩
  refine hQ (RG.nil ?_)
  simp only [zX]
  refine aw_reg 528 (RG.go fun Q hQ=>?_)
  simp (disch:=intros;contradiction) only [zS,simprocAttr]
  refine hQ (RG.nil ?_)
  simp only [zX]
  refine aw_cond _ rfl trivial (fun ht=>by simp at ht;omega) (fun hf=>?_)
  simp only [zX]
  refine aw_reg 608 (RG.go fun Q hQ=>?_)
  simp (disch:=intros;contradiction) only [zS,simprocAttr]
  refine hQ (RG.nil ?_)
  simp only [zX]
  refine aw_cond _ rfl trivial (fun ht=>?_) (fun hf=>by cases hf)
  simp only [zX]
  refine aw_reg 672 (RG.go fun Q hQ=>?_)
  simp (disch:=intros;contradiction) only [zS,simprocAttr]
  refine hQ (RG.nil ?_)
  simp only [zX]
  refine Fin.objs [] [] (.inr rfl) rfl (by first | exact trivial | exact ⟨trivial,trivial⟩ | exact ⟨trivial,trivial,trivial⟩) ?_ ?_ (by simp [objL,rlook]) (by first | (simp [objL,rlook];done) | (intro k hk;simp [objL,rlook];omega))
  ·simp only [zL]
   all_goals ((repeat' (first | exact trivial | rfl | refine ⟨?_,?_⟩)))
  ·simp only [zL,↓reduceIte]

 ·rw [Nat.zero_add] at h1
  rw [h1] at hZ cF
  rw [if_neg (by omega)] at hZ
  rw [Int.toNat_natCast,List.getD_eq_getElem?_getD,List.getElem?_eq_getElem hkl,Option.getD_some] at hZ
  have hgk:=hg _ (List.getElem_mem hkl)
  have cD:=mementoref16_Do_con L[k] c (hgk.ok hn) hgk.next (by omega) (fun x hx=>k5 x hx)
  generalize doV L[k] c = D at hZ cD
  subst hZ
  have hM : (L.set k D.v).map volC = (L.map volC).set k (volC D.v):=List.map_set
  have hdr:=drows_vol (L.set k D.v)
  rw [hM,vC_eq D.v] at hdr
  refine C_mementoref16_Machine_Apply (Nat.le_of_ble_eq_true rfl) (Nat.le_of_ble_eq_true rfl) ?_
  simp only [cz,A_mementoref16_Machine_Apply,argL,objL,List.length_nil,List.length_cons,Nat.zero_add,zX]
  refine aw_reg 16 (RG.go fun Q hQ=>?_)
  simp (disch:=intros;contradiction) only [zS,simprocAttr]
  refine hQ (RG.nil ?_)
  simp only [zX]
  refine aw_reg 64 (RG.go fun Q hQ=>?_)
  simp (disch:=intros;contradiction) only [zS,simprocAttr]
  refine hQ ?_
  refine RG.call [] (cR) (by (repeat' (first | exact tr_nil | refine tr_cons ?_ ?_ | exact tr_sl))) trivial (by exact .inr ⟨pureTA (fun x hx=>cmdC_pure _ x hx),trivial⟩) ?_
  refine RG.go fun Q hQ=>?_
  simp (disch:=intros;contradiction) only [zS,cmdC,cC,simprocAttr]
  refine hQ (RG.nil ?_)
  simp only [zX]
  refine aw_reg 224 (RG.go fun Q hQ=>?_)
  simp (disch:=intros;contradiction) only [zS,simprocAttr]
  refine hQ (RG.nil ?_)
  simp only [zX]
  refine aw_cond _ rfl trivial (fun ht=>by cases ht) (fun hf=>?_)
  simp only [zX]
  refine aw_reg 288 (RG.go fun Q hQ=>?_)
  simp (disch:=intros;contradiction) only [zS,simprocAttr]
  refine hQ ?_
  refine RG.callo [0] [] (cF) (.mk (by (repeat' (first | exact tr_nil | refine tr_cons ?_ ?_ | exact tr_v | exact tr_bp rfl))) (by first | trivial | (simp only [zT,↓reduceIte];done) | (simp only [zT,simprocAttr];trivial) | (simp only [zT,simprocAttr];repeat' (fail))) (by simp) (by simp) (trivial) (by first | (simp [lkE_cons,lkE_nil];done) | (intro j hj;simp at hj;simp only [setEs,setE_cons,setE_nil,lkE_cons,lkE_nil];repeat rw [if_neg (by omega)])) (by first | (simp [Ent.pure];done) | (simp [Ent.pure];repeat' (fail))) (by simp) (by simp)) ?_
  refine RG.go fun Q hQ=>?_
  simp (disch:=intros;contradiction) only [zS,simprocAttr]
  refine hQ (RG.nil ?_)
  simp only [zX]
  refine aw_reg 400 (RG.go fun Q hQ=>?_)
  simp (disch:=intros;contradiction) only [zS,zW,simprocAttr]
  repeat refine ⟨by (exact ⟨by (intro q hq;obtain ⟨_,_,rfl⟩:=List.mem_map.1 hq;rfl),by omega⟩),?_⟩
  refine hQ (RG.nil ?_)
  simp only [zX]
  refine aw_reg 528 (RG.go fun Q hQ=>?_)
  simp (disch:=intros;contradiction) only [zS,simprocAttr]
  refine hQ (RG.nil ?_)
  simp only [zX]
  refine aw_cond _ rfl trivial (fun ht=>by simp at ht;omega) (fun hf=>?_)
  simp only [zX]
  refine aw_reg 608 (RG.go fun Q hQ=>?_)
  simp (disch:=intros;contradiction) only [zS,simprocAttr]
  refine hQ (RG.nil ?_)
  simp only [zX]
  refine aw_cond _ rfl trivial (fun ht=>by cases ht) (fun hf=>?_)
  simp only [zX]
  refine aw_draw 672 (RG.go fun Q hQ=>?_)
  simp (disch:=first | (intros;contradiction) | omega | (simp only [zN];omega)) only [zS,zW,vC_eq,simprocAttr]
  repeat refine ⟨by (omega),?_⟩
  refine hQ ?_
  refine RG.call [] (cD) (by (repeat' (first | exact tr_nil | refine tr_cons ?_ ?_ | exact tr_agg (by repeat' (first | exact trivial | rfl | refine ⟨?_,?_⟩))))) trivial (by exact .inr ⟨doR_pure _,trivial⟩) ?_
  refine RG.go fun Q hQ=>?_
  simp (disch:=intros;contradiction) only [zS,vC_eq,repC,simprocAttr]
  refine hQ (RG.nil ⟨by decide +kernel,?_⟩)
  simp only [zX]
  refine aw_reg 912 (RG.go fun Q hQ=>?_)
  simp (disch:=first | (intros;contradiction) | omega | (simp only [zN];omega)) only [zS,zW,vC_eq,simprocAttr]
  repeat refine ⟨by (omega),?_⟩
  refine hQ (RG.nil ?_)
  simp only [zX]
  refine aw_reg 1024 (RG.go fun Q hQ=>?_)
  simp (disch:=intros;contradiction) only [zS,simprocAttr]
  refine hQ (RG.nil ?_)
  simp only [zX]
  rw [show MB (L.set k D.v) = .box [.sl ((L.set k D.v).map volC)] from rfl,hM,vC_eq D.v]
  refine aw_reg 1136 (RG.go fun Q hQ=>?_)
  simp (disch:=intros;contradiction) only [zS,simprocAttr]
  refine hQ (RG.nil ?_)
  simp only [zX]
  refine Fin.objs [464] [] (.inr rfl) rfl (by first | exact trivial | exact ⟨trivial,trivial⟩ | exact ⟨trivial,trivial,trivial⟩) ?_ ?_ (by simp [objL,rlook]) (by first | (simp [objL,rlook];done) | (intro k hk;simp [objL,rlook];omega))
  ·simp only [zL,simprocAttr]
   all_goals ((repeat' (first | exact trivial | rfl | refine ⟨?_,?_⟩)))
  ·simp only [zL,simprocAttr]
   all_goals (try ((repeat' (first | (first | assumption | (simp [C.isD];done)) | refine ⟨?_,?_⟩))))

end Go.Abs

namespace Go.Abs
open Go Go.Proofs
set_option maxRecDepth 100000
set_option linter.unusedSimpArgs false
set_option maxHeartbeats 4000000

theorem appM_good {L : List VOL} {d : List Nat} {n : Nat} (hg : ∀ v ∈ L,Vgood v n) (h8 : ∀ c ∈ d,c < 256) : (∀ v ∈ (appM L d).1,Vgood v (n + 1))∧(appM L d).1.length≤L.length + 1:=by
 have hm : ∀ v ∈ L,Vgood v (n + 1):=fun v hv=>(hg v hv).mono (Nat.le_succ n)
 have hR:=fun c h=>readC_ok (d:=d) (c:=c) (n:=d.length) ⟨h8,Nat.le_refl _⟩ h
 unfold appM
 generalize readC d = q at hR
 obtain ⟨c,e⟩:=q
 simp only
 split
 ·exact ⟨hm,Nat.le_succ _⟩
 rename_i he
 obtain rfl : e = 0:=by omega
 obtain ⟨k1,k2,k3,k4,k5⟩:=hR c rfl
 split
 ·split
  ·exact ⟨hm,Nat.le_succ _⟩
  split
  ·exact ⟨hm,Nat.le_succ _⟩
  ·rename_i h
   have hs : shapeV (newV c) = true:=by
    unfold newR at h
    split at h
    ·assumption
    ·exact absurd (by decide) h
   have h4 : newR c = (newV c,0):=new_of hs
   rw [h4]
   simp only
   refine ⟨fun v hv=>?_,?_⟩
   ·unfold insM at hv
    rcases List.mem_append.1 hv with hv | hv
    ·exact hm v ((List.takeWhile_prefix _).subset hv)
    ·rcases List.mem_cons.1 hv with rfl | hv
     ·exact (Vgood.new hs).mono (Nat.zero_le _)
     ·exact hm v ((List.dropWhile_suffix _).subset hv)
   ·unfold insM
    have:=congrArg List.length (List.takeWhile_append_dropWhile (p:=fun w : VOL=>decide (w.id < (newV c).id)) (l:=L))
    simp only [List.length_append,List.length_cons] at this ⊢
    omega
 split
 ·exact ⟨hm,Nat.le_succ _⟩
 ·rename_i h
  rcases idxV_cases c.vol L 0 with ⟨h1,h2⟩ | ⟨k,hkl,h1,h2⟩
  ·rw [h1] at h;exact absurd (by decide) h
  ·rw [h1,Nat.zero_add,Int.toNat_natCast,List.getD_eq_getElem?_getD,List.getElem?_eq_getElem hkl,Option.getD_some]
   refine ⟨fun v hv=>?_,by simp⟩
   rcases List.mem_or_eq_of_mem_set hv with hv | rfl
   ·exact hm v hv
   ·exact (hg _ (List.getElem_mem hkl)).doV k2

theorem itsB_len2 (m : Nat) (hm : m≤1000000) : ∀ (l : List IT),(∀ x ∈ l,x.d.length≤m)→(itsB l).length≤l.length * (m + 20)
 | [],_=>by simp [itsB]
 | x :: l,h=>by
  have h3:=h x (by simp)
  have h1:=itB_len x (by omega)
  have h2:=itsB_len2 m hm l fun y hy=>h y (by simp [hy])
  have : itsB (x :: l) = itB x ++ itsB l:=rfl
  rw [this,List.length_append,List.length_cons,Nat.add_mul,Nat.one_mul];omega
theorem cmdB_len {c : CMD} {m : Nat} (hm : m≤1000) (hp : c.place.length≤1000) (hi : c.items.length≤8) (hd : ∀ x ∈ c.items,x.d.length≤m) : (cmdB c).length≤1000000:=by
 have e1:=numsL_len [c.kind,c.vol,c.blocks,c.size,c.per,c.total,c.at',c.index]
 have e2:=numsL_len c.place
 have e3:=putS1_len c.place.length
 have e4:=itsB_len2 m (by omega) c.items hd
 have e5:=putS1_len c.items.length
 have e6 : c.items.length * (m + 20)≤8 * 1020:=Nat.mul_le_mul hi (by omega)
 unfold cmdB placeB itemsB
 simp only [List.length_append,List.length_cons,List.length_nil] at e1 ⊢
 omega

structure Csmall (c : CMD) : Prop where
 b8 : byI c.items
 place : c.place.length≤1000
 items : c.items.length≤8
 data : ∀ x ∈ c.items,x.d.length≤200

theorem itsF_len (b s : Nat) : ∀ (l : List Nat) (acc : List IT),acc.length≤8→(∀ x ∈ acc,x.d.length = s)→(itsF b s l acc).length≤8∧∀ x ∈ itsF b s l acc,x.d.length = s
 | [],acc,h,h2=>⟨h,h2⟩
 | c :: l,acc,h,h2=>by
  unfold itsF
  split
  ·refine itsF_len b s l _ ?_ ?_
   ·unfold itsStep;split
    ·exact h
    ·simp;omega
   ·unfold itsStep;split
    ·exact h2
    ·intro x hx
     rcases List.mem_append.1 hx with hx | hx
     ·exact h2 x hx
     ·simp only [List.mem_singleton] at hx;subst hx;exact dataN_len _ _
  ·exact ⟨h,h2⟩
theorem itsF_by (b s : Nat) : ∀ (l : List Nat) (acc : List IT),byI acc→byI (itsF b s l acc)
 | [],acc,h=>h
 | c :: l,acc,h=>by
  unfold itsF
  split
  ·refine itsF_by b s l _ ?_
   unfold itsStep
   split
   ·exact h
   ·intro x hx
    rcases List.mem_append.1 hx with hx | hx
    ·exact h x hx
    ·simp only [List.mem_singleton] at hx;subst hx;exact dataN_by _ _
  ·exact h
theorem Csmall.its (k v : Int) (t i : Int) (b s : Nat) (l : List Nat) (hs : s≤200) : Csmall ⟨k,v,0,0,0,[],0,t,i,itsN b s l⟩:=by
 have h:=itsF_len b s l [] (by simp) (fun x hx=>(by cases hx))
 exact ⟨itsF_by b s l [] (fun x hx=>(by cases hx)),by simp,h.1,fun x hx=>by rw [h.2 x hx];exact hs⟩
theorem Csmall.no (k v : Int) (t i : Int) : Csmall ⟨k,v,0,0,0,[],0,t,i,[]⟩:=⟨fun x hx=>(by cases hx),by simp,by simp,fun x hx=>(by cases hx)⟩
theorem cmdV_small (v : VOL) (B S L w a b c : Nat) (hS : S≤200) : Csmall (cmdV v B S L w a b c):=by
 unfold cmdV
 split
 ·exact .its _ _ _ _ _ _ _ hS
 unfold cmd0
 split
 ·exact .its _ _ _ _ _ _ _ hS
 split
 ·exact .no _ _ _ _
 split
 ·exact .no _ _ _ _
 split
 ·exact .no _ _ _ _
 split
 ·exact .no _ _ _ _
 split
 ·exact .its _ _ _ _ _ _ _ hS
 ·exact .no _ _ _ _
theorem createC_small (vol blocks size per total : Nat) (h : total < 1000) : Csmall (createC vol blocks size per total):=by
 have:=(shape_lims (createC_shape vol blocks size per total h)).2.2.2.2.2.2
 refine ⟨fun x hx=>(by cases hx),?_,by simp [createC],fun x hx=>(by cases hx)⟩
 have h2 : (createC vol blocks size per total).place.length≤512:=this
 omega

def totN (c : Nat) : Nat:=if c % 4 = 0 then c / 4 % 3 + 1 else 0
theorem Cmd_new (w a b c : Nat) (hw : w < 256) (ha : a < 256) (hb : b < 256) (hc : c < 256) :
  Con Try.prog 17 [.agg (volC zeroV),B false,.c (.v (.int .u8 w)),.c (.v (.int .u8 a)),.c (.v (.int .u8 b)),.c (.v (.int .u8 c))] [] (.agg (cmdC (createC 0 a b c (totN c)))) []:=by
 have ht : totN c < 1000:=by unfold totN;split <;> omega
 have cC:=Create_con 0 a b c (totN c) (by omega) ha hb hc ht
 have e1 : (c : Int) % 4 = ((c % 4 : Nat) : Int):=by omega
 have e2 : ((c / 4 : Nat) : Int) % 3 = ((c / 4 % 3 : Nat) : Int):=by omega
 have e3 : (c : Int) / 4 = ((c / 4 : Nat) : Int):=by omega
 have e4 : (c : Int).tdiv 4 = ((c / 4 : Nat) : Int):=by rw [Int.tdiv_eq_ediv_of_nonneg (by omega)];omega
 have e5 : IntKind.u8.wrap 0 = 0:=by decide
 have hdr : (SV.agg (cmdC (createC 0 a b c (totN c)))).pureD:=cmdC_pure _
 refine C_mementoseat_Cmd (Nat.le_of_ble_eq_true rfl) (Nat.le_of_ble_eq_true rfl) ?_
 simp only [cz,A_mementoseat_Cmd,argL,objL,List.length_nil,Nat.zero_add,zX,simprocAttr]
 refine aw_reg 16 (RG.go fun Q hQ=>?_)
 simp (disch:=intros;contradiction) only [zS,vC_eq,zeroV,simprocAttr]
 refine hQ (RG.nil ?_)
 simp only [zX]
 refine aw_reg 80 (RG.go fun Q hQ=>?_)
 simp (disch:=intros;contradiction) only [zS,simprocAttr]
 refine hQ (RG.nil ?_)
 simp only [zX]
 refine aw_cond _ rfl trivial (fun ht=>?_) (fun hf=>by cases hf)
 simp only [zX]
 refine aw_reg 144 (RG.go fun Q hQ=>?_)
 simp (disch:=intros;contradiction) only [zS,simprocAttr]
 refine hQ (RG.nil ?_)
 simp only [zY]
 refine aw_joinS (Y:=Unit) [3,4,5,6,12] (fun y=>[(13,I (totN c))]) [16,32] (fun y=>[]) (by (repeat' (first | exact cl_fin | refine cl_then ?_ ?_))) ?_ ?_
 ·skip
  simp only [zX]
  refine aw_reg 192 (RG.go fun Q hQ=>?_)
  simp (disch:=first | (intros;contradiction) | omega | (simp only [zN];omega)) only [zS,zW,e1,simprocAttr]
  repeat refine ⟨by (omega),?_⟩
  refine hQ (RG.nil ?_)
  simp only [zX]
  refine aw_cond _ rfl trivial (fun ht=>?_) (fun hf=>?_)
  ·skip
   try simp at ht
   have e6 : ((c / 4 % 3 : Nat) : Int) + 1 = (totN c : Int):=by unfold totN;rw [if_pos (by omega)];rfl
   refine aw_reg 272 (RG.go fun Q hQ=>?_)
   simp (disch:=first | (intros;contradiction) | omega | (simp only [zN];omega)) only [zS,zW,e2,e3,e6,simprocAttr]
   repeat refine ⟨by (omega),?_⟩
   refine hQ (RG.nil ?_)
   simp only [zX]
   refine ⟨(),?_⟩
   simp only [keepS,keepE,Option.getD_some,lk_cons,lkE_cons,List.cons_append,List.nil_append,simprocAttr]
   refine Le.lit [] [] _ _ ?_ ?_ ?_ ?_
   ·simp only [zL,simprocAttr]
   ·simp only [zL,simprocAttr]
   ·simp [rlook]
   ·first | (simp;done) | (intro k hk;simp [rlook];omega)
  try simp at hf
  simp only [zX]
  have e6 : totN c = 0:=by unfold totN;rw [if_neg (by omega)]
  refine ⟨(),?_⟩
  simp only [keepS,keepE,Option.getD_some,lk_cons,lkE_cons,List.cons_append,List.nil_append,simprocAttr]
  refine Le.lit [] [] _ _ ?_ ?_ ?_ ?_
  ·simp only [zL,simprocAttr]
   all_goals (rw [e6];rfl;skip)
  ·simp only [zL,simprocAttr]
  ·simp [rlook]
  ·first | (simp;done) | (intro k hk;simp [rlook];omega)
 rintro y
 simp only [keepS,keepE,Option.getD_some,lk_cons,lkE_cons,List.cons_append,List.nil_append,simprocAttr]
 simp only [zX]
 refine aw_reg 400 (RG.go fun Q hQ=>?_)
 simp (disch:=intros;contradiction) only [zS,e5,simprocAttr]
 refine hQ ?_
 refine RG.call [] (cC) (by (repeat' (first | exact tr_nil | refine tr_cons ?_ ?_ | exact tr_v))) trivial (by exact .inr ⟨hdr,trivial⟩) ?_
 refine RG.go fun Q hQ=>?_
 simp (disch:=intros;contradiction) only [zS,cmdC,simprocAttr]
 repeat refine ⟨by ((simp;done)),?_⟩
 refine hQ (RG.nil ?_)
 simp only [zX]
 refine Fin.data [] (.inr rfl) rfl (by (exact ⟨trivial,trivial⟩)) ?_
 simp only [zL]
 all_goals ((repeat' (first | exact trivial | rfl | refine ⟨?_,?_⟩)))

end Go.Abs

namespace Go.Abs
open Go Go.Proofs
set_option maxRecDepth 100000
set_option linter.unusedSimpArgs false
set_option maxHeartbeats 8000000

def putB (c : CMD) : List Nat:=if cmdR c = true then cmdB c else []
def putE (c : CMD) : Int:=if cmdR c = true then 0 else 23
theorem PutB_con (c : CMD) (h : Csmall c) : Con Try.prog 53 [.agg (cmdC c)] [] (.tup [.c (.sl ((putB c).map brow)),I (putE c)]) [] :=
 PutCmd_con c (by have:=h.place;omega) (by have:=h.items;omega) (fun x hx=>by have:=h.data x hx;omega)
def seatC (L : List VOL) (w a b c : Nat) : CMD :=
 if (volM L 0).2 = true then cmdV (volM L 0).1 (volM L 0).1.blocks.toNat (volM L 0).1.size.toNat (volM L 0).1.ws.length w a b c else createC 0 a b c (totN c)
def seatS (L : List VOL) (w a b c : Nat) : List VOL:=(appM L (putB (seatC L w a b c))).1
def seatN (l : List Nat) : Nat→List VOL
 | 0=>[]
 | k + 1=>seatS (seatN l k) (l.getD (4 * k) 0) (l.getD (4 * k + 1) 0) (l.getD (4 * k + 2) 0) (l.getD (4 * k + 3) 0)
def vol0 : VOL:=newV (createC 0 3 1 1 0)
def seatV (l : List Nat) : VOL:=(seatN l (l.length / 4)).headD vol0

theorem volM_cases (L : List VOL) (id : Int) (n : Nat) (hg : ∀ v ∈ L,Vgood v n) : ((volM L id).2 = true∧Vgood (volM L id).1 n)∨((volM L id).2 = false∧(volM L id).1 = zeroV):=by
 rcases idxV_cases id L 0 with ⟨h1,h2⟩ | ⟨k,hk,h1,h2⟩
 ·right
  have : volM L id = (zeroV,false):=by unfold volM;rw [h1,if_pos (by decide)]
  rw [this];exact ⟨rfl,rfl⟩
 ·left
  have : volM L id = (L[k],true):=by
   unfold volM;rw [h1,Nat.zero_add,if_neg (by omega),Int.toNat_natCast,List.getD_eq_getElem?_getD,List.getElem?_eq_getElem hk];rfl
  rw [this];exact ⟨rfl,hg _ (List.getElem_mem hk)⟩

theorem seatC_small (L : List VOL) (n : Nat) (hg : ∀ v ∈ L,Vgood v n) (w a b c : Nat) : Csmall (seatC L w a b c):=by
 unfold seatC
 rcases volM_cases L 0 n hg with ⟨h1,h2⟩ | ⟨h1,h2⟩
 ·rw [if_pos h1]
  exact cmdV_small _ _ _ _ _ _ _ _ (by have:=(shape_lims (rightV_iff.1 h2.right).1).2.2.1;omega)
 ·rw [if_neg (by simp [h1])]
  exact createC_small _ _ _ _ _ (by unfold totN;split <;> omega)

theorem putB_ok {c : CMD} (h : Csmall c) : (∀ x ∈ putB c,x < 256)∧(putB c).length≤1000000:=by
 unfold putB
 split
 ·exact ⟨cmdB_by _ h.b8,cmdB_len (m:=200) (by omega) h.place h.items h.data⟩
 ·simp
theorem seatB_ok {L : List VOL} {n : Nat} (hg : ∀ v ∈ L,Vgood v n) (w a b c : Nat) :
  (∀ x ∈ putB (seatC L w a b c),x < 256)∧(putB (seatC L w a b c)).length≤1000000:=putB_ok (seatC_small L n hg w a b c)

theorem Cmd_any (L : List VOL) (n : Nat) (hg : ∀ v ∈ L,Vgood v n) (hn : n≤50000) (w a b c : Nat) (hw : w < 256) (ha : a < 256) (hb : b < 256) (hc : c < 256) :
  Con Try.prog 17 [.agg (volC (volM L 0).1),B (volM L 0).2,.c (.v (.int .u8 w)),.c (.v (.int .u8 a)),.c (.v (.int .u8 b)),.c (.v (.int .u8 c))] [] (.agg (cmdC (seatC L w a b c))) []:=by
 unfold seatC
 rcases volM_cases L 0 n hg with ⟨h1,h2⟩ | ⟨h1,h2⟩
 ·rw [if_pos h1,h1];exact Cmd_there _ n h2 hn w a b c hw ha hb hc
 ·rw [if_neg (by simp [h1]),h1,h2];exact Cmd_new w a b c hw ha hb hc

theorem seatN_good (l : List Nat) : ∀ k,(∀ v ∈ seatN l k,Vgood v k)∧(seatN l k).length≤k
 | 0=>⟨fun v hv=>(by cases hv),Nat.le_refl _⟩
 | k + 1=>by
  have h:=seatN_good l k
  have h2:=appM_good h.1 (seatB_ok h.1 (l.getD (4 * k) 0) (l.getD (4 * k + 1) 0) (l.getD (4 * k + 2) 0) (l.getD (4 * k + 3) 0)).1
  exact ⟨h2.1,Nat.le_trans h2.2 (by omega)⟩

theorem seatV_good (l : List Nat) : Vgood (seatV l) (l.length / 4):=by
 have h:=(seatN_good l (l.length / 4)).1
 unfold seatV
 cases hs : seatN l (l.length / 4) with
 | nil=>exact (Vgood.new (createC_shape 0 3 1 1 0 (by omega))).mono (Nat.zero_le _)
 | cons v r=>rw [hs] at h;exact h v (by simp)

theorem getD_lt {l : List Nat} {i : Nat} (h : i < l.length) : l.getD i 0 = l[i]:=by rw [List.getD_eq_getElem?_getD,List.getElem?_eq_getElem h];rfl

theorem Volume_con (l : List Nat) (h8 : ∀ c ∈ l,c < 256) (hl : l.length≤10000) : Con Try.prog 28 [.c (.sl (l.map brow))] [] (.agg (volC (seatV l))) []:=by
 have cC:=Create_con 0 3 1 1 0 (by omega) (by omega) (by omega) (by omega) (by omega)
 have hsh:=createC_shape 0 3 1 1 0 (by omega)
 have hpl:=(shape_lims hsh).2.2.2.2.2.2
 have hN:=mementoref16_New_con (createC 0 3 1 1 0) (by have : (createC 0 3 1 1 0).place.length≤512:=hpl;omega)
 rw [new_of hsh] at hN
 obtain ⟨N,hN4⟩ : ∃ N,N = l.length / 4:=⟨_,rfl⟩
 have hV : seatV l = (seatN l N).headD vol0:=by rw [hN4];rfl
 obtain ⟨R,hR⟩ : ∃ R,R = seatN l N:=⟨_,rfl⟩
 rw [hV,← hR]
 refine C_mementoseat_Volume (Nat.le_of_ble_eq_true rfl) (Nat.le_of_ble_eq_true rfl) ?_
 simp only [cz,A_mementoseat_Volume,argL,objL,List.length_nil,zX]
 refine aw_reg 16 (RG.go fun Q hQ=>?_)
 simp (disch:=intros;contradiction) only [zS,simprocAttr]
 refine hQ (RG.nil ?_)
 simp only [zX]
 refine aw_reg 64 (RG.go fun Q hQ=>?_)
 simp (disch:=intros;contradiction) only [zS,simprocAttr]
 refine hQ (RG.nil ?_)
 simp only [zX]
 refine aw_reg 144 (RG.go fun Q hQ=>?_)
 simp (disch:=intros;contradiction) only [zS,simprocAttr]
 refine hQ (RG.nil ?_)
 simp only [zX]
 refine aw_loopK (X:={ p : Nat × Nat × List VOL // p.1≤N∧p.2.1 = 4 * p.1∧p.2.2 = seatN l p.1 }) [0,2,3] (fun p=>[(4,I p.1.2.1)]) [16] (fun p=>[(80,MB p.1.2.2)]) (fun p=>N - p.1.1) (⟨(0,0,[]),by simp,by simp,rfl⟩) ?_ ?_
 ·skip
  simp only [keepS,keepE,Option.getD_some,lk_cons,lkE_cons,List.cons_append,List.nil_append,simprocAttr]
  refine Le.lit [] [] _ _ ?_ ?_ ?_ ?_
  ·simp only [zL,simprocAttr]
  ·simp only [zL,simprocAttr]
  ·simp [rlook]
  ·first | (simp;done) | (intro k hk;simp [rlook];omega)
 rintro ⟨⟨k,i,L⟩,hk,hik,hLs⟩
 simp only [keepS,keepE,Option.getD_some,lk_cons,lkE_cons,List.cons_append,List.nil_append,simprocAttr]
 simp only [zX]
 simp only at hk hik hLs
 have hGd:=(seatN_good l k).1
 have hL:=(seatN_good l k).2
 rw [← hLs] at hGd hL
 refine aw_reg 192 (RG.go fun Q hQ=>?_)
 simp (disch:=first | (intros;contradiction) | omega | (simp only [zN];omega)) only [zS,zW,simprocAttr]
 refine hQ (RG.nil ?_)
 simp only [zX]
 refine aw_cond _ rfl trivial (fun ht=>?_) (fun hf=>?_)
 ·skip
  try simp at ht
  simp only [zX]
  have h3 : i + 3 < l.length:=by omega
  obtain ⟨i1,hi1⟩ : ∃ i1,i1 = i + 1:=⟨_,rfl⟩
  obtain ⟨i2,hi2⟩ : ∃ i2,i2 = i + 2:=⟨_,rfl⟩
  obtain ⟨i3,hi3⟩ : ∃ i3,i3 = i + 3:=⟨_,rfl⟩
  obtain ⟨i4,hi4⟩ : ∃ i4,i4 = i + 4:=⟨_,rfl⟩
  have b0 : i < l.length:=by omega
  have b1 : i1 < l.length:=by omega
  have b2 : i2 < l.length:=by omega
  have b3 : i3 < l.length:=by omega
  have hs : seatN l (k + 1) = seatS L l[i] l[i1] l[i2] l[i3]:=by
   rw [seatN,← hLs,← hik,← hi1,← hi2,← hi3,getD_lt b0,getD_lt b1,getD_lt b2,getD_lt b3]
  have t0:=h8 _ (List.getElem_mem b0)
  have t1:=h8 _ (List.getElem_mem b1)
  have t2:=h8 _ (List.getElem_mem b2)
  have t3:=h8 _ (List.getElem_mem b3)
  have cM:=MVolume_con L 0 (by omega)
  have cD:=Cmd_any L k hGd (by omega) l[i] l[i1] l[i2] l[i3] t0 t1 t2 t3
  have hB:=seatB_ok hGd l[i] l[i1] l[i2] l[i3]
  have hsm:=seatC_small L k hGd l[i] l[i1] l[i2] l[i3]
  unfold seatS at hs
  have cA:=Apply_con L _ k (by omega) hGd (by omega) hB.1 hB.2
  generalize seatC L l[i] l[i1] l[i2] l[i3] = C0 at cD hB hsm cA hs
  have cP:=PutB_con C0 hsm
  generalize putB C0 = bs at cA hs hB cP
  generalize appM L bs = Z at cA hs
  obtain ⟨L2,rp⟩:=Z
  simp only at cA hs
  have hs2 : seatN l (k + 1) = L2∧True:=⟨hs,trivial⟩
  clear hs
  generalize volM L 0 = V0 at cM cD
  obtain ⟨v0,b0⟩:=V0
  simp only at cM cD
  have e1 : (i : Int) + 1 = (i1 : Int):=by omega
  have e2 : (i : Int) + 2 = (i2 : Int):=by omega
  have e3 : (i : Int) + 3 = (i3 : Int):=by omega
  have e4 : (i : Int) + 4 = (i4 : Int):=by omega
  refine aw_reg 304 (RG.go fun Q hQ=>?_)
  simp (disch:=intros;contradiction) only [zS,e3,simprocAttr]
  refine hQ ?_
  refine RG.callo [80] [] (cM) (.mk (by (repeat' (first | exact tr_nil | refine tr_cons ?_ ?_ | exact tr_v | exact tr_bp rfl))) (by first | trivial | (simp only [zT,↓reduceIte];done) | (simp only [zT,simprocAttr];trivial) | (simp only [zT,simprocAttr];repeat' (fail))) (by simp) (by simp) (trivial) (by first | (simp [lkE_cons,lkE_nil];done) | (intro j hj;simp at hj;simp only [setEs,setE_cons,setE_nil,lkE_cons,lkE_nil];repeat rw [if_neg (by omega)])) (by first | (simp [Ent.pure];done) | (simp [Ent.pure];repeat' (fail))) (by simp) (by simp)) ?_
  refine RG.go fun Q hQ=>?_
  simp (disch:=intros;contradiction) only [zS,vC_eq,simprocAttr]
  refine hQ (RG.nil ?_)
  simp only [zX]
  refine aw_draw 464 (RG.go fun Q hQ=>?_)
  simp (disch:=first | (intros;contradiction) | omega | (simp only [zN];omega)) only [zS,zW,brow,e1,e2,e3,simprocAttr]
  repeat refine ⟨by (omega),?_⟩
  refine hQ ?_
  refine RG.call [] (cD) (by (repeat' (first | exact tr_nil | refine tr_cons ?_ ?_ | exact tr_v | exact tr_agg (by repeat' (first | exact trivial | rfl | refine ⟨?_,?_⟩))))) trivial (by exact .inr ⟨cmdC_pure _,trivial⟩) ?_
  refine RG.go fun Q hQ=>?_
  simp (disch:=intros;contradiction) only [zS,simprocAttr]
  refine hQ ?_
  refine RG.call [] (cP) (by (repeat' (first | exact tr_nil | refine tr_cons ?_ ?_ | exact tr_agg (by repeat' (first | exact trivial | rfl | refine ⟨?_,?_⟩))))) trivial (by exact .inr ⟨pureTC,trivial⟩) ?_
  refine RG.go fun Q hQ=>?_
  simp (disch:=intros;contradiction) only [zS,simprocAttr]
  refine hQ (RG.nil ⟨by decide +kernel,?_⟩)
  simp only [zX]
  refine aw_reg 944 (RG.go fun Q hQ=>?_)
  simp (disch:=intros;contradiction) only [zS,simprocAttr]
  refine hQ ?_
  refine RG.callo [80] [] (cA) (.mk (by (repeat' (first | exact tr_nil | refine tr_cons ?_ ?_ | exact tr_bp rfl | exact tr_sl))) (by first | trivial | (simp only [zT,↓reduceIte];done) | (simp only [zT,simprocAttr];trivial) | (simp only [zT,simprocAttr];repeat' (fail))) (by simp) (by simp) (trivial) (by first | (simp [lkE_cons,lkE_nil];done) | (intro j hj;simp at hj;simp only [setEs,setE_cons,setE_nil,lkE_cons,lkE_nil];repeat rw [if_neg (by omega)])) (by first | (simp [Ent.pure];done) | (simp [Ent.pure];repeat' (fail))) (by simp) (by simp)) ?_
  refine RG.go fun Q hQ=>?_
  simp (disch:=intros;contradiction) only [zS,simprocAttr]
  refine hQ (RG.nil ?_)
  simp only [zX]
  refine aw_reg 1024 (RG.go fun Q hQ=>?_)
  simp (disch:=first | (intros;contradiction) | omega | (simp only [zN];omega)) only [zS,zW,e4,simprocAttr]
  refine hQ (RG.nil ?_)
  simp only [zX]
  refine ⟨⟨(k + 1,i4,L2),by simp only;omega,by simp only;omega,by simp only;rw [hs2.1]⟩,?_,by first | omega | (simp only;omega)⟩
  refine Le.lit [] [] _ _ ?_ ?_ ?_ ?_
  ·simp only [zL,simprocAttr]
  ·simp only [zL,simprocAttr]
   all_goals (trivial;skip)
  ·simp [rlook]
  ·first | (simp;done) | (intro k hk;simp [rlook];omega)
 try simp at hf
 simp only [zX,↓reduceIte]
 have hkN : k = N:=by omega
 have hLR : L = R:=by rw [hLs,hR,hkN]
 by_cases hn : L = []
 ·skip
  refine aw_reg 1104 (RG.go fun Q hQ=>?_)
  simp (disch:=intros;contradiction) only [zS,zW,simprocAttr]
  refine hQ (RG.nil ?_)
  simp only [zX]
  refine aw_cond _ rfl trivial (fun ht=>?_) (fun hf=>by rw [hn] at hf;simp at hf)
  simp only [zX]
  refine aw_reg 1232 (RG.go fun Q hQ=>?_)
  simp (disch:=intros;contradiction) only [zS,↓reduceIte]
  refine hQ ?_
  refine RG.call [] (cC) (by (repeat' (first | exact tr_nil | refine tr_cons ?_ ?_ | exact tr_v))) trivial (by exact .inr ⟨cmdC_pure _,trivial⟩) ?_
  refine RG.go fun Q hQ=>?_
  simp (disch:=intros;contradiction) only [zS,simprocAttr]
  refine hQ ?_
  refine RG.call [] (hN) (by (repeat' (first | exact tr_nil | refine tr_cons ?_ ?_ | exact tr_agg (by repeat' (first | exact trivial | rfl | refine ⟨?_,?_⟩))))) trivial (by exact .inr ⟨pureTA (fun c hc=>volC_pure _ c hc),trivial⟩) ?_
  refine RG.go fun Q hQ=>?_
  simp (disch:=intros;contradiction) only [zS,vC_eq,simprocAttr]
  refine hQ (RG.nil ?_)
  simp only [zX]
  rw [show R.headD vol0 = newV (createC 0 3 1 1 0) from by rw [← hLR,hn];rfl]
  refine aw_reg 1392 (RG.go fun Q hQ=>?_)
  simp (disch:=intros;contradiction) only [zS,simprocAttr]
  refine hQ (RG.nil ?_)
  simp only [zX]
  refine Fin.data [] (.inr rfl) rfl (by (exact ⟨trivial,trivial⟩)) ?_
  simp only [zL]
  all_goals ((repeat' (first | exact trivial | rfl | refine ⟨?_,?_⟩)))
 obtain ⟨v,r,hvr⟩:=List.exists_cons_of_ne_nil hn
 subst hvr
 refine aw_reg 1456 (RG.go fun Q hQ=>?_)
 simp (disch:=intros;contradiction) only [zS,zW,vC_eq,simprocAttr]
 refine hQ (RG.nil ?_)
 simp only [zX]
 refine aw_cond _ rfl trivial (fun ht=>by simp at ht;omega) (fun hf=>?_)
 simp only [zX]
 refine aw_reg 1584 (RG.go fun Q hQ=>?_)
 simp (disch:=intros;contradiction) only [zS,zW,vC_eq,simprocAttr]
 repeat refine ⟨by (omega),?_⟩
 refine hQ (RG.nil ?_)
 simp only [zX]
 rw [show R.headD vol0 = v from by rw [← hLR];rfl]
 refine Fin.data [] (.inr rfl) rfl (by (exact ⟨trivial,trivial⟩)) ?_
 simp only [zL]
 all_goals ((repeat' (first | exact trivial | rfl | refine ⟨?_,?_⟩)))

end Go.Abs

namespace Go.Abs
open Go Go.Proofs
set_option maxRecDepth 100000
set_option linter.unusedSimpArgs false
set_option maxHeartbeats 8000000

theorem mementoref16_Right_con (v : VOL) (ok : Vok v) : Con Try.prog 29 [.agg (volC v)] [] (B (rightV v)) []:=by
 obtain ⟨o1,o2,o3,o4⟩:=ok
 have hS : Con Try.prog 42 [.agg (cmdC ⟨0,v.id,v.blocks,v.size,v.per,v.place,v.total,0,0,[]⟩)] [] (B (shapeV v)) []:=mementoref16_shape_con ⟨0,v.id,v.blocks,v.size,v.per,v.place,v.total,0,0,[]⟩ o1
 have hL : Con Try.prog 23 [.agg (volC v)] [] (I (v.ws.length : Int)) []:=mementoref16_Len_con v
 obtain ⟨n,hn⟩ : ∃ n : Int,n = v.ws.length:=⟨_,rfl⟩
 have hr : rightV v = (shapeV v && inR v.next 0 v.total && (v.hid || decide (v.next = v.total)) && (!v.hid || decide (v.total≠0)) && decide (0≤v.floor) && decide (v.floor≤n) && pinsR n v.floor v.pins && wsR v.blocks v.size 0 v.ws):=by rw [hn];rfl
 rw [← hn] at hL
 generalize shapeV v = sv at hS hr
 refine C_mementoref16_Right (Nat.le_of_ble_eq_true rfl) (Nat.le_of_ble_eq_true rfl) ?_
 simp only [cz,A_mementoref16_Right,argL,objL,List.length_nil,zX]
 refine aw_reg 16 (RG.go fun Q hQ=>?_)
 simp (disch:=intros;contradiction) only [zS,vC_eq,simprocAttr]
 refine hQ (RG.nil ?_)
 simp only [zX]
 refine aw_draw 80 (RG.go fun Q hQ=>?_)
 simp (disch:=intros;contradiction) only [zS,simprocAttr]
 refine hQ ?_
 refine RG.call [] (hS) (by (repeat' (first | exact tr_nil | refine tr_cons ?_ ?_ | exact tr_agg (by repeat' (first | exact trivial | rfl | refine ⟨?_,?_⟩))))) trivial (by (exact .inl trivial)) ?_
 refine RG.go fun Q hQ=>?_
 simp (disch:=intros;contradiction) only [zS,simprocAttr]
 repeat refine ⟨by (first | (simp;done) | (intro h;rw [h];rfl) | (intro h;refine ⟨fun h2=>?_,h⟩;rw [h,h2];rfl)),?_⟩
 refine hQ ?_
 refine RG.callg _ _ [] rfl (fun hg=>⟨_,(hL),by (repeat' (first | exact tr_nil | refine tr_cons ?_ ?_ | exact tr_opt (by simpa using hg) (tr_agg (by repeat' (first | exact trivial | rfl | refine ⟨?_,?_⟩))))),trivial,by (exact .inl trivial)⟩) ?_
 refine RG.go fun Q hQ=>?_
 simp (disch:=intros;contradiction) only [zS,simprocAttr]
 repeat refine ⟨by ((intro h;rw [h];rfl)),?_⟩
 refine hQ (RG.nil ⟨by decide +kernel,?_⟩)
 simp only [zX]
 refine aw_cond _ rfl trivial (fun ht=>?_) (fun hf=>?_)
 ·skip
  try simp at ht
  simp only [zX]
  refine aw_reg 1072 (RG.go fun Q hQ=>?_)
  simp (disch:=intros;contradiction) only [zS,simprocAttr]
  refine hQ (RG.nil ?_)
  simp only [zX]
  refine Fin.b (.inr rfl) rfl trivial ?_
  rw [hr,eq_comm,Bool.eq_false_iff]
  intro h
  simp only [Bool.and_eq_true,inR_iff,decide_eq_true_eq,Bool.or_eq_true,Bool.not_eq_true'] at h
  cases hh : v.hid <;> simp [hh] at h ht <;> (try simp [h] at ht) <;> omega
 try simp at hf
 simp only [zX]
 have hq : rightV v = (pinsR n v.floor v.pins && wsR v.blocks v.size 0 v.ws):=by
  rw [hr]
  have : sv = true∧inR v.next 0 v.total = true∧(v.hid || decide (v.next = v.total)) = true∧(!v.hid || decide (v.total≠0)) = true∧decide (0≤v.floor) = true∧decide (v.floor≤n) = true:=by
   cases hh : v.hid <;> simp [hh] at hf <;> simp [hf,inR] <;> omega
  obtain ⟨q1,q2,q3,q4,q5,q6⟩:=this
  simp only [q1,q2,q3,q4,q5,q6,Bool.true_and]
 obtain ⟨R,hR⟩ : ∃ R,R = pinsR n v.floor v.pins:=⟨_,rfl⟩
 obtain ⟨W,hW⟩ : ∃ W,W = wsR v.blocks v.size 0 v.ws:=⟨_,rfl⟩
 rw [← hR,← hW] at hq
 refine aw_reg 1120 (RG.go fun Q hQ=>?_)
 simp (disch:=intros;contradiction) only [zS,simprocAttr]
 refine hQ (RG.nil ?_)
 simp only [zX]
 refine aw_loopK (X:={ x : Nat × Int // x.1≤v.pins.length∧v.floor≤x.2∧(x.1 = 0→x.2 = v.floor)∧(∀ h : x.1 - 1 < v.pins.length,0 < x.1→v.pins[x.1 - 1] = x.2)∧pinsR n x.2 (v.pins.drop x.1) = R }) [1] (fun x=>[(3,I x.1.1)]) [16] (fun x=>[]) (fun x=>v.pins.length - x.1.1) (⟨(0,v.floor),by simp only;omega,Int.le_refl _,fun _=>rfl,fun _ h=>absurd h (Nat.lt_irrefl 0),hR.symm⟩) ?_ ?_
 ·skip
  simp only [keepS,keepE,Option.getD_some,lk_cons,lkE_cons,List.cons_append,List.nil_append,simprocAttr]
  refine Le.lit [] [] _ _ ?_ ?_ ?_ ?_
  ·simp only [zL,simprocAttr]
  ·simp only [zL,↓reduceIte]
  ·simp [rlook]
  ·first | (simp;done) | (intro k hk;simp [rlook];omega)
 rintro ⟨⟨i,last⟩,hi,hl0,hl1,hl2,hl3⟩
 simp only [keepS,keepE,Option.getD_some,lk_cons,lkE_cons,List.cons_append,List.nil_append,simprocAttr]
 simp only [zX]
 simp only at hi hl0 hl1 hl2 hl3
 refine aw_reg 1168 (RG.go fun Q hQ=>?_)
 simp (disch:=intros;contradiction) only [zS,zW,simprocAttr]
 refine hQ (RG.nil ?_)
 simp only [zX]
 refine aw_cond _ rfl trivial (fun ht=>?_) (fun hf=>?_)
 ·skip
  try simp at ht
  simp only [zX]
  have h1 : i < v.pins.length:=by omega
  rw [drop_get h1] at hl3
  unfold pinsR at hl3
  have ok : ∀ (hh : ¬ (v.pins[i] < v.floor∨n < v.pins[i])) (hh2 : last≤v.pins[i]),pinsR n v.pins[i] (v.pins.drop (i + 1)) = R:=fun hh hh2=>by
   rw [← hl3];simp;omega
  have no : v.pins[i] < last∨n < v.pins[i]→R = false:=fun hh=>by
   rw [← hl3]
   have : decide (last≤v.pins[i]) = false∨decide (v.pins[i]≤n) = false:=by simp;omega
   rcases this with h | h <;> simp [h]
  by_cases hi0 : i = 0
  ·skip
   have hlf:=hl1 hi0
   subst hi0
   refine aw_draw 1280 (RG.go fun Q hQ=>?_)
   simp (disch:=first | (intros;contradiction) | omega | (simp only [zN];omega)) only [zS,zW,nrow,simprocAttr]
   repeat refine ⟨by (first | omega | (simp;omega)),?_⟩
   refine hQ ?_
   refine RG.callg _ _ [] rfl (fun hg=>⟨_,(hL),by (repeat' (first | exact tr_nil | refine tr_cons ?_ ?_ | exact tr_opt (by simpa using hg) (tr_agg (by repeat' (first | exact trivial | rfl | refine ⟨?_,?_⟩))))),trivial,by (exact .inl trivial)⟩) ?_
   refine RG.go fun Q hQ=>?_
   simp (disch:=first | (intros;contradiction) | omega | (simp only [zN];omega)) only [zS,zW,nrow,simprocAttr]
   repeat refine ⟨by ((simp;done)),?_⟩
   refine hQ (RG.nil ⟨by decide +kernel,?_⟩)
   simp only [zX]
   refine aw_cond _ rfl trivial (fun ht=>?_) (fun hf=>?_)
   ·skip
    try simp at ht
    simp only [zX]
    refine aw_reg 1888 (RG.go fun Q hQ=>?_)
    simp (disch:=intros;contradiction) only [zS,simprocAttr]
    refine hQ (RG.nil ?_)
    simp only [zX]
    refine Fin.b (.inr rfl) rfl trivial ?_
    rw [hq,no (by omega)];rfl
   try simp at hf
   simp only [zX]
   refine aw_reg 1936 (RG.go fun Q hQ=>?_)
   simp (disch:=first | (intros;contradiction) | omega | (simp only [zN];omega)) only [zS,zW,simprocAttr]
   refine hQ (RG.nil ?_)
   simp only [zX]
   refine ⟨⟨(1,v.pins[0]),by simp only;omega,by simp only;omega,fun h=>absurd h (by simp),fun _ _=>rfl,ok (by omega) (by omega)⟩,?_,by first | omega | (simp only;omega)⟩
   refine Le.lit [] [] _ _ ?_ ?_ ?_ ?_
   ·simp only [zL,simprocAttr]
   ·simp only [zL,↓reduceIte]
   ·simp [rlook]
   ·first | (simp;done) | (intro k hk;simp [rlook];omega)
  obtain ⟨j,hj⟩ : ∃ j,i = j + 1:=⟨i - 1,by omega⟩
  subst hj
  have hj1 : j < v.pins.length:=by omega
  have e1 : ((j + 1 : Nat) : Int) - 1 = (j : Int):=by omega
  have e2 : v.pins[j] = last:=hl2 hj1 (by omega)
  refine aw_draw 2016 (RG.go fun Q hQ=>?_)
  simp (disch:=first | (intros;contradiction) | omega | (simp only [zN];omega)) only [zS,zW,nrow,simprocAttr]
  repeat refine ⟨by (first | omega | (simp;omega)),?_⟩
  refine hQ ?_
  refine RG.callg _ _ [] rfl (fun hg=>⟨_,(hL),by (repeat' (first | exact tr_nil | refine tr_cons ?_ ?_ | exact tr_opt (by simpa using hg) (tr_agg (by repeat' (first | exact trivial | rfl | refine ⟨?_,?_⟩))))),trivial,by (exact .inl trivial)⟩) ?_
  refine RG.go fun Q hQ=>?_
  simp (disch:=first | (intros;contradiction) | omega | (simp only [zN];omega)) only [zS,zW,nrow,e1,e2,simprocAttr]
  repeat refine ⟨by (first | (simp;omega) | (simp;done)),?_⟩
  refine hQ (RG.nil ⟨by decide +kernel,?_⟩)
  simp only [zX]
  refine aw_cond _ rfl trivial (fun ht=>?_) (fun hf=>?_)
  ·skip
   try simp at ht
   simp only [zX]
   refine aw_reg 2624 (RG.go fun Q hQ=>?_)
   simp (disch:=intros;contradiction) only [zS,simprocAttr]
   refine hQ (RG.nil ?_)
   simp only [zX]
   refine Fin.b (.inr rfl) rfl trivial ?_
   rw [hq,no (by omega)];rfl
  try simp at hf
  simp only [zX]
  refine aw_reg 2672 (RG.go fun Q hQ=>?_)
  simp (disch:=first | (intros;contradiction) | omega | (simp only [zN];omega)) only [zS,zW,simprocAttr]
  refine hQ (RG.nil ?_)
  simp only [zX]
  refine ⟨⟨(j + 2,v.pins[j + 1]),by simp only;omega,by simp only;omega,fun h=>absurd h (by simp),fun _ _=>rfl,ok (by omega) (by omega)⟩,?_,by first | omega | (simp only;omega)⟩
  refine Le.lit [] [] _ _ ?_ ?_ ?_ ?_
  ·simp only [zL,simprocAttr]
   all_goals (try ((repeat' (rfl))))
  ·simp only [zL,↓reduceIte]
  ·simp [rlook]
  ·first | (simp;done) | (intro k hk;simp [rlook];omega)
 try simp at hf
 simp only [zX,↓reduceIte]
 obtain rfl : i = v.pins.length:=by omega
 have hRt : R = true:=by rw [← hl3,List.drop_length];rfl
 rw [hRt,Bool.true_and] at hq
 refine aw_reg 2752 (RG.go fun Q hQ=>?_)
 simp (disch:=intros;contradiction) only [zS,simprocAttr]
 refine hQ (RG.nil ?_)
 simp only [zX]
 refine aw_loopK (X:={ i : Nat // i≤v.ws.length∧wsR v.blocks v.size i (v.ws.drop i) = W }) [1] (fun i=>[(4,I i.1)]) [16] (fun i=>[]) (fun i=>v.ws.length - i.1) (⟨0,by omega,hW.symm⟩) ?_ ?_
 ·skip
  simp only [keepS,keepE,Option.getD_some,lk_cons,lkE_cons,List.cons_append,List.nil_append,simprocAttr]
  refine Le.lit [] [] _ _ ?_ ?_ ?_ ?_
  ·simp only [zL,simprocAttr]
  ·simp only [zL,↓reduceIte]
  ·simp [rlook]
  ·first | (simp;done) | (intro k hk;simp [rlook];omega)
 rintro ⟨i,hi,hw⟩
 simp only [keepS,keepE,Option.getD_some,lk_cons,lkE_cons,List.cons_append,List.nil_append,simprocAttr]
 simp only [zX]
 refine aw_reg 2800 (RG.go fun Q hQ=>?_)
 simp (disch:=intros;contradiction) only [zS,zW,simprocAttr]
 refine hQ (RG.nil ?_)
 simp only [zX]
 refine aw_cond _ rfl trivial (fun ht=>?_) (fun hf=>?_)
 ·skip
  try simp at ht
  simp only [zX]
  have h1 : i < v.ws.length:=by omega
  rw [drop_get h1] at hw
  unfold wsR at hw
  have h2:=o4 _ (List.getElem_mem h1)
  refine aw_draw 2912 (RG.go fun Q hQ=>?_)
  simp (disch:=first | (intros;contradiction) | omega | (simp only [zN];omega)) only [zS,zW,wrow,wrC,simprocAttr]
  repeat refine ⟨by (first | omega | (simp;omega)),?_⟩
  refine hQ ?_
  refine RG.callg _ _ [] rfl (fun hg=>⟨_,(mementoref13_ItemsRight_con v.blocks v.size v.ws[i].its h2.1 h2.2),by (repeat' (first | exact tr_nil | refine tr_cons ?_ ?_ | exact tr_opt (by simpa using hg) tr_v | exact tr_opt (by simpa using hg) tr_sl)),trivial,by (exact .inl trivial)⟩) ?_
  refine RG.go fun Q hQ=>?_
  simp (disch:=intros;contradiction) only [zS,simprocAttr]
  repeat refine ⟨by ((simp;done)),?_⟩
  refine hQ (RG.nil ⟨by decide +kernel,?_⟩)
  simp only [zX]
  refine aw_cond _ rfl trivial (fun ht=>?_) (fun hf=>?_)
  ·skip
   try simp at ht
   simp only [zX]
   refine aw_reg 3312 (RG.go fun Q hQ=>?_)
   simp (disch:=intros;contradiction) only [zS,simprocAttr]
   refine hQ (RG.nil ?_)
   simp only [zX]
   refine Fin.b (.inr rfl) rfl trivial ?_
   rw [hq,← hw]
   rcases ht with h | h
   ·have : decide (v.ws[i].s = (i : Int) + 1) = false:=by simpa using h
    simp [this]
   ·simp [h]
  try simp at hf
  simp only [zX]
  refine aw_reg 3360 (RG.go fun Q hQ=>?_)
  simp (disch:=first | (intros;contradiction) | omega | (simp only [zN];omega)) only [zS,zW,simprocAttr]
  refine hQ (RG.nil ?_)
  simp only [zX]
  refine ⟨⟨i + 1,h1,by rw [← hw];simp [hf]⟩,?_,by first | omega | (simp only;omega)⟩
  refine Le.lit [] [] _ _ ?_ ?_ ?_ ?_
  ·simp only [zL,simprocAttr]
   all_goals (try ((repeat' (rfl))))
  ·simp only [zL,↓reduceIte]
  ·simp [rlook]
  ·first | (simp;done) | (intro k hk;simp [rlook];omega)
 try simp at hf
 simp only [zX,↓reduceIte]
 refine aw_reg 3440 (RG.go fun Q hQ=>?_)
 simp (disch:=intros;contradiction) only [zS,simprocAttr]
 refine hQ (RG.nil ?_)
 simp only [zX]
 refine Fin.b (.inr rfl) rfl trivial ?_
 rw [hq,← hw,List.drop_of_length_le (by omega)];rfl

def smallV (v : VOL) : Bool:=decide (v.blocks≤40) && decide (v.size≤32) && decide (v.place.length≤40) && decide (v.pins.length≤20) && decide (v.ws.length≤30) && v.ws.all fun w=>smallI w.its
theorem Small_con (v : VOL) : Con Try.prog 26 [.agg (volC v)] [] (B (smallV v)) []:=by
 refine C_mementoseat_Small (Nat.le_of_ble_eq_true rfl) (Nat.le_of_ble_eq_true rfl) ?_
 simp only [cz,A_mementoseat_Small,argL,objL,List.length_nil,zX]
 refine aw_reg 16 (RG.go fun Q hQ=>?_)
 simp (disch:=intros;contradiction) only [zS,vC_eq,simprocAttr]
 refine hQ (RG.nil ?_)
 simp only [zX]
 refine aw_reg 80 (RG.go fun Q hQ=>?_)
 simp (disch:=intros;contradiction) only [zS,zW,simprocAttr]
 repeat refine ⟨by ((simp;done)),?_⟩
 refine hQ (RG.nil ?_)
 simp only [zX]
 refine aw_cond _ rfl trivial (fun ht=>?_) (fun hf=>?_)
 ·skip
  try simp at ht
  simp only [zX]
  refine aw_reg 528 (RG.go fun Q hQ=>?_)
  simp (disch:=intros;contradiction) only [zS,simprocAttr]
  refine hQ (RG.nil ?_)
  simp only [zX]
  refine Fin.b (.inr rfl) rfl trivial ?_
  rw [eq_comm,Bool.eq_false_iff];intro h
  simp [smallV] at h
  omega
 try simp at hf
 simp only [zX]
 have hq : smallV v = v.ws.all fun w=>smallI w.its:=by
  have : v.blocks≤40∧v.size≤32∧v.place.length≤40∧v.pins.length≤20∧v.ws.length≤30:=by omega
  simp [smallV,this]
 rw [hq]
 refine aw_reg 576 (RG.go fun Q hQ=>?_)
 simp (disch:=intros;contradiction) only [zS,simprocAttr]
 refine hQ (RG.nil ?_)
 simp only [zX]
 refine aw_loopK (X:={ i : Nat // i≤v.ws.length∧(v.ws.take i).all (fun w=>smallI w.its) = true }) [1] (fun i=>[(3,I i.1)]) [16] (fun i=>[]) (fun i=>v.ws.length - i.1) (⟨0,by omega,rfl⟩) ?_ ?_
 ·skip
  simp only [keepS,keepE,Option.getD_some,lk_cons,lkE_cons,List.cons_append,List.nil_append,simprocAttr]
  refine Le.lit [] [] _ _ ?_ ?_ ?_ ?_
  ·simp only [zL,simprocAttr]
  ·simp only [zL,↓reduceIte]
  ·simp [rlook]
  ·first | (simp;done) | (intro k hk;simp [rlook];omega)
 rintro ⟨i,hi,ha⟩
 simp only [keepS,keepE,Option.getD_some,lk_cons,lkE_cons,List.cons_append,List.nil_append,simprocAttr]
 simp only [zX]
 refine aw_reg 624 (RG.go fun Q hQ=>?_)
 simp (disch:=intros;contradiction) only [zS,zW,simprocAttr]
 refine hQ (RG.nil ?_)
 simp only [zX]
 refine aw_cond _ rfl trivial (fun ht=>?_) (fun hf=>?_)
 ·skip
  try simp at ht
  simp only [zX]
  have h1 : i < v.ws.length:=by omega
  refine aw_reg 736 (RG.go fun Q hQ=>?_)
  simp (disch:=first | (intros;contradiction) | omega | (simp only [zN];omega)) only [zS,zW,wrow,wrC,simprocAttr]
  repeat refine ⟨by (omega),?_⟩
  refine hQ ?_
  refine RG.call [] (SmallItems_con v.ws[i].its) (by (repeat' (first | exact tr_nil | refine tr_cons ?_ ?_ | exact tr_sl))) trivial (by (exact .inl trivial)) ?_
  refine RG.go fun Q hQ=>?_
  simp (disch:=intros;contradiction) only [zS,simprocAttr]
  refine hQ (RG.nil ?_)
  simp only [zX]
  refine aw_cond _ rfl trivial (fun ht=>?_) (fun hf=>?_)
  ·skip
   try simp at ht
   simp only [zX]
   refine aw_reg 896 (RG.go fun Q hQ=>?_)
   simp (disch:=intros;contradiction) only [zS,simprocAttr]
   refine hQ (RG.nil ?_)
   simp only [zX]
   refine Fin.b (.inr rfl) rfl trivial ?_
   rw [all_no h1 ht]
  try simp at hf
  simp only [zX]
  refine aw_reg 944 (RG.go fun Q hQ=>?_)
  simp (disch:=first | (intros;contradiction) | omega | (simp only [zN];omega)) only [zS,zW,simprocAttr]
  refine hQ (RG.nil ?_)
  simp only [zX]
  refine ⟨⟨i + 1,h1,by rw [all_succ h1,ha,Bool.true_and];exact hf⟩,?_,by first | omega | (simp only;omega)⟩
  refine Le.lit [] [] _ _ ?_ ?_ ?_ ?_
  ·simp only [zL,simprocAttr]
   all_goals (try ((repeat' (rfl))))
  ·simp only [zL,↓reduceIte]
  ·simp [rlook]
  ·first | (simp;done) | (intro k hk;simp [rlook];omega)
 try simp at hf
 simp only [zX,↓reduceIte]
 refine aw_reg 1024 (RG.go fun Q hQ=>?_)
 simp (disch:=intros;contradiction) only [zS,simprocAttr]
 refine hQ (RG.nil ?_)
 simp only [zX]
 refine Fin.b (.inr rfl) rfl trivial ?_
 rw [all_yes (by omega) ha]

end Go.Abs

namespace Go.Abs
open Go Go.Proofs
set_option maxRecDepth 100000
set_option linter.unusedSimpArgs false
set_option maxHeartbeats 8000000

theorem VolumeRights_con (raw : VOL) (l : List Nat) (what : Nat) (n : Int) (items : List IT) (h8 : ∀ c ∈ l,c < 256) (hw : what < 256) :
  Con Try.prog 4 [.agg (volC raw),.c (.sl (l.map brow)),.c (.v (.int .u8 what)),I n,.c (.sl (items.map irow))] [] (B true) []:=by
 have cSm:=Small_con raw
 have cSi:=SmallItems_con items
 obtain ⟨k,hk⟩ : ∃ k,k = what % 10:=⟨_,rfl⟩
 have e1 : (what : Int) % 10 = (k : Int):=by omega
 refine C_mementolaw16_VolumeRights (Nat.le_of_ble_eq_true rfl) (Nat.le_of_ble_eq_true rfl) ?_
 simp only [cz,A_mementolaw16_VolumeRights,argL,objL,List.length_nil,Nat.zero_add,zX,simprocAttr]
 refine aw_reg 16 (RG.go fun Q hQ=>?_)
 simp (disch:=intros;contradiction) only [zS,vC_eq,simprocAttr]
 refine hQ (RG.nil ?_)
 simp only [zX]
 refine aw_reg 80 (RG.go fun Q hQ=>?_)
 simp (disch:=intros;contradiction) only [zS,↓reduceIte]
 refine hQ ?_
 refine RG.call [] (mementolaw16_known_con) (by (repeat' (exact tr_nil))) trivial (by (exact .inl trivial)) ?_
 refine RG.go fun Q hQ=>?_
 simp (disch:=intros;contradiction) only [zS,simprocAttr]
 refine hQ (RG.nil ?_)
 simp only [zX]
 refine aw_cond _ rfl trivial (fun ht=>by cases ht) (fun hf=>?_)
 simp only [zX]
 refine aw_reg 144 (RG.go fun Q hQ=>?_)
 simp (disch:=intros;contradiction) only [zS,simprocAttr]
 refine hQ ?_
 refine RG.call [] (cSm) (by (repeat' (first | exact tr_nil | refine tr_cons ?_ ?_ | exact tr_agg (by repeat' (first | exact trivial | rfl | refine ⟨?_,?_⟩))))) trivial (by (exact .inl trivial)) ?_
 refine RG.go fun Q hQ=>?_
 simp (disch:=intros;contradiction) only [zS,zW,simprocAttr]
 repeat refine ⟨by ((simp;done)),?_⟩
 refine hQ ?_
 refine RG.callg _ _ [] rfl (fun hg=>⟨_,(cSi),by (repeat' (first | exact tr_nil | refine tr_cons ?_ ?_ | exact tr_opt (by simpa using hg) tr_sl)),trivial,by (exact .inl trivial)⟩) ?_
 refine RG.go fun Q hQ=>?_
 simp (disch:=intros;contradiction) only [zS,simprocAttr]
 repeat refine ⟨by ((simp;done)),?_⟩
 refine hQ (RG.nil ?_)
 simp only [zX]
 refine aw_cond _ rfl trivial (fun ht=>?_) (fun hf=>?_)
 ·skip
  try simp at ht
  simp only [zX]
  refine aw_reg 384 (RG.go fun Q hQ=>?_)
  simp (disch:=intros;contradiction) only [zS,simprocAttr]
  refine hQ (RG.nil ?_)
  simp only [zX]
  refine Fin.b (.inr rfl) rfl trivial ?_
  rfl
 try simp at hf
 simp only [zX]
 have hl : l.length≤60:=by omega
 have hsi : smallI items = true:=by simpa using hf.2
 have hsr : smallV raw = true:=by simpa using hf.1.1
 have hit : items.length≤12∧∀ x ∈ items,x.d.length≤40:=by
  simp only [smallI,Bool.and_eq_true,decide_eq_true_eq] at hsi
  exact ⟨hsi.1,fun x hx=>by have:=List.all_eq_true.1 hsi.2 x hx;simpa using this⟩
 have hraw : Vok raw:=by
  simp only [smallV,Bool.and_eq_true,decide_eq_true_eq] at hsr
  refine ⟨by omega,by omega,by omega,fun w hw=>?_⟩
  have h:=List.all_eq_true.1 hsr.2 w hw
  simp only [smallI,Bool.and_eq_true,decide_eq_true_eq] at h
  exact ⟨by omega,fun x hx=>by have:=List.all_eq_true.1 h.2 x hx;simp at this;omega⟩
 have cV:=Volume_con l h8 (by omega)
 have hv:=((seatV_good l).mono (show l.length / 4≤15 by omega)).ok (by omega)
 have hvl:=(seatV_good l).mono (show l.length / 4≤15 by omega)
 have hvp:=(shape_lims (rightV_iff.1 hvl.right).1).2.2.2.2.2.2
 have hvw:=hvl.ws
 have hvn:=hvl.pins
 generalize seatV l = v at cV hv hvl hvp hvw hvn
 obtain ⟨o1,o2,o3,o4⟩:=hv
 refine aw_reg 432 (RG.go fun Q hQ=>?_)
 simp (disch:=intros;contradiction) only [zS,simprocAttr]
 refine hQ ?_
 refine RG.call [] (cV) (by (repeat' (first | exact tr_nil | refine tr_cons ?_ ?_ | exact tr_sl))) trivial (by exact .inr ⟨volC_pure _,trivial⟩) ?_
 refine RG.go fun Q hQ=>?_
 simp (disch:=intros;contradiction) only [zS,vC_eq,simprocAttr]
 have m4 : v.place.map nrow ++ [[.v (.int .i64 1)]] = (v.place ++ [1]).map nrow:=by rw [List.map_append];rfl
 have m8 : ∀ z : Int,v.pins.map nrow ++ [[.v (.int .i64 z)]] = (v.pins ++ [z]).map nrow:=fun z=>by rw [List.map_append];rfl
 have m9 : ∀ z : Int,v.ws.map wrow ++ [[.v (.int .i64 z),.sl (items.map irow)]] = (v.ws ++ [(⟨z,items⟩ : WR)]).map wrow:=fun z=>by rw [List.map_append];rfl
 have hws : ∀ z : Int,Vok { v with ws:=v.ws ++ [⟨z,items⟩] }:=fun z=>⟨o1,o2,by simp only [List.length_append,List.length_singleton];omega,fun w hw=>by
  rcases List.mem_append.1 hw with hw | hw
  ·exact o4 w hw
  ·simp only [List.mem_singleton] at hw;subst hw;exact ⟨by simp only;omega,fun x hx=>by have:=hit.2 x hx;omega⟩⟩
 refine hQ (RG.nil ?_)
 simp only [zY]
 refine aw_joinS (Y:={ y : VOL // Vok y }) [3,4,5,11] (fun y=>[]) [16] (fun y=>[(464,.box (volC y.1))]) (by (repeat' (exact cl_fin))) ?_ ?_
 ·skip
  simp only [zX]
  refine aw_reg 528 (RG.go fun Q hQ=>?_)
  simp (disch:=first | (intros;contradiction) | omega | (simp only [zN];omega)) only [zS,zW,e1,simprocAttr]
  repeat refine ⟨by (omega),?_⟩
  refine hQ (RG.nil ?_)
  simp only [zX]
  refine aw_reg 592 (RG.go fun Q hQ=>?_)
  simp (disch:=intros;contradiction) only [zS,simprocAttr]
  refine hQ (RG.nil ?_)
  simp only [zX]
  refine aw_cond _ rfl trivial (fun ht=>?_) (fun hf=>?_)
  ·skip
   try simp at ht
   refine aw_reg 656 (RG.go fun Q hQ=>?_)
   simp (disch:=intros;contradiction) only [zS,simprocAttr]
   refine hQ (RG.nil ?_)
   simp only [zX]
   refine ⟨⟨{ v with id:=n },⟨o1,o2,o3,o4⟩⟩,?_⟩
   simp only [keepS,keepE,Option.getD_some,lk_cons,lkE_cons,List.cons_append,List.nil_append,simprocAttr]
   refine Le.lit [] [] _ _ ?_ ?_ ?_ ?_
   ·simp only [zL,simprocAttr]
   ·simp only [zL,simprocAttr]
    all_goals (trivial;skip)
   ·simp [rlook]
   ·first | (simp;done) | (intro k hk;simp [rlook];omega)
  try simp at hf
  simp only [zX]
  refine aw_reg 736 (RG.go fun Q hQ=>?_)
  simp (disch:=intros;contradiction) only [zS,simprocAttr]
  refine hQ (RG.nil ?_)
  simp only [zX]
  refine aw_cond _ rfl trivial (fun ht=>?_) (fun hf=>?_)
  ·skip
   try simp at ht
   refine aw_reg 800 (RG.go fun Q hQ=>?_)
   simp (disch:=intros;contradiction) only [zS,simprocAttr]
   refine hQ (RG.nil ?_)
   simp only [zX]
   refine ⟨⟨{ v with blocks:=bitsI .and .i64 n 511 },⟨o1,o2,o3,o4⟩⟩,?_⟩
   simp only [keepS,keepE,Option.getD_some,lk_cons,lkE_cons,List.cons_append,List.nil_append,simprocAttr]
   refine Le.lit [] [] _ _ ?_ ?_ ?_ ?_
   ·simp only [zL,simprocAttr]
   ·simp only [zL,simprocAttr]
    all_goals (trivial;skip)
   ·simp [rlook]
   ·first | (simp;done) | (intro k hk;simp [rlook];omega)
  try simp at hf
  simp only [zX]
  refine aw_reg 896 (RG.go fun Q hQ=>?_)
  simp (disch:=intros;contradiction) only [zS,simprocAttr]
  refine hQ (RG.nil ?_)
  simp only [zX]
  refine aw_cond _ rfl trivial (fun ht=>?_) (fun hf=>?_)
  ·skip
   try simp at ht
   refine aw_reg 960 (RG.go fun Q hQ=>?_)
   simp (disch:=intros;contradiction) only [zS,simprocAttr]
   refine hQ (RG.nil ?_)
   simp only [zX]
   refine ⟨⟨{ v with size:=bitsI .and .i64 n 63 },⟨o1,o2,o3,o4⟩⟩,?_⟩
   simp only [keepS,keepE,Option.getD_some,lk_cons,lkE_cons,List.cons_append,List.nil_append,simprocAttr]
   refine Le.lit [] [] _ _ ?_ ?_ ?_ ?_
   ·simp only [zL,simprocAttr]
   ·simp only [zL,simprocAttr]
    all_goals (trivial;skip)
   ·simp [rlook]
   ·first | (simp;done) | (intro k hk;simp [rlook];omega)
  try simp at hf
  simp only [zX]
  refine aw_reg 1056 (RG.go fun Q hQ=>?_)
  simp (disch:=intros;contradiction) only [zS,simprocAttr]
  refine hQ (RG.nil ?_)
  simp only [zX]
  refine aw_cond _ rfl trivial (fun ht=>?_) (fun hf=>?_)
  ·skip
   try simp at ht
   refine aw_reg 1120 (RG.go fun Q hQ=>?_)
   simp (disch:=intros;contradiction) only [zS,simprocAttr]
   refine hQ (RG.nil ?_)
   simp only [zX]
   refine ⟨⟨{ v with per:=bitsI .and .i64 n 15 },⟨o1,o2,o3,o4⟩⟩,?_⟩
   simp only [keepS,keepE,Option.getD_some,lk_cons,lkE_cons,List.cons_append,List.nil_append,simprocAttr]
   refine Le.lit [] [] _ _ ?_ ?_ ?_ ?_
   ·simp only [zL,simprocAttr]
   ·simp only [zL,simprocAttr]
    all_goals (trivial;skip)
   ·simp [rlook]
   ·first | (simp;done) | (intro k hk;simp [rlook];omega)
  try simp at hf
  simp only [zX]
  refine aw_reg 1216 (RG.go fun Q hQ=>?_)
  simp (disch:=intros;contradiction) only [zS,simprocAttr]
  refine hQ (RG.nil ?_)
  simp only [zX]
  refine aw_cond _ rfl trivial (fun ht=>?_) (fun hf=>?_)
  ·skip
   try simp at ht
   refine aw_reg 1280 (RG.go fun Q hQ=>?_)
   simp (disch:=intros;contradiction) only [zS,zW,m4,simprocAttr]
   repeat refine ⟨by (first | exact ⟨by (intro q hq;obtain ⟨_,_,rfl⟩:=List.mem_map.1 hq;rfl),by omega⟩ | (simp;omega)),?_⟩
   refine hQ (RG.nil ?_)
   simp only [zX]
   refine ⟨⟨{ v with place:=v.place ++ [1] },⟨by simp only [List.length_append,List.length_singleton];omega,o2,o3,o4⟩⟩,?_⟩
   simp only [keepS,keepE,Option.getD_some,lk_cons,lkE_cons,List.cons_append,List.nil_append,simprocAttr]
   refine Le.lit [1344] [] _ _ ?_ ?_ ?_ ?_
   ·simp only [zL,simprocAttr]
   ·simp only [zL,simprocAttr]
    all_goals ((repeat' (first | exact trivial | rfl | (refine ⟨⟨_,_,rfl⟩,?_⟩;(exact drows_nrow _)) | refine ⟨?_,?_⟩));skip)
   ·simp [rlook]
   ·first | (simp;done) | (intro k hk;simp [rlook];omega)
  try simp at hf
  simp only [zX]
  refine aw_reg 1424 (RG.go fun Q hQ=>?_)
  simp (disch:=intros;contradiction) only [zS,simprocAttr]
  refine hQ (RG.nil ?_)
  simp only [zX]
  refine aw_cond _ rfl trivial (fun ht=>?_) (fun hf=>?_)
  ·skip
   try simp at ht
   refine aw_reg 1488 (RG.go fun Q hQ=>?_)
   simp (disch:=intros;contradiction) only [zS,simprocAttr]
   refine hQ (RG.nil ?_)
   simp only [zX]
   refine ⟨⟨{ v with next:=bitsI .and .i64 n 7 },⟨o1,o2,o3,o4⟩⟩,?_⟩
   simp only [keepS,keepE,Option.getD_some,lk_cons,lkE_cons,List.cons_append,List.nil_append,simprocAttr]
   refine Le.lit [] [] _ _ ?_ ?_ ?_ ?_
   ·simp only [zL,simprocAttr]
   ·simp only [zL,simprocAttr]
    all_goals (trivial;skip)
   ·simp [rlook]
   ·first | (simp;done) | (intro k hk;simp [rlook];omega)
  try simp at hf
  simp only [zX]
  refine aw_reg 1584 (RG.go fun Q hQ=>?_)
  simp (disch:=intros;contradiction) only [zS,simprocAttr]
  refine hQ (RG.nil ?_)
  simp only [zX]
  refine aw_cond _ rfl trivial (fun ht=>?_) (fun hf=>?_)
  ·skip
   try simp at ht
   refine aw_reg 1648 (RG.go fun Q hQ=>?_)
   simp (disch:=intros;contradiction) only [zS,simprocAttr]
   refine hQ (RG.nil ?_)
   simp only [zX]
   refine ⟨⟨{ v with hid:=!v.hid },⟨o1,o2,o3,o4⟩⟩,?_⟩
   simp only [keepS,keepE,Option.getD_some,lk_cons,lkE_cons,List.cons_append,List.nil_append,simprocAttr]
   refine Le.lit [] [] _ _ ?_ ?_ ?_ ?_
   ·simp only [zL,simprocAttr]
   ·simp only [zL,simprocAttr]
    all_goals (trivial;skip)
   ·simp [rlook]
   ·first | (simp;done) | (intro k hk;simp [rlook];omega)
  try simp at hf
  simp only [zX]
  refine aw_reg 1760 (RG.go fun Q hQ=>?_)
  simp (disch:=intros;contradiction) only [zS,simprocAttr]
  refine hQ (RG.nil ?_)
  simp only [zX]
  refine aw_cond _ rfl trivial (fun ht=>?_) (fun hf=>?_)
  ·skip
   try simp at ht
   refine aw_reg 1824 (RG.go fun Q hQ=>?_)
   simp (disch:=intros;contradiction) only [zS,simprocAttr]
   refine hQ (RG.nil ?_)
   simp only [zX]
   refine ⟨⟨{ v with floor:=n },⟨o1,o2,o3,o4⟩⟩,?_⟩
   simp only [keepS,keepE,Option.getD_some,lk_cons,lkE_cons,List.cons_append,List.nil_append,simprocAttr]
   refine Le.lit [] [] _ _ ?_ ?_ ?_ ?_
   ·simp only [zL,simprocAttr]
   ·simp only [zL,simprocAttr]
    all_goals (trivial;skip)
   ·simp [rlook]
   ·first | (simp;done) | (intro k hk;simp [rlook];omega)
  try simp at hf
  simp only [zX]
  refine aw_reg 1904 (RG.go fun Q hQ=>?_)
  simp (disch:=intros;contradiction) only [zS,simprocAttr]
  refine hQ (RG.nil ?_)
  simp only [zX]
  refine aw_cond _ rfl trivial (fun ht=>?_) (fun hf=>?_)
  ·skip
   try simp at ht
   refine aw_reg 1968 (RG.go fun Q hQ=>?_)
   simp (disch:=intros;contradiction) only [zS,zW,m8,simprocAttr]
   repeat refine ⟨by (first | exact ⟨by (intro q hq;obtain ⟨_,_,rfl⟩:=List.mem_map.1 hq;rfl),by omega⟩ | (simp;omega)),?_⟩
   refine hQ (RG.nil ?_)
   simp only [zX]
   refine ⟨⟨{ v with pins:=v.pins ++ [bitsI .and .i64 n 15] },⟨o1,by simp only [List.length_append,List.length_singleton];omega,o3,o4⟩⟩,?_⟩
   simp only [keepS,keepE,Option.getD_some,lk_cons,lkE_cons,List.cons_append,List.nil_append,simprocAttr]
   refine Le.lit [2064] [] _ _ ?_ ?_ ?_ ?_
   ·simp only [zL,simprocAttr]
   ·simp only [zL,simprocAttr]
    all_goals ((repeat' (first | exact trivial | rfl | (refine ⟨⟨_,_,rfl⟩,?_⟩;(exact drows_nrow _)) | refine ⟨?_,?_⟩));skip)
   ·simp [rlook]
   ·first | (simp;done) | (intro k hk;simp [rlook];omega)
  try simp at hf
  refine aw_reg 2144 (RG.go fun Q hQ=>?_)
  simp (disch:=intros;contradiction) only [zS,zW,m9,simprocAttr]
  repeat refine ⟨by (first | exact ⟨by (intro q hq;obtain ⟨_,_,rfl⟩:=List.mem_map.1 hq;rfl),by omega⟩ | (simp;omega)),?_⟩
  refine hQ (RG.nil ?_)
  simp only [zX]
  refine ⟨⟨{ v with ws:=v.ws ++ [⟨bitsI .and .i64 n 15,items⟩] },hws _⟩,?_⟩
  simp only [keepS,keepE,Option.getD_some,lk_cons,lkE_cons,List.cons_append,List.nil_append,simprocAttr]
  refine Le.lit [2272] [] _ _ ?_ ?_ ?_ ?_
  ·simp only [zL,simprocAttr]
  ·simp only [zL,simprocAttr]
   all_goals ((repeat' (first | exact trivial | rfl | (refine ⟨⟨_,_,rfl⟩,?_⟩;(exact drows_wrow _)) | refine ⟨?_,?_⟩));skip)
  ·simp [rlook]
  ·first | (simp;done) | (intro k hk;simp [rlook];omega)
 rintro ⟨y,hy⟩
 simp only [keepS,keepE,Option.getD_some,lk_cons,lkE_cons,List.cons_append,List.nil_append,simprocAttr]
 simp only [zX]
 have c1:=volume_Right_con y hy
 have c2:=mementoref16_Right_con y hy
 have c3:=volume_Right_con raw hraw
 have c4:=mementoref16_Right_con raw hraw
 have il : items.length≤1000000:=by omega
 have id' : ∀ x ∈ items,x.d.length≤1000000:=fun x hx=>by have:=hit.2 x hx;omega
 refine aw_draw 2352 (RG.go fun Q hQ=>?_)
 simp (disch:=intros;contradiction) only [zS,vC_eq,simprocAttr]
 refine hQ ?_
 refine RG.call [] (c1) (by (repeat' (first | exact tr_nil | refine tr_cons ?_ ?_ | exact tr_agg (by repeat' (first | exact trivial | rfl | refine ⟨?_,?_⟩))))) trivial (by (exact .inl trivial)) ?_
 refine RG.go fun Q hQ=>?_
 simp (disch:=intros;contradiction) only [zS,simprocAttr]
 refine hQ ?_
 refine RG.call [] (c2) (by (repeat' (first | exact tr_nil | refine tr_cons ?_ ?_ | exact tr_agg (by repeat' (first | exact trivial | rfl | refine ⟨?_,?_⟩))))) trivial (by (exact .inl trivial)) ?_
 refine RG.go fun Q hQ=>?_
 simp (disch:=intros;contradiction) only [zS,simprocAttr]
 refine hQ ?_
 refine RG.callg _ _ [] rfl (fun hg=>⟨_,(c3),by (repeat' (first | exact tr_nil | refine tr_cons ?_ ?_ | exact tr_opt (by simpa using hg) (tr_agg (by repeat' (first | exact trivial | rfl | refine ⟨?_,?_⟩))))),trivial,by (exact .inl trivial)⟩) ?_
 refine RG.go fun Q hQ=>?_
 simp (disch:=intros;contradiction) only [zS,simprocAttr]
 refine hQ ?_
 refine RG.callg _ _ [] rfl (fun hg=>⟨_,(c4),by (repeat' (first | exact tr_nil | refine tr_cons ?_ ?_ | exact tr_opt (by simpa using hg) (tr_agg (by repeat' (first | exact trivial | rfl | refine ⟨?_,?_⟩))))),trivial,by (exact .inl trivial)⟩) ?_
 refine RG.go fun Q hQ=>?_
 simp (disch:=intros;contradiction) only [zS,simprocAttr]
 refine hQ ?_
 refine RG.callg _ _ [] rfl (fun hg=>⟨_,(volume_ItemsRight_con _ _ items il id'),by (repeat' (first | exact tr_nil | refine tr_cons ?_ ?_ | exact tr_opt (by simpa using hg) tr_v | exact tr_opt (by simpa using hg) tr_sl)),trivial,by (exact .inl trivial)⟩) ?_
 refine RG.go fun Q hQ=>?_
 simp (disch:=intros;contradiction) only [zS,simprocAttr]
 refine hQ ?_
 refine RG.callg _ _ [] rfl (fun hg=>⟨_,(mementoref13_ItemsRight_con _ _ items il id'),by (repeat' (first | exact tr_nil | refine tr_cons ?_ ?_ | exact tr_opt (by simpa using hg) tr_v | exact tr_opt (by simpa using hg) tr_sl)),trivial,by (exact .inl trivial)⟩) ?_
 refine RG.go fun Q hQ=>?_
 simp (disch:=intros;contradiction) only [zS,simprocAttr]
 refine hQ ?_
 refine RG.callg _ _ [] rfl (fun hg=>⟨_,(volume_ItemsRight_con _ _ items il id'),by (repeat' (first | exact tr_nil | refine tr_cons ?_ ?_ | exact tr_opt (by simpa using hg) tr_v | exact tr_opt (by simpa using hg) tr_sl)),trivial,by (exact .inl trivial)⟩) ?_
 refine RG.go fun Q hQ=>?_
 simp (disch:=intros;contradiction) only [zS,simprocAttr]
 refine hQ ?_
 refine RG.callg _ _ [] rfl (fun hg=>⟨_,(mementoref13_ItemsRight_con _ _ items il id'),by (repeat' (first | exact tr_nil | refine tr_cons ?_ ?_ | exact tr_opt (by simpa using hg) tr_v | exact tr_opt (by simpa using hg) tr_sl)),trivial,by (exact .inl trivial)⟩) ?_
 refine RG.go fun Q hQ=>?_
 simp (disch:=intros;contradiction) only [zS,simprocAttr]
 refine hQ (RG.nil ⟨by decide +kernel,?_⟩)
 simp only [zX]
 refine Fin.b (.inr rfl) rfl trivial ?_
 simp

theorem VolumeRights_law (raw : VOL) (l : List Nat) (hl : (∀ c ∈ l,c < 256)∧l.length≤9223372036854775807) (what : Nat) (hw : what < 256) (n : Int) (items : List IT) :
  Con Try.prog 4 [.agg (volC raw),.c (.sl (l.map brow)),.c (.v (.int .u8 what)),I n,.c (.sl (items.map irow))] [] (B true) []:=VolumeRights_con raw l what n items hl.1 hw

end Go.Abs

