/- What the functions that the law comes to do, part 2. No condition. -/
import Derived.Test.YtpmnjikihmpobaaCona
set_option linter.unusedVariables false
set_option linter.unusedSimpArgs false
set_option linter.unnecessarySimpa false
namespace Go.Abs
open Go Go.Proofs
set_option maxRecDepth 100000
set_option linter.unusedSimpArgs false
set_option maxHeartbeats 4000000

theorem appM_good {L : List VOL} {d : List Nat} {n : Nat} (hg : ∀ v ∈ L,Vgood v n) (h8 : ∀ c ∈ d,c < 256) : (∀ v ∈ (appM L d).1,Vgood v (n + 1))∧(appM L d).1.length≤L.length + 1:=by
 have hm : ∀ v ∈ L,Vgood v (n + 1):=fun v hv=>(hg v hv).mono (Nat.le_succ n)
 have hR:=fun c h=>readC_ok (d:=d) (c:=c) (n:=d.length) ⟨h8,Nat.le_refl _⟩ h
 unfold appM
 generalize readC d = q at hR
 obtain ⟨c,e⟩:=q
 simp only
 split
 ·exact ⟨hm,Nat.le_succ _⟩
 rename_i he
 obtain rfl : e = 0:=by omega
 obtain ⟨k1,k2,k3,k4,k5⟩:=hR c rfl
 split
 ·split
  ·exact ⟨hm,Nat.le_succ _⟩
  split
  ·exact ⟨hm,Nat.le_succ _⟩
  ·rename_i h
   have hs : shapeV (newV c) = true:=by
    unfold newR at h
    split at h
    ·assumption
    ·exact absurd (by decide) h
   have h4 : newR c = (newV c,0):=new_of hs
   rw [h4]
   simp only
   refine ⟨fun v hv=>?_,?_⟩
   ·unfold insM at hv
    rcases List.mem_append.1 hv with hv | hv
    ·exact hm v ((List.takeWhile_prefix _).subset hv)
    ·rcases List.mem_cons.1 hv with rfl | hv
     ·exact (Vgood.new hs).mono (Nat.zero_le _)
     ·exact hm v ((List.dropWhile_suffix _).subset hv)
   ·unfold insM
    have:=congrArg List.length (List.takeWhile_append_dropWhile (p:=fun w : VOL=>decide (w.id < (newV c).id)) (l:=L))
    simp only [List.length_append,List.length_cons] at this ⊢
    omega
 split
 ·exact ⟨hm,Nat.le_succ _⟩
 ·rename_i h
  rcases idxV_cases c.vol L 0 with ⟨h1,h2⟩ | ⟨k,hkl,h1,h2⟩
  ·rw [h1] at h;exact absurd (by decide) h
  ·rw [h1,Nat.zero_add,Int.toNat_natCast,List.getD_eq_getElem?_getD,List.getElem?_eq_getElem hkl,Option.getD_some]
   refine ⟨fun v hv=>?_,by simp⟩
   rcases List.mem_or_eq_of_mem_set hv with hv | rfl
   ·exact hm v hv
   ·exact (hg _ (List.getElem_mem hkl)).doV k2

theorem itsB_len2 (m : Nat) (hm : m≤1000000) : ∀ (l : List IT),(∀ x ∈ l,x.d.length≤m)→(itsB l).length≤l.length * (m + 20)
 | [],_=>by simp [itsB]
 | x :: l,h=>by
  have h3:=h x (by simp)
  have h1:=itB_len x (by omega)
  have h2:=itsB_len2 m hm l fun y hy=>h y (by simp [hy])
  have : itsB (x :: l) = itB x ++ itsB l:=rfl
  rw [this,List.length_append,List.length_cons,Nat.add_mul,Nat.one_mul];omega
theorem cmdB_len {c : CMD} {m : Nat} (hm : m≤1000) (hp : c.place.length≤1000) (hi : c.items.length≤8) (hd : ∀ x ∈ c.items,x.d.length≤m) : (cmdB c).length≤1000000:=by
 have e1:=numsL_len [c.kind,c.vol,c.blocks,c.size,c.per,c.total,c.at',c.index]
 have e2:=numsL_len c.place
 have e3:=putS1_len c.place.length
 have e4:=itsB_len2 m (by omega) c.items hd
 have e5:=putS1_len c.items.length
 have e6 : c.items.length * (m + 20)≤8 * 1020:=Nat.mul_le_mul hi (by omega)
 unfold cmdB placeB itemsB
 simp only [List.length_append,List.length_cons,List.length_nil] at e1 ⊢
 omega

structure Csmall (c : CMD) : Prop where
 b8 : byI c.items
 place : c.place.length≤1000
 items : c.items.length≤8
 data : ∀ x ∈ c.items,x.d.length≤200

theorem itsF_len (b s : Nat) : ∀ (l : List Nat) (acc : List IT),acc.length≤8→(∀ x ∈ acc,x.d.length = s)→(itsF b s l acc).length≤8∧∀ x ∈ itsF b s l acc,x.d.length = s
 | [],acc,h,h2=>⟨h,h2⟩
 | c :: l,acc,h,h2=>by
  unfold itsF
  split
  ·refine itsF_len b s l _ ?_ ?_
   ·unfold itsStep;split
    ·exact h
    ·simp;omega
   ·unfold itsStep;split
    ·exact h2
    ·intro x hx
     rcases List.mem_append.1 hx with hx | hx
     ·exact h2 x hx
     ·simp only [List.mem_singleton] at hx;subst hx;exact dataN_len _ _
  ·exact ⟨h,h2⟩
theorem itsF_by (b s : Nat) : ∀ (l : List Nat) (acc : List IT),byI acc→byI (itsF b s l acc)
 | [],acc,h=>h
 | c :: l,acc,h=>by
  unfold itsF
  split
  ·refine itsF_by b s l _ ?_
   unfold itsStep
   split
   ·exact h
   ·intro x hx
    rcases List.mem_append.1 hx with hx | hx
    ·exact h x hx
    ·simp only [List.mem_singleton] at hx;subst hx;exact dataN_by _ _
  ·exact h
theorem Csmall.its (k v : Int) (t i : Int) (b s : Nat) (l : List Nat) (hs : s≤200) : Csmall ⟨k,v,0,0,0,[],0,t,i,itsN b s l⟩:=by
 have h:=itsF_len b s l [] (by simp) (fun x hx=>(by cases hx))
 exact ⟨itsF_by b s l [] (fun x hx=>(by cases hx)),by simp,h.1,fun x hx=>by rw [h.2 x hx];exact hs⟩
theorem Csmall.no (k v : Int) (t i : Int) : Csmall ⟨k,v,0,0,0,[],0,t,i,[]⟩:=⟨fun x hx=>(by cases hx),by simp,by simp,fun x hx=>(by cases hx)⟩
theorem cmdV_small (v : VOL) (B S L w a b c : Nat) (hS : S≤200) : Csmall (cmdV v B S L w a b c):=by
 unfold cmdV
 split
 ·exact .its _ _ _ _ _ _ _ hS
 unfold cmd0
 split
 ·exact .its _ _ _ _ _ _ _ hS
 split
 ·exact .no _ _ _ _
 split
 ·exact .no _ _ _ _
 split
 ·exact .no _ _ _ _
 split
 ·exact .no _ _ _ _
 split
 ·exact .its _ _ _ _ _ _ _ hS
 ·exact .no _ _ _ _
theorem createC_small (vol blocks size per total : Nat) (h : total < 1000) : Csmall (createC vol blocks size per total):=by
 have:=(shape_lims (createC_shape vol blocks size per total h)).2.2.2.2.2.2
 refine ⟨fun x hx=>(by cases hx),?_,by simp [createC],fun x hx=>(by cases hx)⟩
 have h2 : (createC vol blocks size per total).place.length≤512:=this
 omega

def totN (c : Nat) : Nat:=if c % 4 = 0 then c / 4 % 3 + 1 else 0
theorem Cmd_new (w a b c : Nat) (hw : w < 256) (ha : a < 256) (hb : b < 256) (hc : c < 256) :
  Con Try.prog 65 [.agg (volC zeroV),B false,.c (.v (.int .u8 w)),.c (.v (.int .u8 a)),.c (.v (.int .u8 b)),.c (.v (.int .u8 c))] [] (.agg (cmdC (createC 0 a b c (totN c)))) []:=by
 have ht : totN c < 1000:=by unfold totN;split <;> omega
 have cC:=Create_con 0 a b c (totN c) (by omega) ha hb hc ht
 have e1 : (c : Int) % 4 = ((c % 4 : Nat) : Int):=by omega
 have e2 : ((c / 4 : Nat) : Int) % 3 = ((c / 4 % 3 : Nat) : Int):=by omega
 have e3 : (c : Int) / 4 = ((c / 4 : Nat) : Int):=by omega
 have e4 : (c : Int).tdiv 4 = ((c / 4 : Nat) : Int):=by rw [Int.tdiv_eq_ediv_of_nonneg (by omega)];omega
 have e5 : IntKind.u8.wrap 0 = 0:=by decide
 have hdr : (SV.agg (cmdC (createC 0 a b c (totN c)))).pureD:=cmdC_pure _
 refine C_mementoseat_Cmd nl nl ?_
 simp only [cz,A_mementoseat_Cmd,argL,objL,List.length_nil,Nat.zero_add,zX,simprocAttr]
 refine aS 16 (fun Q hQ=>by simp (disch:=intros;contradiction) only [zS,vC_eq,zeroV,simprocAttr];exact hQ) ?_
 refine aR 80 ?_
 refine aT ?_
 refine aw_reg 144 (RG.go fun Q hQ=>?_)
 simp (disch:=intros;contradiction) only [zS,simprocAttr]
 refine hQ (RG.nil ?_)
 simp only [zY]
 refine aw_joinS (Y:=Unit) [3,4,5,6,12] (fun y=>[(13,I (totN c))]) [16,32] (fun y=>[]) (by (repeat' (first | exact cl_fin | refine cl_then ?_ ?_))) ?_ ?_
 ·skip
  simp only [zX]
  refine aw_reg 192 (RG.go fun Q hQ=>?_)
  simp (disch:=first | (intros;contradiction) | omega | (simp only [zN];omega)) only [zS,zW,e1,simprocAttr]
  repeat refine ⟨by (omega),?_⟩
  refine hQ (RG.nil ?_)
  simp only [zX]
  refine aw_cond _ rfl trivial (fun ht=>?_) (fun hf=>?_)
  ·skip
   try simp at ht
   have e6 : ((c / 4 % 3 : Nat) : Int) + 1 = (totN c : Int):=by unfold totN;rw [if_pos (by omega)];rfl
   refine aw_reg 272 (RG.go fun Q hQ=>?_)
   simp (disch:=first | (intros;contradiction) | omega | (simp only [zN];omega)) only [zS,zW,e2,e3,e6,simprocAttr]
   repeat refine ⟨by (omega),?_⟩
   refine hQ (RG.nil ?_)
   simp only [zX]
   refine ⟨(),?_⟩
   simp only [keepS,keepE,Option.getD_some,lk_cons,lkE_cons,List.cons_append,List.nil_append,simprocAttr]
   refine Le.lit [] [] _ _ ?_ ?_ ?_ ?_
   ·simp only [zL,simprocAttr]
   ·simp only [zL,simprocAttr]
   ·simp [rlook]
   ·(simp;done)
  try simp at hf
  simp only [zX]
  have e6 : totN c = 0:=by unfold totN;rw [if_neg (by omega)]
  refine ⟨(),?_⟩
  simp only [keepS,keepE,Option.getD_some,lk_cons,lkE_cons,List.cons_append,List.nil_append,simprocAttr]
  refine Le.lit [] [] _ _ ?_ ?_ ?_ ?_
  ·simp only [zL,simprocAttr]
   all_goals (rw [e6];rfl;skip)
  ·simp only [zL,simprocAttr]
  ·simp [rlook]
  ·(simp;done)
 rintro y
 simp only [keepS,keepE,Option.getD_some,lk_cons,lkE_cons,List.cons_append,List.nil_append,simprocAttr]
 simp only [zX]
 refine aBs 400 (fun Q hQ=>by simp (disch:=intros;contradiction) only [zS,e5,simprocAttr];exact hQ) ?_
 refine rC [] (cC) ?_ (hs:=(by exact .inr ⟨hdr,trivial⟩))
 refine aEs (fun Q hQ=>by simp (disch:=intros;contradiction) only [zS,cmdC,simprocAttr];repeat refine ⟨by ((simp;done)),?_⟩;exact hQ) ?_
 refine Fin.data [] (.inr rfl) rfl (by (exact ⟨trivial,trivial⟩)) ?_
 simp only [zL]
 all_goals ((repeat' (first | exact trivial | rfl | refine ⟨?_,?_⟩)))

end Go.Abs

namespace Go.Abs
open Go Go.Proofs
set_option maxRecDepth 100000
set_option linter.unusedSimpArgs false
set_option maxHeartbeats 8000000

def putB (c : CMD) : List Nat:=if cmdR c = true then cmdB c else []
def putE (c : CMD) : Int:=if cmdR c = true then 0 else 23
theorem PutB_con (c : CMD) (h : Csmall c) : Con Try.prog 64 [.agg (cmdC c)] [] (.tup [.c (.sl ((putB c).map brow)),I (putE c)]) [] :=
 PutCmd_con c (by have:=h.place;omega) (by have:=h.items;omega) (fun x hx=>by have:=h.data x hx;omega)
def seatC (L : List VOL) (w a b c : Nat) : CMD :=
 if (volM L 0).2 = true then cmdV (volM L 0).1 (volM L 0).1.blocks.toNat (volM L 0).1.size.toNat (volM L 0).1.ws.length w a b c else createC 0 a b c (totN c)
def seatS (L : List VOL) (w a b c : Nat) : List VOL:=(appM L (putB (seatC L w a b c))).1
def seatN (l : List Nat) : Nat→List VOL
 | 0=>[]
 | k + 1=>seatS (seatN l k) (l.getD (4 * k) 0) (l.getD (4 * k + 1) 0) (l.getD (4 * k + 2) 0) (l.getD (4 * k + 3) 0)
def vol0 : VOL:=newV (createC 0 3 1 1 0)
def seatV (l : List Nat) : VOL:=(seatN l (l.length / 4)).headD vol0

theorem volM_cases (L : List VOL) (id : Int) (n : Nat) (hg : ∀ v ∈ L,Vgood v n) : ((volM L id).2 = true∧Vgood (volM L id).1 n)∨((volM L id).2 = false∧(volM L id).1 = zeroV):=by
 rcases idxV_cases id L 0 with ⟨h1,h2⟩ | ⟨k,hk,h1,h2⟩
 ·right
  have : volM L id = (zeroV,false):=by unfold volM;rw [h1,if_pos (by decide)]
  rw [this];exact ⟨rfl,rfl⟩
 ·left
  have : volM L id = (L[k],true):=by
   unfold volM;rw [h1,Nat.zero_add,if_neg (by omega),Int.toNat_natCast,List.getD_eq_getElem?_getD,List.getElem?_eq_getElem hk];rfl
  rw [this];exact ⟨rfl,hg _ (List.getElem_mem hk)⟩

theorem seatC_small (L : List VOL) (n : Nat) (hg : ∀ v ∈ L,Vgood v n) (w a b c : Nat) : Csmall (seatC L w a b c):=by
 unfold seatC
 rcases volM_cases L 0 n hg with ⟨h1,h2⟩ | ⟨h1,h2⟩
 ·rw [if_pos h1]
  exact cmdV_small _ _ _ _ _ _ _ _ (by have:=(shape_lims (rightV_iff.1 h2.right).1).2.2.1;omega)
 ·rw [if_neg (by simp [h1])]
  exact createC_small _ _ _ _ _ (by unfold totN;split <;> omega)

theorem putB_ok {c : CMD} (h : Csmall c) : (∀ x ∈ putB c,x < 256)∧(putB c).length≤1000000:=by
 unfold putB
 split
 ·exact ⟨cmdB_by _ h.b8,cmdB_len (m:=200) (by omega) h.place h.items h.data⟩
 ·simp
theorem seatB_ok {L : List VOL} {n : Nat} (hg : ∀ v ∈ L,Vgood v n) (w a b c : Nat) :
  (∀ x ∈ putB (seatC L w a b c),x < 256)∧(putB (seatC L w a b c)).length≤1000000:=putB_ok (seatC_small L n hg w a b c)

theorem Cmd_any (L : List VOL) (n : Nat) (hg : ∀ v ∈ L,Vgood v n) (hn : n≤50000) (w a b c : Nat) (hw : w < 256) (ha : a < 256) (hb : b < 256) (hc : c < 256) :
  Con Try.prog 65 [.agg (volC (volM L 0).1),B (volM L 0).2,.c (.v (.int .u8 w)),.c (.v (.int .u8 a)),.c (.v (.int .u8 b)),.c (.v (.int .u8 c))] [] (.agg (cmdC (seatC L w a b c))) []:=by
 unfold seatC
 rcases volM_cases L 0 n hg with ⟨h1,h2⟩ | ⟨h1,h2⟩
 ·rw [if_pos h1,h1];exact Cmd_there _ n h2 hn w a b c hw ha hb hc
 ·rw [if_neg (by simp [h1]),h1,h2];exact Cmd_new w a b c hw ha hb hc

theorem seatN_good (l : List Nat) : ∀ k,(∀ v ∈ seatN l k,Vgood v k)∧(seatN l k).length≤k
 | 0=>⟨fun v hv=>(by cases hv),Nat.le_refl _⟩
 | k + 1=>by
  have h:=seatN_good l k
  have h2:=appM_good h.1 (seatB_ok h.1 (l.getD (4 * k) 0) (l.getD (4 * k + 1) 0) (l.getD (4 * k + 2) 0) (l.getD (4 * k + 3) 0)).1
  exact ⟨h2.1,Nat.le_trans h2.2 (by omega)⟩

theorem seatV_good (l : List Nat) : Vgood (seatV l) (l.length / 4):=by
 have h:=(seatN_good l (l.length / 4)).1
 unfold seatV
 cases hs : seatN l (l.length / 4) with
 | nil=>exact (Vgood.new (createC_shape 0 3 1 1 0 (by omega))).mono (Nat.zero_le _)
 | cons v r=>rw [hs] at h;exact h v (by simp)

theorem getD_lt {l : List Nat} {i : Nat} (h : i < l.length) : l.getD i 0 = l[i]:=by rw [List.getD_eq_getElem?_getD,List.getElem?_eq_getElem h];rfl

theorem Volume_con (l : List Nat) (h8 : ∀ c ∈ l,c < 256) (hl : l.length≤10000) : Con Try.prog 26 [.c (.sl (l.map brow))] [] (.agg (volC (seatV l))) []:=by
 have cC:=Create_con 0 3 1 1 0 (by omega) (by omega) (by omega) (by omega) (by omega)
 have hsh:=createC_shape 0 3 1 1 0 (by omega)
 have hpl:=(shape_lims hsh).2.2.2.2.2.2
 have hN:=mementoref16_New_con (createC 0 3 1 1 0) (by have : (createC 0 3 1 1 0).place.length≤512:=hpl;omega)
 rw [new_of hsh] at hN
 obtain ⟨N,hN4⟩ : ∃ N,N = l.length / 4:=⟨_,rfl⟩
 have hV : seatV l = (seatN l N).headD vol0:=by rw [hN4];rfl
 obtain ⟨R,hR⟩ : ∃ R,R = seatN l N:=⟨_,rfl⟩
 rw [hV,← hR]
 refine C_mementoseat_Volume nl nl ?_
 simp only [cz,A_mementoseat_Volume,argL,objL,List.length_nil,zX]
 refine aR 16 ?_
 refine aR 64 ?_
 refine aR 144 ?_
 refine aw_loopK (X:={ p : Nat × Nat × List VOL // p.1≤N∧p.2.1 = 4 * p.1∧p.2.2 = seatN l p.1 }) [0,2,3] (fun p=>[(4,I p.1.2.1)]) [16] (fun p=>[(80,MB p.1.2.2)]) (fun p=>N - p.1.1) (⟨(0,0,[]),by simp,by simp,rfl⟩) ?_ ?_
 ·skip
  simp only [keepS,keepE,Option.getD_some,lk_cons,lkE_cons,List.cons_append,List.nil_append,simprocAttr]
  refine Le.lit [] [] _ _ ?_ ?_ ?_ ?_
  ·simp only [zL,simprocAttr]
  ·simp only [zL,simprocAttr]
  ·simp [rlook]
  ·(simp;done)
 rintro ⟨⟨k,i,L⟩,hk,hik,hLs⟩
 simp only [keepS,keepE,Option.getD_some,lk_cons,lkE_cons,List.cons_append,List.nil_append,simprocAttr]
 simp only [zX]
 simp only at hk hik hLs
 have hGd:=(seatN_good l k).1
 have hL:=(seatN_good l k).2
 rw [← hLs] at hGd hL
 refine aS 192 (fun Q hQ=>by simp (disch:=first | (intros;contradiction) | omega | (simp only [zN];omega)) only [zS,zW,simprocAttr];exact hQ) ?_
 refine aw_cond _ rfl trivial (fun ht=>?_) (fun hf=>?_)
 ·skip
  try simp at ht
  simp only [zX]
  have h3 : i + 3 < l.length:=by omega
  obtain ⟨i1,hi1⟩ : ∃ i1,i1 = i + 1:=⟨_,rfl⟩
  obtain ⟨i2,hi2⟩ : ∃ i2,i2 = i + 2:=⟨_,rfl⟩
  obtain ⟨i3,hi3⟩ : ∃ i3,i3 = i + 3:=⟨_,rfl⟩
  obtain ⟨i4,hi4⟩ : ∃ i4,i4 = i + 4:=⟨_,rfl⟩
  have b0 : i < l.length:=by omega
  have b1 : i1 < l.length:=by omega
  have b2 : i2 < l.length:=by omega
  have b3 : i3 < l.length:=by omega
  have hs : seatN l (k + 1) = seatS L l[i] l[i1] l[i2] l[i3]:=by
   rw [seatN,← hLs,← hik,← hi1,← hi2,← hi3,getD_lt b0,getD_lt b1,getD_lt b2,getD_lt b3]
  have t0:=h8 _ (List.getElem_mem b0)
  have t1:=h8 _ (List.getElem_mem b1)
  have t2:=h8 _ (List.getElem_mem b2)
  have t3:=h8 _ (List.getElem_mem b3)
  have cM:=MVolume_con L 0 (by omega)
  have cD:=Cmd_any L k hGd (by omega) l[i] l[i1] l[i2] l[i3] t0 t1 t2 t3
  have hB:=seatB_ok hGd l[i] l[i1] l[i2] l[i3]
  have hsm:=seatC_small L k hGd l[i] l[i1] l[i2] l[i3]
  unfold seatS at hs
  have cA:=Apply_con L _ k (by omega) hGd (by omega) hB.1 hB.2
  generalize seatC L l[i] l[i1] l[i2] l[i3] = C0 at cD hB hsm cA hs
  have cP:=PutB_con C0 hsm
  generalize putB C0 = bs at cA hs hB cP
  generalize appM L bs = Z at cA hs
  obtain ⟨L2,rp⟩:=Z
  simp only at cA hs
  have hs2 : seatN l (k + 1) = L2∧True:=⟨hs,trivial⟩
  clear hs
  generalize volM L 0 = V0 at cM cD
  obtain ⟨v0,b0⟩:=V0
  simp only at cM cD
  have e1 : (i : Int) + 1 = (i1 : Int):=by omega
  have e2 : (i : Int) + 2 = (i2 : Int):=by omega
  have e3 : (i : Int) + 3 = (i3 : Int):=by omega
  have e4 : (i : Int) + 4 = (i4 : Int):=by omega
  refine aBs 304 (fun Q hQ=>by simp (disch:=intros;contradiction) only [zS,e3,simprocAttr];exact hQ) ?_
  refine rO [80] [] (cM) ?_
  refine aEs (fun Q hQ=>by simp (disch:=intros;contradiction) only [zS,vC_eq,simprocAttr];exact hQ) ?_
  refine aw_draw 464 (RG.go fun Q hQ=>?_)
  simp (disch:=first | (intros;contradiction) | omega | (simp only [zN];omega)) only [zS,zW,brow,e1,e2,e3,simprocAttr]
  repeat refine ⟨by (omega),?_⟩
  refine hQ ?_
  refine rC [] (cD) ?_ (hs:=(by exact .inr ⟨cmdC_pure _,trivial⟩))
  refine aM ?_
  refine rC [] (cP) ?_ (hs:=(by exact .inr ⟨pureTC,trivial⟩))
  refine aED ?_
  refine aB 944 ?_
  refine rO [80] [] (cA) ?_
  refine aE ?_
  refine aS 1024 (fun Q hQ=>by simp (disch:=first | (intros;contradiction) | omega | (simp only [zN];omega)) only [zS,zW,e4,simprocAttr];exact hQ) ?_
  refine ⟨⟨(k + 1,i4,L2),by simp only;omega,by simp only;omega,by simp only;rw [hs2.1]⟩,?_,by first | omega | (simp only;omega)⟩
  refine Le.lit [] [] _ _ ?_ ?_ ?_ ?_
  ·simp only [zL,simprocAttr]
  ·simp only [zL,simprocAttr]
   all_goals (trivial;skip)
  ·simp [rlook]
  ·(simp;done)
 try simp at hf
 simp only [zX,↓reduceIte]
 have hkN : k = N:=by omega
 have hLR : L = R:=by rw [hLs,hR,hkN]
 by_cases hn : L = []
 ·skip
  refine aS 1104 (fun Q hQ=>by simp (disch:=intros;contradiction) only [zS,zW,simprocAttr];exact hQ) ?_
  refine aw_cond _ rfl trivial (fun ht=>?_) (fun hf=>by rw [hn] at hf;simp at hf)
  simp only [zX]
  refine aBs 1232 (fun Q hQ=>by simp (disch:=intros;contradiction) only [zS,↓reduceIte];exact hQ) ?_
  refine rC [] (cC) ?_ (hs:=(by exact .inr ⟨cmdC_pure _,trivial⟩))
  refine aM ?_
  refine rC [] (hN) ?_ (hs:=(by exact .inr ⟨pureTA (fun c hc=>volC_pure _ c hc),trivial⟩))
  refine aEs (fun Q hQ=>by simp (disch:=intros;contradiction) only [zS,vC_eq,simprocAttr];exact hQ) ?_
  rw [show R.headD vol0 = newV (createC 0 3 1 1 0) from by rw [← hLR,hn];rfl]
  refine aR 1392 ?_
  refine Fin.data [] (.inr rfl) rfl (by (exact ⟨trivial,trivial⟩)) ?_
  simp only [zL]
  all_goals ((repeat' (first | exact trivial | rfl | refine ⟨?_,?_⟩)))
 obtain ⟨v,r,hvr⟩:=List.exists_cons_of_ne_nil hn
 subst hvr
 refine aS 1456 (fun Q hQ=>by simp (disch:=intros;contradiction) only [zS,zW,vC_eq,simprocAttr];exact hQ) ?_
 refine aw_cond _ rfl trivial (fun ht=>by simp at ht;omega) (fun hf=>?_)
 simp only [zX]
 refine aS 1584 (fun Q hQ=>by simp (disch:=intros;contradiction) only [zS,zW,vC_eq,simprocAttr];repeat refine ⟨by (omega),?_⟩;exact hQ) ?_
 rw [show R.headD vol0 = v from by rw [← hLR];rfl]
 refine Fin.data [] (.inr rfl) rfl (by (exact ⟨trivial,trivial⟩)) ?_
 simp only [zL]
 all_goals ((repeat' (first | exact trivial | rfl | refine ⟨?_,?_⟩)))

end Go.Abs

namespace Go.Abs
open Go Go.Proofs
set_option maxRecDepth 100000
set_option linter.unusedSimpArgs false
set_option maxHeartbeats 4000000

theorem TrL.of {α β : Type} {S : α→β→Prop} : ∀ {xs : List α} {ys : List β},xs.length = ys.length→(∀ (i : Nat) x y,xs[i]? = some x→ys[i]? = some y→S x y)→TrL S xs ys
 | [],[],_,_=>trivial
 | x :: xs,y :: ys,h,hh=>⟨hh 0 x y rfl rfl,TrL.of (by simpa using h) fun i a b h1 h2=>hh (i + 1) a b (by simpa using h1) (by simpa using h2)⟩

section
variable {F A : Nat} {T T' : TypeId} {l l' : SL} {H : List (List IT)} {r r' : EL}

end
end Go.Abs

namespace Go.Abs
open Go Go.Proofs
set_option maxRecDepth 100000
set_option linter.unusedSimpArgs false
set_option maxHeartbeats 4000000

section
variable {F A : Nat} {T T' : TypeId} {l l' : SL} {H : List (List IT)} {r r' es : EL}

end
end Go.Abs

namespace Go.Abs
open Go Go.Proofs
set_option maxRecDepth 100000
set_option linter.unusedSimpArgs false
set_option maxHeartbeats 8000000

def hStep (s : Int) (H : List (List IT)) (x : IT) : List (List IT):=if 0≤x.b∧x.b < H.length then H.set x.b.toNat (H.getD x.b.toNat [] ++ [⟨s,x.d⟩]) else H
def hW (H : List (List IT)) (w : WR) : List (List IT):=w.its.foldl (hStep w.s) H
def hAll (n : Nat) (ws : List WR) : List (List IT):=ws.foldl hW (List.replicate n [])

def HOk (k : Int) (m : Nat) (H : List (List IT)) : Prop:=∀ h ∈ H,h.length≤m∧rise h∧∀ x ∈ h,x.b≤k∧x.d.length≤1000000
theorem rise_snoc : ∀ {l : List IT} {x : IT},rise l→(∀ y ∈ l,y.b≤x.b)→rise (l ++ [x])
 | [],x,_,_=>⟨fun y hy=>(by cases hy),trivial⟩
 | y :: l,x,h,hx=>by
  refine ⟨fun z hz=>?_,rise_snoc h.2 fun z hz=>hx z (by simp [hz])⟩
  rcases List.mem_append.1 hz with hz | hz
  ·exact h.1 z hz
  ·simp only [List.mem_singleton] at hz;subst hz;exact hx y (by simp)
theorem hStep_len (s : Int) (H : List (List IT)) (x : IT) : (hStep s H x).length = H.length:=by unfold hStep;split <;> simp
theorem HOk.step {k s : Int} {m : Nat} {H : List (List IT)} (h : HOk k m H) (hks : k≤s) {x : IT} (hd : x.d.length≤1000000) : HOk s (m + 1) (hStep s H x):=by
 have h0 : ∀ g ∈ H,g.length≤m + 1∧rise g∧∀ y ∈ g,y.b≤s∧y.d.length≤1000000:=fun g hg=>by
  obtain ⟨h1,h2,h3⟩:=h g hg
  exact ⟨by omega,h2,fun y hy=>⟨by have:=(h3 y hy).1;omega,(h3 y hy).2⟩⟩
 unfold hStep
 split
 ·rename_i hb
  intro g hg
  rcases List.mem_or_eq_of_mem_set hg with hg | rfl
  ·exact h0 g hg
  ·have hi : x.b.toNat < H.length:=by omega
   rw [List.getD_eq_getElem?_getD,List.getElem?_eq_getElem hi,Option.getD_some]
   obtain ⟨h1,h2,h3⟩:=h _ (List.getElem_mem hi)
   refine ⟨by simp;omega,rise_snoc h2 fun y hy=>by have:=(h3 y hy).1;simp only;omega,fun y hy=>?_⟩
   rcases List.mem_append.1 hy with hy | hy
   ·exact ⟨by have:=(h3 y hy).1;omega,(h3 y hy).2⟩
   ·simp only [List.mem_singleton] at hy;subst hy;exact ⟨Int.le_refl _,hd⟩
 ·exact h0

def atF (size : Nat) (t : Int) (h : List IT) : List Nat:=if 0 < behN t h then (h.take (behN t h)).getLast?.elim [] (·.d) else List.replicate size 0
theorem HOk.mono {k k' : Int} {m m' : Nat} {H : List (List IT)} (h : HOk k m H) (h1 : k≤k') (h2 : m≤m') : HOk k' m' H:=fun g hg=>by
 obtain ⟨a,b,c⟩:=h g hg
 exact ⟨by omega,b,fun x hx=>⟨by have:=(c x hx).1;omega,(c x hx).2⟩⟩
theorem wsR_at {b s : Int} : ∀ {l : List WR} {k i : Nat} (hi : i < l.length),wsR b s k l = true→l[i].s = ((k + i : Nat) : Int) + 1∧itemsR b s l[i].its = true
 | w :: l,k,0,_,h=>by
  simp only [wsR,Bool.and_eq_true,decide_eq_true_eq] at h
  exact ⟨by simpa using h.1.1,h.1.2⟩
 | w :: l,k,i + 1,hi,h=>by
  simp only [wsR,Bool.and_eq_true] at h
  have:=wsR_at (l:=l) (k:=k + 1) (i:=i) (by simpa using hi) h.2
  rw [show k + 1 + i = k + (i + 1) by omega] at this
  simpa using this

end Go.Abs

namespace Go.Abs
open Go Go.Proofs
set_option maxRecDepth 100000
set_option linter.unusedSimpArgs false
set_option maxHeartbeats 8000000

theorem takeW_snoc {α : Type} {p : α→Bool} {x : α} (hx : p x = false) : ∀ l : List α,(l ++ [x]).takeWhile p = l.takeWhile p
 | []=>by simp [hx]
 | y :: l=>by simp only [List.cons_append,List.takeWhile_cons,takeW_snoc hx l]
def Tle (k : Int) (H : List (List IT)) : Prop:=∀ h ∈ H,∀ y ∈ h,y.b≤k
theorem Tle.step {s : Int} {H : List (List IT)} {x : IT} (h : Tle s H) : Tle s (hStep s H x):=by
 unfold hStep
 split
 ·rename_i hb
  intro g hg
  rcases List.mem_or_eq_of_mem_set hg with hg | rfl
  ·exact h g hg
  ·have hi : x.b.toNat < H.length:=by omega
   rw [List.getD_eq_getElem?_getD,List.getElem?_eq_getElem hi,Option.getD_some]
   intro y hy
   rcases List.mem_append.1 hy with hy | hy
   ·exact h _ (List.getElem_mem hi) y hy
   ·simp only [List.mem_singleton] at hy;subst hy;exact Int.le_refl _
 ·exact h

end Go.Abs

namespace Go.Abs
open Go Go.Proofs
set_option maxRecDepth 100000
set_option linter.unusedSimpArgs false
set_option maxHeartbeats 8000000
theorem pack_Put_con (l : List Nat) (hb : l.length * 10≤140737488355328) (hl : ∀ n ∈ l,n < 18446744073709551616) : Con Try.prog 41 [.c (.sl (l.map urow))] [] (.c (.osl 0)) [.arr 5 1 ((putS l).map brow) false]:=by
 refine C_pack_Put nl nl ?_
 simp only [cz,A_pack_Put,argL,objL,List.length_nil,zX]
 refine aR 16 ?_
 refine aR 160 ?_
 refine aR 320 ?_
 refine aw_loop (X:={ i : Nat // i≤l.length }) (fun i=>mkSt [(3,.c (.osl 1000)),(6,.c (.sl (l.map urow))),(7,I l.length),(8,I i.1)] [(1000,.arr 5 1 ((putS (l.take i.1)).map brow) false)]) (fun i=>l.length - i.1) ⟨0,Nat.zero_le _⟩ ?_ ?_
 ·refine (Le.own 3 1000 5 1 rfl rfl (by decide)).trans (Le.lit [] [] _ _ ?_ ?_ ?_ ?_)
  ·skip
   simp only [zL,simprocAttr]
   simp
  ·skip
   simp only [zL,simprocAttr]
   simp [putS]
  ·simp
  ·simp
 rintro ⟨i,hi⟩
 simp only [zX]
 refine aR 480 ?_
 refine aw_cond _ rfl trivial (fun ht=>?_) (fun hf=>?_)
 rotate_left
 ·skip
  simp only [zX,↓reduceIte]
  refine aR 640 ?_
  have hi' : i = l.length:=by simp at hf;omega
  subst hi'
  refine Fin.objs [] [(0,1000)] (.inr rfl) rfl trivial ?_ ?_ ?_ ?_
  ·skip
   simp only [zL,simprocAttr]
  ·skip
   simp only [zL,simprocAttr]
   simp [brow,C.isD]
  ·simp [objL]
  ·simp
 have hi' : i < l.length:=by simpa using ht
 have hr : (List.map urow l)[(i : Int).toNat]?.getD [] = [.v (.int .u64 l[i])]:=by simp [hi',urow]
 simp only [zX]
 refine aw_reg 640 (RG.go fun Q hQ=>?_)
 simp only [zS,hr,simprocAttr]
 refine ⟨by simp;omega,hQ (RG.nil ?_)⟩
 simp only [zX]
 refine aw_loop (X:={ p : Nat × List Nat // p.2 ++ num7 p.1 = putS (l.take i) ++ num7 l[i]∧p.1 < 18446744073709551616 }) (fun p=>mkSt [(3,.c (.osl 1000)),(5,.c (.v (.int .u64 p.1.1))),(6,.c (.sl (l.map urow))),(7,I l.length),(8,I i)] [(1000,.arr 5 1 (p.1.2.map brow) false)]) (fun p=>p.1.1) ⟨(l[i],putS (l.take i)),rfl,hl _ (List.getElem_mem hi')⟩ ?_ ?_
 ·refine Le.lit [] [] _ _ ?_ ?_ ?_ ?_
  ·skip
   simp only [zL,simprocAttr]
  ·skip
   simp only [zL,simprocAttr]
   simp [brow,C.isD]
  ·simp
  ·simp
 rintro ⟨⟨n,acc⟩,hp,hn⟩
 simp only [zX]
 refine aR 800 ?_
 refine aw_cond _ rfl trivial (fun ht=>?_) (fun hf=>?_)
 ·have hn' : 128≤n:=by simp at ht;omega
  have hlen : acc.length + (num7 n).length≤l.length * 10:=by
   have h0:=putS_len (l.take (i + 1)) fun m hm=>hl m (List.mem_of_mem_take hm)
   rw [putS_take l i hi',← hp] at h0
   simp at h0
   omega
  have hpos:=num7_pos n
  simp only [zX]
  refine aw_reg 1200 (RG.go fun Q hQ=>?_)
  simp only [zS,simprocAttr]
  refine ⟨⟨by simp,by simp;omega⟩,hQ (RG.nil ?_)⟩
  simp only [zX]
  refine aR 1400 ?_
  refine ⟨⟨(n / 128,acc ++ [n % 128 + 128]),?_,by simp only;omega⟩,?_,by simp only;omega⟩
  ·have h7 : num7 n = (n % 128 + 128) :: num7 (n / 128):=by rw [num7,if_neg (by omega)]
   rw [← hp,h7]
   simp
  refine Le.lit [] [(1000,1280)] _ _ ?_ ?_ ?_ ?_
  ·skip
   simp only [zL,simprocAttr]
   rw [shr7]
  ·skip
   simp only [zL,simprocAttr]
   refine ⟨by simp [or128,brow],drows_brow _⟩
  ·simp
  ·simp
 have hn' : n < 128:=by simp at hf;omega
 have hlen : acc.length + (num7 n).length≤l.length * 10:=by
  have h0:=putS_len (l.take (i + 1)) fun m hm=>hl m (List.mem_of_mem_take hm)
  rw [putS_take l i hi',← hp] at h0
  simp at h0
  omega
 have hpos:=num7_pos n
 simp only [zX,↓reduceIte]
 refine aw_reg 1200 (RG.go fun Q hQ=>?_)
 simp only [zS,simprocAttr]
 refine ⟨⟨by simp,by simp;omega⟩,hQ (RG.nil ?_)⟩
 simp only [zX]
 refine aR 1400 ?_
 refine ⟨⟨i + 1,hi'⟩,?_,by simp;omega⟩
 refine Le.lit [] [(1000,1264)] _ _ ?_ ?_ ?_ ?_
 ·skip
  simp only [zL,simprocAttr]
  rw [w64 _ (by omega) (by omega)];rfl
 ·skip
  simp only [zL,simprocAttr]
  refine ⟨?_,drows_brow _⟩
  rw [putS_take l i hi',← hp,num7,if_pos hn',u8wrap n hn']
  simp [brow]
 ·simp
 ·simp

theorem pack_rest_Left_con (rows : List (List C)) (e : Int) : Con Try.prog 38 [.c (.bp 0 0)] [.box [.sl rows,.v (.int .i64 e)]] (I rows.length) [.box [.sl rows,.v (.int .i64 e)]]:=by
 refine C_pack_rest_Left nl nl ?_
 simp only [cz,A_pack_rest_Left,argL,objL,List.length_nil,List.length_cons,Nat.zero_add,zX]
 refine aR 16 ?_
 refine aR 160 ?_
 refine Fin.objs [] [] (.inr rfl) rfl (by exact trivial) ?_ ?_ (by simp [objL,rlook]) (by (simp [objL,rlook];done))
 ·simp only [zL,simprocAttr]
 ·simp only [zL,↓reduceIte]

theorem pack_rest_Err_con (rows : List (List C)) (e : Int) : Con Try.prog 77 [.c (.bp 0 0)] [.box [.sl rows,.v (.int .i64 e)]] (I e) [.box [.sl rows,.v (.int .i64 e)]]:=by
 refine C_pack_rest_Err nl nl ?_
 simp only [cz,A_pack_rest_Err,argL,objL,List.length_nil,List.length_cons,Nat.zero_add,zX]
 refine aR 16 ?_
 refine aR 160 ?_
 refine Fin.objs [] [] (.inr rfl) rfl (by exact trivial) ?_ ?_ (by simp [objL,rlook]) (by (simp [objL,rlook];done))
 ·simp only [zL,simprocAttr]
 ·simp only [zL,↓reduceIte]

theorem pack_rest_fail_con (rows : List (List C)) (e x : Int) : Con Try.prog 88 [.c (.bp 0 0),I x] [.box [.sl rows,.v (.int .i64 e)]] (.tup []) [.box [.sl [],.v (.int .i64 x)]]:=by
 refine C_pack_rest_fail nl nl ?_
 simp only [cz,A_pack_rest_fail,argL,objL,List.length_nil,List.length_cons,Nat.zero_add]
 refine aw_reg 16 (RG.go fun Q hQ=>?_)
 simp only [zS,simprocAttr]
 refine hQ (RG.nil ?_)
 refine Fin.objs [] [] (.inl rfl) rfl trivial ?_ ?_ (by simp [objL,rlook]) (by simp [objL,rlook])
 ·skip
  simp only [zL]
 ·skip
  simp only [zL,↓reduceIte]

theorem pack_Lump_con (l : List Nat) (hb : l.length≤100000000000000) : Con Try.prog 43 [.c (.sl (l.map brow))] [] (.c (.osl 0)) [.arr 5 1 ((num7 l.length ++ l).map brow) false]:=by
 have hw : IntKind.u64.wrap ((l.map brow).length : Int) = (l.length : Int):=by rw [w_u64,List.length_map];omega
 have hl:=num7_len l.length (by omega)
 refine C_pack_Lump nl nl ?_
 simp only [cz,A_pack_Lump,argL,objL,List.length_nil,zX]
 refine aR 16 ?_
 refine aBs 160 (fun Q hQ=>by simp only [zS,hw,simprocAttr];exact hQ) ?_
 refine RG.callo [] [208] (pack_Put_con [l.length] (by simp) (by simp;omega)) (.mk (tr_cons (tr_view (by simp) rfl (by simp [isDRows,urow,C.isD])) tr_nil) (trivial) (by simp) (by simp) (views1 rfl trivial) (by simp [lkE_cons,lkE_nil]) (by simp only [List.mem_singleton,forall_eq,Ent.pure];exact drows_brow _) (by simp) (by simp)) ?_
 refine RG.go fun Q hQ=>?_
 simp only [zS,simprocAttr]
 have hp : putS [l.length] = num7 l.length:=by simp [putS]
 refine ⟨⟨by simp [brow],by simp [hp];omega⟩,hQ (RG.nil ?_)⟩
 simp only [zX]
 refine Fin.objs [] [(0,256)] (.inr rfl) rfl (by exact trivial) ?_ ?_ (by simp [objL,rlook]) (by (simp [objL,rlook];done))
 ·simp only [zL,simprocAttr]
 ·simp only [zL,simprocAttr]
  all_goals (exact ⟨by rw [hp,List.map_append],drows_brow _⟩)

theorem pack_New_con (rows : List (List C)) (hd : isDRows rows) (h1 : ∀ r ∈ rows,r.length = 1) (hb : rows.length≤140737488355328) : Con Try.prog 35 [.c (.sl rows)] [] (.c (.bp 0 0)) [.box [.sl rows,.v (.int .i64 0)]]:=by
 refine C_pack_New nl nl ?_
 simp only [cz,A_pack_New,argL,objL,List.length_nil,zX]
 refine aR 16 ?_
 refine aB 160 ?_
 refine rO [] [] (slices_Clone_byte_byte_con rows hd h1 hb) ?_
 refine aE ?_
 refine Fin.objs [176] [(0,224)] (.inr rfl) rfl (by exact trivial) ?_ ?_ (by simp [objL,rlook]) (by (simp [objL,rlook];done))
 ·simp only [zL,simprocAttr]
 ·simp only [zL,simprocAttr]
  all_goals (exact ⟨⟨_,_,rfl⟩,hd⟩)

theorem pack_number_con (l : List Nat) (hl : ∀ c ∈ l,c < 256) (hb : l.length≤140737488355328) : Con Try.prog 87 [.c (.sl (l.map brow))] [] (.tup [.c (.v (.int .u64 (rdN 0 0 l).1)),I (rdN 0 0 l).2.1,I (rdN 0 0 l).2.2]) []:=by
 refine C_pack_number nl nl ?_
 simp only [cz,A_pack_number,argL,objL,List.length_nil,zX]
 refine aR 16 ?_
 refine aR 160 ?_
 refine aR 320 ?_
 refine aw_loop (X:={ p : Nat × Nat // p.1≤l.length∧p.1≤9∧p.2 < 128 ^ p.1∧rdN p.1 p.2 (l.drop p.1) = rdN 0 0 l }) (fun p=>mkSt [(5,.c (.v (.int .u64 p.1.2))),(8,.c (.sl (l.map brow))),(9,I l.length),(10,I p.1.1)] []) (fun p=>l.length - p.1.1) ⟨(0,0),by simp⟩ ?_ ?_
 ·refine Le.lit [] [] _ _ ?_ ?_ ?_ ?_
  ·skip
   simp only [zL,simprocAttr]
   simp
  ·skip
   simp only [zL,simprocAttr]
  ·simp
  ·simp
 rintro ⟨⟨i,acc⟩,hi,hi9,hacc,hrd⟩
 simp only at hi hi9 hacc hrd
 simp only [zX]
 refine aR 480 ?_
 refine aw_cond _ rfl trivial (fun ht=>?_) (fun hf=>?_)
 rotate_left
 ·skip
  simp only [zX,↓reduceIte]
  refine aR 640 ?_
  have hi' : i = l.length:=by simp at hf;omega
  refine Fin.scalar (.inr rfl) rfl trivial ?_ ?_
  ·rw [hi',List.drop_length] at hrd
   rw [← hrd];rfl
  ·intro s hs
   simp at hs
   rcases hs with rfl | rfl | rfl <;> exact ⟨_,rfl⟩
 have hi' : i < l.length:=by simp at ht;omega
 have hr : (List.map brow l)[(i : Int).toNat]?.getD [] = [.v (.int .u8 l[i])]:=by simp [hi',brow]
 have hc:=hl _ (List.getElem_mem hi')
 rw [List.drop_eq_getElem_cons hi',rdN] at hrd
 generalize l[i] = c at hr hc hrd
 simp only [zX]
 refine aw_reg 640 (RG.go fun Q hQ=>?_)
 simp only [zS,hr,simprocAttr]
 refine ⟨by simp;omega,hQ (RG.nil ?_)⟩
 simp only [zX]
 refine aR 800 ?_
 refine aw_cond _ rfl trivial (fun ht2=>?_) (fun hf2=>?_)
 ·skip
  simp only [zX]
  refine aR 1000 ?_
  have hcc : i = 9∧1 < c:=by simp at ht2;omega
  rw [if_pos hcc] at hrd
  refine Fin.scalar (.inr rfl) rfl trivial (by rw [← hrd];rfl) ?_
  intro s hs
  simp at hs
  rcases hs with rfl | rfl | rfl <;> exact ⟨_,rfl⟩
 have hcc : ¬ (i = 9∧1 < c):=by simp at hf2;omega
 rw [if_neg hcc] at hrd
 have hor:=orNum i acc c hi9 hacc hc (by omega)
 simp only [zX]
 refine aw_reg 1200 (RG.go fun Q hQ=>?_)
 simp only [zS,hor,simprocAttr]
 refine ⟨by rw [w64 _ (by omega) (by omega)];omega,hQ (RG.nil ?_)⟩
 simp only [zX]
 refine aR 1400 ?_
 refine aw_cond _ rfl trivial (fun ht3=>?_) (fun hf3=>?_)
 ·have hc3 : 128≤c:=by have:=and128 c hc;rw [this] at ht3;simp at ht3;omega
  rw [if_pos hc3] at hrd
  simp only [zX,↓reduceIte]
  refine aR 1600 ?_
  refine ⟨⟨(i + 1,acc + c % 128 * 128 ^ i),by simp only;omega,by simp only;omega,?_,hrd⟩,?_,by simp only;omega⟩
  ·simp only
   have h1 : c % 128≤127:=by omega
   have h2:=Nat.mul_le_mul_right (128 ^ i) h1
   have h3 : 128 ^ (i + 1) = 128 * 128 ^ i:=by rw [Nat.pow_succ,Nat.mul_comm]
   omega
  ·refine Le.lit [] [] _ _ ?_ ?_ ?_ ?_
   ·skip
    simp only [zL,simprocAttr]
    rw [w64 _ (by omega) (by omega)];rfl
   ·skip
    simp only [zL,simprocAttr]
   ·simp
   ·simp
 have hc3 : ¬ 128≤c:=by have:=and128 c hc;rw [this] at hf3;simp at hf3;omega
 rw [if_neg hc3] at hrd
 simp only [zX]
 refine aR 1600 ?_
 refine aw_cond _ rfl trivial (fun ht4=>?_) (fun hf4=>?_)
 ·have hc4 : 0 < i∧c = 0:=by simp at ht4;omega
  rw [if_pos hc4] at hrd
  simp only [zX]
  refine aR 1800 ?_
  refine Fin.scalar (.inr rfl) rfl trivial (by rw [← hrd];rfl) ?_
  intro s hs
  simp at hs
  rcases hs with rfl | rfl | rfl <;> exact ⟨_,rfl⟩
 have hc4 : ¬ (0 < i∧c = 0):=by simp at hf4;omega
 rw [if_neg hc4] at hrd
 simp only [zX]
 have hwi : IntKind.i64.wrap ((i : Int) + 1) = ((i + 1 : Nat) : Int):=by rw [w64 _ (by omega) (by omega)];rfl
 refine aS 1800 (fun Q hQ=>by simp only [zS,hwi,simprocAttr];exact hQ) ?_
 refine Fin.scalar (.inr rfl) rfl trivial (by rw [← hrd];rfl) ?_
 intro s hs
 simp at hs
 rcases hs with rfl | rfl | rfl <;> exact ⟨_,rfl⟩

theorem pack_Reader_Num_con (l : List Nat) (e most : Nat) (hl : ∀ c ∈ l,c < 256) (hb : l.length≤140737488355328) : Con Try.prog 58 [.c (.bp 0 0),.c (.v (.int .u64 most))] [Rd l e] (.c (.v (.int .u64 (numR most l e).1))) [Rd (numR most l e).2.1 (numR most l e).2.2]:=by
 generalize hN : numR most l e = r
 unfold numR at hN
 refine C_pack_Reader_Num nl nl ?_
 simp only [cz,A_pack_Reader_Num,argL,objL,List.length_nil,List.length_cons,Nat.zero_add,zX]
 refine aR 16 ?_
 refine aR 160 ?_
 refine aw_cond _ rfl trivial (fun ht=>?_) (fun hf=>?_)
 ·skip
  simp only [zX]
  refine aR 320 ?_
  have he : e≠0:=by simp at ht;omega
  rw [if_pos he] at hN
  subst hN
  refine Fin.objs [] [] (.inr rfl) rfl (by exact trivial) ?_ ?_ (by simp [objL,rlook]) (by (simp [objL,rlook];done))
  ·simp only [zL,simprocAttr]
  ·simp only [zL,↓reduceIte]
 have he : e = 0:=by simp at hf;omega
 subst he
 rw [if_neg (by simp)] at hN
 simp only [zX]
 refine aB 400 ?_
 refine rC [] (pack_number_con l hl hb) ?_ (hv:=(trivial)) (hs:=(.inl sc3))
 refine aE ?_
 refine aR 800 ?_
 refine aw_cond _ rfl trivial (fun ht=>?_) (fun hf=>?_)
 ·have h2 : (rdN 0 0 l).2.2≠0:=by simp at ht;omega
  rw [if_pos h2] at hN
  subst hN
  simp only [zX]
  refine aB 1000 ?_
  refine rO [0] [] (pack_rest_fail_con (l.map brow) 0 ((rdN 0 0 l).2.2 : Nat)) ?_
  refine aE ?_
  refine aR 1200 ?_
  refine Fin.objs [] [] (.inr rfl) rfl (by exact trivial) ?_ ?_ (by simp [objL,rlook]) (by (simp [objL,rlook];done))
  ·simp only [zL,simprocAttr]
  ·simp only [zL,↓reduceIte]
 have h2 : (rdN 0 0 l).2.2 = 0:=by simp at hf;omega
 rw [if_neg (by omega)] at hN
 simp only [zX]
 refine aR 1000 ?_
 refine aw_cond _ rfl trivial (fun ht=>?_) (fun hf=>?_)
 ·have h3 : most < (rdN 0 0 l).1:=by simp at ht;omega
  rw [if_pos h3] at hN
  subst hN
  simp only [zX]
  refine aB 1200 ?_
  refine rO [0] [] (pack_rest_fail_con (l.map brow) 0 22) ?_
  refine aE ?_
  refine aR 1400 ?_
  refine Fin.objs [] [] (.inr rfl) rfl (by exact trivial) ?_ ?_ (by simp [objL,rlook]) (by (simp [objL,rlook];done))
  ·simp only [zL,simprocAttr]
  ·simp only [zL,↓reduceIte]
 have h3 : ¬ most < (rdN 0 0 l).1:=by simp at hf;omega
 rw [if_neg h3] at hN
 subst hN
 have hs:=rdN_size l 0 0 h2
 simp only [zX]
 refine aw_reg 1200 (RG.go fun Q hQ=>?_)
 simp only [zS,simprocAttr]
 refine ⟨⟨by omega,by simp;omega,by simp,by simp [brow]⟩,hQ (RG.nil ?_)⟩
 simp only [zX]
 refine aR 1400 ?_
 refine Fin.objs [] [] (.inr rfl) rfl (by exact trivial) ?_ ?_ (by simp [objL,rlook]) (by (simp [objL,rlook];done))
 ·simp only [zL,simprocAttr]
 ·simp only [zL,↓reduceIte]
  all_goals (rw [List.map_drop,List.length_map,Int.toNat_natCast,Int.toNat_natCast,List.take_of_length_le (by simp)])

theorem pack_Reader_Lump_con (l : List Nat) (e most : Nat) (hl : ∀ c ∈ l,c < 256) (hb : l.length≤140737488355328) (hm : most < 9223372036854775808) :
  Con Try.prog 59 [.c (.bp 0 0),I most] [Rd l e] (.c (.sl ((lumpR most l e).1.map brow))) [Rd (lumpR most l e).2.1 (lumpR most l e).2.2]:=by
 have hw : IntKind.u64.wrap (most : Int) = (most : Int):=by rw [w_u64];omega
 have hmx : (if (0 : Int) > (most : Int) then (0 : Int) else (most : Int)) = (most : Int):=by split <;> omega
 have hmem:=numR_mem (most:=most) (e:=e) hl
 have hlen:=numR_len (most:=most) (l:=l) (e:=e)
 have hnum:=pack_Reader_Num_con l e most hl hb
 generalize hN : lumpR most l e = r
 unfold lumpR at hN
 generalize numR most l e = q at hN hmem hlen hnum
 obtain ⟨n,l',e'⟩:=q
 simp only at hN hmem hlen hnum
 have hw2 : IntKind.u64.wrap ((l'.map brow).length : Int) = (l'.length : Int):=by rw [w_u64,List.length_map];omega
 refine C_pack_Reader_Lump nl nl ?_
 simp only [cz,A_pack_Reader_Lump,argL,objL,List.length_nil,List.length_cons,Nat.zero_add,zX]
 refine aR 16 ?_
 refine aBs 160 (fun Q hQ=>by simp only [zS,foldMx,hmx,hw,simprocAttr];exact hQ) ?_
 refine rO [0] [] (hnum) ?_
 refine aE ?_
 refine aR 400 ?_
 refine aw_cond _ rfl trivial (fun ht=>?_) (fun hf=>?_)
 ·have he : e'≠0:=by simp at ht;omega
  rw [if_pos he] at hN
  subst hN
  simp only [zX]
  refine aR 600 ?_
  refine Fin.objs [] [] (.inr rfl) rfl (by exact trivial) ?_ ?_ (by simp [objL,rlook]) (by (simp [objL,rlook];done))
  ·simp only [zL,simprocAttr]
  ·simp only [zL,↓reduceIte]
 have he : e' = 0:=by simp at hf;omega
 subst he
 rw [if_neg (by simp)] at hN
 simp only [zX]
 refine aS 600 (fun Q hQ=>by simp only [zS,hw2,simprocAttr];exact hQ) ?_
 refine aw_cond _ rfl trivial (fun ht=>?_) (fun hf=>?_)
 ·have h2 : l'.length < n:=by simp at ht;omega
  rw [if_pos h2] at hN
  subst hN
  simp only [zX]
  refine aB 800 ?_
  refine rO [0] [] (pack_rest_fail_con (l'.map brow) 0 21) ?_
  refine aE ?_
  refine aR 1000 ?_
  refine Fin.objs [] [] (.inr rfl) rfl (by exact trivial) ?_ ?_ (by simp [objL,rlook]) (by (simp [objL,rlook];done))
  ·simp only [zL,simprocAttr]
  ·simp only [zL,↓reduceIte]
 have h2 : ¬ l'.length < n:=by simp at hf;omega
 rw [if_neg h2] at hN
 subst hN
 have ht1 : (l'.map brow).take (n : Int).toNat = (l'.take n).map brow:=by simp
 have ht2 : ((l'.map brow).take ((l'.map brow).length : Int).toNat).drop (n : Int).toNat = (l'.drop n).map brow:=by rw [Int.toNat_natCast,Int.toNat_natCast,List.take_of_length_le (Nat.le_refl _),List.map_drop]
 simp only [zX]
 refine aw_reg 800 (RG.go fun Q hQ=>?_)
 simp only [zS,ht1,simprocAttr]
 refine ⟨⟨by omega,by simp;omega,by simp [brow]⟩,hQ ?_⟩
 refine RG.callo [] [] (slices_Clone_byte_byte_con ((l'.take n).map brow) (drows_brow _) (brow_len _) (by simp;omega)) (.mk (tr_cons tr_sl tr_nil) (trivial) (by simp) (by simp) (trivial) (by simp [lkE_cons,lkE_nil]) (by simp only [List.mem_singleton,forall_eq,Ent.pure];exact drows_brow _) (by simp) (by simp)) ?_
 refine aE ?_
 refine aw_reg 1200 (RG.go fun Q hQ=>?_)
 simp only [zS,ht2,simprocAttr]
 refine ⟨⟨by omega,by simp;omega,by simp,by simp [brow]⟩,hQ (RG.nil ?_)⟩
 simp only [zX]
 refine aR 1400 ?_
 refine Fin.objs [912] [] (.inr rfl) rfl (by exact trivial) ?_ ?_ (by simp [objL,rlook]) (by (simp [objL,rlook];done))
 ·simp only [zL,simprocAttr]
  all_goals (exact ⟨⟨_,_,rfl⟩,drows_brow _⟩)
 ·simp only [zL,simprocAttr]

theorem bytes_Equal_con (l m : List Nat) (hl : ∀ c ∈ l,c < 256) (hm : ∀ c ∈ m,c < 256) : Con Try.prog 60 [.c (.sl (l.map brow)),.c (.sl (m.map brow))] [] (B (decide (l = m))) []:=by
 have h:=str_eq l m hl hm
 refine C_bytes_Equal nl nl ?_
 simp only [cz,A_bytes_Equal,argL,objL,List.length_nil,Nat.zero_add,zX]
 refine aR 16 ?_
 refine aw_reg 160 (RG.go fun Q hQ=>?_)
 simp only [zS,h,simprocAttr]
 refine ⟨isByteRow_brow _,isByteRow_brow _,hQ (RG.nil ?_)⟩
 simp only [zX]
 exact Fin.scalar (.inr rfl) rfl trivial rfl trivial

theorem slices_Grow_con (n : Nat) (hn : n≤100000000000000) : Con Try.prog 102 [.c (.v (.slice none 0 0)),I n] [] (.c (.osl 0)) [.arr 5 1 [] false]:=by
 have hw0 : IntKind.i64.wrap 0 = 0:=by decide
 have hw2 : IntKind.i64.wrap (n : Int) = n:=w64 _ (by omega) (by omega)
 refine C_slices_Grow_byte_byte nl nl ?_
 simp only [cz,A_slices_Grow_byte_byte,argL,objL,List.length_nil,Nat.zero_add,zX]
 refine aR 16 ?_
 refine aR 160 ?_
 refine aw_cond _ rfl trivial (fun ht=>?_) (fun hf=>?_)
 ·exfalso;simp at ht;omega
 simp only [zX]
 refine aS 320 (fun Q hQ=>by simp only [zS,Int.sub_zero,hw0,hw2,simprocAttr];exact hQ) ?_
 refine aR 480 ?_
 refine aw_cond _ rfl trivial (fun ht=>?_) (fun hf=>?_)
 ·have hn0 : 0 < n:=by simp at ht;omega
  refine aw_reg 641 (RG.go fun Q hQ=>?_)
  simp only [zS,simprocAttr]
  refine ⟨⟨by omega,by omega⟩,by simp,hQ (RG.nil ?_)⟩
  simp only [zX]
  refine aR 960 ?_
  refine Fin.objs [] [(0,769)] (.inr rfl) rfl (by exact trivial) ?_ ?_ (by simp [objL,rlook]) (by (simp [objL,rlook];done))
  ·simp only [zL,simprocAttr]
  ·simp only [zL,simprocAttr]
   all_goals (simp)
 have hn0 : n = 0:=by simp at hf;omega
 subst hn0
 simp only [zX]
 refine aR 640 ?_
 exact Fin.ownNil (.inr rfl) rfl trivial (by decide)


def prow (p : List Nat) : List C:=[.sl (p.map brow)]

theorem flat_take (parts : List (List Nat)) (i : Nat) (hi : i < parts.length) : (parts.take (i + 1)).flatten = (parts.take i).flatten ++ parts[i]:=by
 rw [take_one parts i hi,List.flatten_append];simp

theorem flat_len (parts : List (List Nat)) (i : Nat) : (parts.take i).flatten.length≤parts.flatten.length:=by
 have h : parts.flatten = (parts.take i).flatten ++ (parts.drop i).flatten:=by rw [← List.flatten_append,List.take_append_drop]
 rw [h,List.length_append];omega

theorem slices_Concat_con (parts : List (List Nat)) (hb : parts.flatten.length≤100000000000000) (hp : parts.length≤100000000000000) : Con Try.prog 81 [.c (.sl (parts.map prow))] [] (.c (.osl 0)) [.arr 5 1 (parts.flatten.map brow) false]:=by
 refine C_slices_Concat_byte_byte nl nl ?_
 simp only [cz,A_slices_Concat_byte_byte,argL,objL,List.length_nil,zX]
 refine aR 16 ?_
 refine aR 160 ?_
 refine aR 320 ?_
 refine aw_loop (X:={ i : Nat // i≤parts.length }) (fun i=>mkSt [(0,.c (.sl (parts.map prow))),(3,I ((parts.take i.1).flatten.length : Nat)),(9,.c (.sl (parts.map prow))),(10,I parts.length),(11,I i.1)] []) (fun i=>parts.length - i.1) ⟨0,Nat.zero_le _⟩ ?_ ?_
 ·refine Le.lit [] [] _ _ ?_ ?_ ?_ ?_
  ·skip
   simp only [zL,simprocAttr]
   simp
  ·skip
   simp only [zL,simprocAttr]
  ·simp
  ·simp
 rintro ⟨i,hi⟩
 have hfl:=flat_len parts i
 simp only [zX]
 refine aR 480 ?_
 refine aw_cond _ rfl trivial (fun ht=>?_) (fun hf=>?_)
 ·have hi' : i < parts.length:=by simpa using ht
  have hr : (List.map prow parts)[(i : Int).toNat]?.getD [] = [.sl (parts[i].map brow)]:=by simp [hi',prow]
  have hfl2:=flat_len parts (i + 1)
  have hft:=flat_take parts i hi'
  have hw : IntKind.i64.wrap (((parts.take i).flatten.length : Nat) + ((parts[i].map brow).length : Int)) = ((parts.take (i + 1)).flatten.length : Nat):=by
   rw [hft] at hfl2 ⊢
   rw [List.length_append,List.length_map] at *
   rw [w64 _ (by omega) (by omega)];omega
  simp only [zX]
  refine aw_reg 640 (RG.go fun Q hQ=>?_)
  simp only [zS,hr,simprocAttr]
  refine ⟨by simp;omega,hQ (RG.nil ?_)⟩
  simp only [zX]
  refine aS 800 (fun Q hQ=>by simp only [zS,hw,simprocAttr];exact hQ) ?_
  refine aR 960 ?_
  refine aw_cond _ rfl trivial (fun ht2=>?_) (fun hf2=>?_)
  ·exfalso;simp at ht2;omega
  simp only [zX]
  refine aR 1200 ?_
  refine ⟨⟨i + 1,hi'⟩,?_,by simp;omega⟩
  refine Le.lit [] [] _ _ ?_ ?_ ?_ ?_
  ·skip
   simp only [zL,simprocAttr]
   rw [w64 _ (by omega) (by omega)];rfl
  ·skip
   simp only [zL,simprocAttr]
  ·simp
  ·simp
 have hi' : i = parts.length:=by simp at hf;omega
 subst hi'
 rw [List.take_length]
 simp only [zX,↓reduceIte]
 refine aB 640 ?_
 refine rO [] [] (slices_Grow_con parts.flatten.length hb) ?_
 refine aE ?_
 refine aR 960 ?_
 refine aw_loop (X:={ i : Nat // i≤parts.length }) (fun i=>mkSt [(6,.c (.osl 1000)),(25,.c (.sl (parts.map prow))),(26,I parts.length),(27,I i.1)] [(1000,.arr 5 1 ((parts.take i.1).flatten.map brow) false)]) (fun i=>parts.length - i.1) ⟨0,Nat.zero_le _⟩ ?_ ?_
 ·refine Le.lit [] [(1000,656)] _ _ ?_ ?_ ?_ ?_
  ·skip
   simp only [zL,simprocAttr]
   simp
  ·skip
   simp only [zL,simprocAttr]
   simp
  ·simp
  ·simp
 rintro ⟨i,hi⟩
 have hfl:=flat_len parts i
 simp only [zX]
 refine aR 1480 ?_
 refine aw_cond _ rfl trivial (fun ht=>?_) (fun hf=>?_)
 ·have hi' : i < parts.length:=by simpa using ht
  have hr : (List.map prow parts)[(i : Int).toNat]?.getD [] = [.sl (parts[i].map brow)]:=by simp [hi',prow]
  have hfl2:=flat_len parts (i + 1)
  have hft:=flat_take parts i hi'
  simp only [zX]
  refine aw_reg 1640 (RG.go fun Q hQ=>?_)
  simp only [zS,hr,simprocAttr]
  refine ⟨by simp;omega,hQ (RG.nil ?_)⟩
  simp only [zX]
  refine aw_reg 1800 (RG.go fun Q hQ=>?_)
  simp only [zS,simprocAttr]
  refine ⟨⟨brow_len _,by rw [hft,List.length_append] at hfl2;simp only [List.length_map];omega⟩,hQ (RG.nil ?_)⟩
  simp only [zX]
  refine aR 2200 ?_
  refine ⟨⟨i + 1,hi'⟩,?_,by simp;omega⟩
  refine Le.lit [] [(1000,1832)] _ _ ?_ ?_ ?_ ?_
  ·skip
   simp only [zL,simprocAttr]
   rw [w64 _ (by omega) (by omega)];rfl
  ·skip
   simp only [zL,simprocAttr]
   exact ⟨by rw [hft,List.map_append],drows_brow _⟩
  ·simp
  ·simp
 have hi' : i = parts.length:=by simp at hf;omega
 subst hi'
 simp only [zX,↓reduceIte]
 refine aR 1640 ?_
 refine Fin.objs [] [(0,1000)] (.inr rfl) rfl (by exact trivial) ?_ ?_ (by simp [objL,rlook]) (by (simp [objL,rlook];done))
 ·simp only [zL,simprocAttr]
 ·simp only [zL,simprocAttr]
  all_goals (exact ⟨by rw [List.take_length],drows_brow _⟩)

theorem pack_Join_con (parts : List (List Nat)) (hb : parts.flatten.length≤100000000000000) (hp : parts.length≤100000000000000) : Con Try.prog 42 [.c (.sl (parts.map prow))] [] (.c (.osl 0)) [.arr 5 1 (parts.flatten.map brow) false]:=by
 refine C_pack_Join nl nl ?_
 simp only [cz,A_pack_Join,argL,objL,List.length_nil,zX]
 refine aR 16 ?_
 refine aB 160 ?_
 refine RG.callo [] [] (slices_Concat_con parts hb hp) (.mk (tr_cons tr_sl tr_nil) (trivial) (by simp) (by simp) (trivial) (by simp [lkE_nil]) (by simp only [List.mem_singleton,forall_eq,Ent.pure];exact drows_brow _) (by simp) (by simp)) ?_
 refine aE ?_
 refine Fin.objs [] [(0,176)] (.inr rfl) rfl (by exact trivial) ?_ ?_ (by simp [objL,rlook]) (by (simp [objL,rlook];done))
 ·simp only [zL,simprocAttr]
 ·simp only [zL,simprocAttr]
  all_goals (exact drows_brow _)

end Go.Abs

namespace Go.Abs
open Go Go.Proofs
set_option maxRecDepth 100000
set_option linter.unusedSimpArgs false

theorem slices_Clone_api_Version_api_Version_con (rows : List (List C)) (hd : isDRows rows) (h1 : ∀ r ∈ rows,r.length = 2) (hb : rows.length≤1000000) : Con Try.prog 84 [.c (.sl rows)] [] (.c (.osl 0)) [.arr 111 2 rows false]:=by
 by_cases hr : rows = []
 ·subst hr
  refine Con.split1 ?_ fun ad cap=>?_
  ·skip
   refine C_slices_Clone_api_Version_api_Version nl nl ?_
   simp only [cz,A_slices_Clone_api_Version_api_Version,argL,objL,List.length_nil,zX]
   refine aR 16 ?_
   refine aR 160 ?_
   refine aT ?_
   refine aR 320 ?_
   exact Fin.ownNil (.inr rfl) rfl trivial (by decide)
  ·skip
   refine C_slices_Clone_api_Version_api_Version nl nl ?_
   simp only [cz,A_slices_Clone_api_Version_api_Version,argL,objL,List.length_nil,zX]
   refine aR 16 ?_
   refine aR 160 ?_
   refine aF ?_
   refine aw_reg 320 (RG.go fun Q hQ=>?_)
   simp only [zS,simprocAttr]
   refine ⟨by simp,hQ (RG.nil ?_)⟩
   simp only [zX]
   refine Fin.objs [] [(0,352)] (.inr rfl) rfl trivial ?_ ?_ ?_ ?_
   ·skip
    simp only [zL,simprocAttr]
   ·skip
    simp only [zL,simprocAttr]
    simp
   ·simp [objL]
   ·simp
 ·skip
  refine C_slices_Clone_api_Version_api_Version nl nl ?_
  simp only [cz,A_slices_Clone_api_Version_api_Version,argL,objL,List.length_nil,zX]
  refine aR 16 ?_
  refine aw_reg 160 (RG.go fun Q hQ=>?_)
  simp only [zS,simprocAttr]
  refine ⟨hr,hQ (RG.nil ?_)⟩
  simp only [zX]
  refine aF ?_
  refine aw_reg 320 (RG.go fun Q hQ=>?_)
  simp only [zS,simprocAttr]
  refine ⟨⟨h1,by omega⟩,hQ (RG.nil ?_)⟩
  simp only [zX]
  refine Fin.objs [] [(0,352)] (.inr rfl) rfl trivial ?_ ?_ ?_ ?_
  ·skip
   simp only [zL,simprocAttr]
  ·skip
   simp only [zL,simprocAttr]
   exact hd
  ·simp [objL]
  ·simp



theorem slices_Clone_LLapi_Version_api_Version_con (rows : List (List C)) (hd : isDRows rows) (h1 : ∀ r ∈ rows,r.length = 1) (hb : rows.length≤1000000) : Con Try.prog 83 [.c (.sl rows)] [] (.c (.osl 0)) [.arr 101 1 rows false]:=by
 by_cases hr : rows = []
 ·subst hr
  refine Con.split1 ?_ fun ad cap=>?_
  ·skip
   refine C_slices_Clone_LLapi_Version_api_Version nl nl ?_
   simp only [cz,A_slices_Clone_LLapi_Version_api_Version,argL,objL,List.length_nil,zX]
   refine aR 16 ?_
   refine aR 160 ?_
   refine aT ?_
   refine aR 320 ?_
   exact Fin.ownNil (.inr rfl) rfl trivial (by decide)
  ·skip
   refine C_slices_Clone_LLapi_Version_api_Version nl nl ?_
   simp only [cz,A_slices_Clone_LLapi_Version_api_Version,argL,objL,List.length_nil,zX]
   refine aR 16 ?_
   refine aR 160 ?_
   refine aF ?_
   refine aw_reg 320 (RG.go fun Q hQ=>?_)
   simp only [zS,simprocAttr]
   refine ⟨by simp,hQ (RG.nil ?_)⟩
   simp only [zX]
   refine Fin.objs [] [(0,352)] (.inr rfl) rfl trivial ?_ ?_ ?_ ?_
   ·skip
    simp only [zL,simprocAttr]
   ·skip
    simp only [zL,simprocAttr]
    simp
   ·simp [objL]
   ·simp
 ·skip
  refine C_slices_Clone_LLapi_Version_api_Version nl nl ?_
  simp only [cz,A_slices_Clone_LLapi_Version_api_Version,argL,objL,List.length_nil,zX]
  refine aR 16 ?_
  refine aw_reg 160 (RG.go fun Q hQ=>?_)
  simp only [zS,simprocAttr]
  refine ⟨hr,hQ (RG.nil ?_)⟩
  simp only [zX]
  refine aF ?_
  refine aw_reg 320 (RG.go fun Q hQ=>?_)
  simp only [zS,simprocAttr]
  refine ⟨⟨h1,by omega⟩,hQ (RG.nil ?_)⟩
  simp only [zX]
  refine Fin.objs [] [(0,352)] (.inr rfl) rfl trivial ?_ ?_ ?_ ?_
  ·skip
   simp only [zL,simprocAttr]
  ·skip
   simp only [zL,simprocAttr]
   exact hd
  ·simp [objL]
  ·simp




end Go.Abs

namespace Go.Abs
open Go Go.Proofs
set_option maxRecDepth 100000
set_option linter.unusedSimpArgs false
set_option maxHeartbeats 8000000

structure CH where
 vol : Int
 chunk : Int
 count : Int
 size : Int
 mark : Int
 floor : Int
 hist : List (List IT)
def hrow (h : List IT) : List C:=[.sl (h.map irow)]
def chO (vol chunk count size mark floor : Int) (h : C) : List C:=[.v (.int .i64 vol),.v (.int .i64 chunk),.v (.int .i64 count),.v (.int .i64 size),.v (.int .i64 mark),.v (.int .i64 floor),h]
def chC (c : CH) : List C:=chO c.vol c.chunk c.count c.size c.mark c.floor (.sl (c.hist.map hrow))
theorem ch_eq {a b : CH} : a = b ↔ a.vol = b.vol∧a.chunk = b.chunk∧a.count = b.count∧a.size = b.size∧a.mark = b.mark∧a.floor = b.floor∧a.hist = b.hist:=by cases a;cases b;simp
instance : DecidableEq CH:=fun _ _=>decidable_of_iff _ ch_eq.symm
theorem drows_hrow (l : List (List IT)) : isDRows (l.map hrow):=by
 intro r hr c hc
 obtain ⟨p,_,rfl⟩:=List.mem_map.1 hr
 simp only [hrow,List.mem_singleton] at hc
 subst hc;rfl
theorem hrow_len (l : List (List IT)) : ∀ r ∈ l.map hrow,r.length = 1:=by
 intro r hr;obtain ⟨p,_,rfl⟩:=List.mem_map.1 hr;rfl
theorem chC_pure (c : CH) : (SV.agg (chC c)).pureD:=by
 intro x hx
 simp only [chC,chO,List.mem_cons,List.not_mem_nil,or_false] at hx
 rcases hx with rfl | rfl | rfl | rfl | rfl | rfl | rfl <;> rfl

def shapeC (vol chunk count size : Int) : Bool:=inR vol 0 7 && inR chunk 0 255 && inR count 1 256 && inR size 1 32

theorem chunk_within_con (n a b : Int) : Con Try.prog 47 [I n,I a,I b] [] (B (inR n a b)) []:=by
 refine C_chunk_within nl nl ?_
 simp only [cz,A_chunk_within,argL,objL,List.length_nil,Nat.zero_add,zX,simprocAttr]
 refine aR 16 ?_
 refine aR 64 ?_
 refine Fin.b (.inr rfl) rfl trivial ?_
 simp [inR]

theorem chunk_shape_con (vol chunk count size : Int) : Con Try.prog 46 [I vol,I chunk,I count,I size] [] (B (shapeC vol chunk count size)) []:=by
 refine C_chunk_shape nl nl ?_
 simp only [cz,A_chunk_shape,argL,objL,List.length_nil,Nat.zero_add,zX,simprocAttr]
 refine aR 16 ?_
 refine aB 64 ?_
 refine rC [] (chunk_within_con vol 0 7) ?_
 refine aM ?_
 refine rG _ _ (chunk_within_con chunk 0 255) ?_
 refine aM ?_
 refine rG _ _ (chunk_within_con count 1 256) ?_
 refine aM ?_
 refine rG _ _ (chunk_within_con size 1 32) ?_
 refine aE ?_
 refine Fin.b (.inr rfl) rfl trivial ?_
 rfl

theorem mementoref13_shape_con (vol chunk count size : Int) : Con Try.prog 49 [I vol,I chunk,I count,I size] [] (B (shapeC vol chunk count size)) []:=by
 refine C_mementoref13_shape nl nl ?_
 simp only [cz,A_mementoref13_shape,argL,objL,List.length_nil,Nat.zero_add,zX,simprocAttr]
 refine aR 16 ?_
 refine aR 64 ?_
 refine Fin.b (.inr rfl) rfl trivial ?_
 rw [Bool.eq_iff_iff];simp [shapeC,inR];omega

theorem mementoref13_time_con (t : Int) : Con Try.prog 100 [I t] [] (B (inR t 0 1099511627776)) []:=by
 refine C_mementoref13_time nl nl ?_
 simp only [cz,A_mementoref13_time,argL,objL,List.length_nil,zX]
 refine aR 16 ?_
 refine aR 64 ?_
 refine Fin.b (.inr rfl) rfl trivial ?_
 rw [Bool.eq_iff_iff];simp [inR]

theorem chunk_items_con (l : List IT) (count size : Int) (hb : l.length≤1000000) (hd : ∀ x ∈ l,x.d.length≤1000000) : Con Try.prog 48 [.c (.sl (l.map irow)),I count,I size] [] (B (itemsR count size l)) []:=by
 refine C_chunk_items nl nl ?_
 simp only [cz,A_chunk_items,argL,objL,List.length_nil,Nat.zero_add,zX,simprocAttr]
 refine aR 16 ?_
 refine aR 64 ?_
 refine aS 128 (fun Q hQ=>by simp (disch:=intros;contradiction) only [zS,zW,simprocAttr];exact hQ) ?_
 refine aw_loopK (X:={ i : Nat // i≤l.length∧(l.take i).all (itOk count size) = true∧onceB (l.take i) = true }) [0,1,2,7,11,12] (fun i=>[(13,I i.1)]) [] (fun i=>[(64,.mp false (seenM (l.take i.1)))]) (fun i=>l.length - i.1) (⟨0,by omega,rfl,rfl⟩) ?_ ?_
 ·skip
  simp only [keepS,keepE,lk_cons,List.cons_append,List.nil_append,simprocAttr]
  refine Le.lit [] [] _ _ ?_ ?_ ?_ ?_
  ·simp only [zL,simprocAttr]
  ·simp only [zL,↓reduceIte]
   all_goals (rfl;skip)
  ·simp [rlook]
  ·(simp;done)
 rintro ⟨i,hi,hall,honce⟩
 simp only [keepS,keepE,lk_cons,List.cons_append,List.nil_append,simprocAttr]
 simp only [zX]
 refine aR 208 ?_
 refine aw_cond _ rfl trivial (fun ht=>?_) (fun hf=>?_)
 ·skip
  try simp at ht
  simp only [zX]
  have hi' : i < l.length:=by omega
  have hdl:=hd _ (List.getElem_mem hi')
  have hmf:=mfind_seen l[i].b (l.take i)
  have hk:=seen_keys (l.take i) l[i].b
  have hone : List.length ((if ((l.take i).any fun y=>decide (y.b = l[i].b)) = true then some [C.v (.bool true)] else none).getD [C.v (.bool false)]) = 1:=by split <;> rfl
  have hbb : ((((if ((l.take i).any fun y=>decide (y.b = l[i].b)) = true then some [C.v (.bool true)] else none).getD [C.v (.bool false)])[0]?).getD (C.v (.bool false))) = C.v (.bool ((l.take i).any fun y=>decide (y.b = l[i].b))):=by
   cases (l.take i).any fun y=>decide (y.b = l[i].b) <;> rfl
  refine aS 256 (fun Q hQ=>by simp (disch:=first | (intros;contradiction) | omega | (simp only [zN];omega)) only [zS,zW,irow,itC,simprocAttr];repeat refine ⟨by (omega),?_⟩;exact hQ) ?_
  refine aw_reg 352 (RG.go fun Q hQ=>?_)
  simp (disch:=intros;contradiction) only [zS,zW,hmf,hone,hbb,simprocAttr]
  repeat refine ⟨by (first | omega | (simp;done)),?_⟩
  refine hQ (RG.nil ?_)
  simp only [zX]
  refine aw_cond _ rfl trivial (fun ht=>?_) (fun hf=>?_)
  ·skip
   simp only [zX]
   refine aR 736 ?_
   refine Fin.b (.inr rfl) rfl trivial ?_
   rw [eq_comm,Bool.eq_false_iff]
   intro hs
   simp only [itemsR,Bool.and_eq_true] at hs
   have h1:=List.all_eq_true.1 hs.1.2 _ (List.getElem_mem hi')
   have h2:=onceB_take hs.2 (i + 1)
   rw [take_one l i hi',onceB_append] at h2
   simp only [Bool.and_eq_true,Bool.not_eq_true'] at h2
   rw [h2.2] at ht
   simp [itOk] at h1 ht
   omega
  simp only [zX]
  have hsn : ((l.take i).any fun y=>decide (y.b = l[i].b)) = false:=by
   cases hh : (l.take i).any fun y=>decide (y.b = l[i].b) with
   | false=>rfl
   | true=>rw [hh] at hf;simp at hf
  have hok : itOk count size l[i] = true:=by
   rw [hsn] at hf
   simp at hf
   simp [itOk];omega
  have hms:=mset_seen l[i] (l.take i) hsn
  rw [← take_one l i hi'] at hms
  refine aw_reg 784 (RG.go fun Q hQ=>?_)
  simp (disch:=intros;contradiction) only [zS,hms,simprocAttr]
  refine ⟨⟨by simp [C.isD],hk⟩,hQ (RG.nil ?_)⟩
  simp only [zX]
  refine aS 880 (fun Q hQ=>by simp (disch:=first | (intros;contradiction) | omega | (simp only [zN];omega)) only [zS,zW,simprocAttr];exact hQ) ?_
  refine ⟨⟨i + 1,hi',by rw [all_succ hi',hall,hok];rfl,by rw [take_one l i hi',onceB_append,honce,hsn];rfl⟩,?_,by first | omega | (simp only;omega)⟩
  refine Le.lit [] [] _ _ ?_ ?_ ?_ ?_
  ·simp only [zL,simprocAttr]
   all_goals (try ((repeat' (rfl))))
  ·simp only [zL,↓reduceIte]
   all_goals (rfl;skip)
  ·simp [rlook]
  ·(simp;done)
 try simp at hf
 simp only [zX,↓reduceIte]
 have hi' : i = l.length:=by omega
 rw [hi',List.take_length] at hall honce
 refine aS 944 (fun Q hQ=>by simp (disch:=intros;contradiction) only [zS,zW,simprocAttr];exact hQ) ?_
 refine Fin.b (.inr rfl) rfl trivial ?_
 rw [Bool.eq_iff_iff];simp [itemsR,hall,honce];omega

def hst (prev : Int) : List IT→Bool
 | []=>true
 | x :: l=>decide (prev < x.b) && decide (x.b≤1099511627776) && hst x.b l
def histR (l : List IT) : Bool:=hst 0 l
def prevB (l : List IT) (i : Nat) (h : i≤l.length) : Int:=if h0 : i = 0 then 0 else (l[i - 1]'(by omega)).b

theorem hist_Right_con (l : List IT) (hl : l.length≤1000000) : Con Try.prog 62 [.c (.sl (l.map irow))] [] (B (histR l)) []:=by
 refine C_hist_Right nl nl ?_
 simp only [cz,A_hist_Right,argL,objL,List.length_nil,zX]
 refine aR 16 ?_
 refine aS 64 (fun Q hQ=>by simp (disch:=intros;contradiction) only [zS,zW,simprocAttr];exact hQ) ?_
 refine aw_loopK (X:={ i : Nat // ∃ h : i≤l.length,0≤prevB l i h∧hst (prevB l i h) (l.drop i) = histR l }) [0,5,6] (fun i=>[(7,I i.1)]) [] (fun i=>[]) (fun i=>l.length - i.1) (⟨0,by omega,by simp [prevB],rfl⟩) ?_ ?_
 ·skip
  simp only [keepS,keepE,lk_cons,List.cons_append,List.nil_append,simprocAttr]
  refine Le.lit [] [] _ _ ?_ ?_ ?_ ?_
  ·simp only [zL,simprocAttr]
  ·simp only [zL,simprocAttr]
  ·simp [rlook]
  ·(simp;done)
 rintro ⟨i,hi,hpos,hinv⟩
 simp only [keepS,keepE,lk_cons,List.cons_append,List.nil_append,simprocAttr]
 simp only [zX]
 refine aR 144 ?_
 refine aw_cond _ rfl trivial (fun ht=>?_) (fun hf=>?_)
 ·skip
  try simp at ht
  simp only [zX]
  have hi' : i < l.length:=by omega
  rw [drop_get hi',hst] at hinv
  refine aS 192 (fun Q hQ=>by simp (disch:=first | (intros;contradiction) | omega | (simp only [zN];omega)) only [zS,zW,irow,itC,simprocAttr];repeat refine ⟨by (omega),?_⟩;exact hQ) ?_
  by_cases h0 : i = 0
  ·skip
   subst h0
   simp only [prevB,dif_pos] at hinv
   refine aw_draw 320 (RG.go fun Q hQ=>?_)
   simp (disch:=first | (intros;contradiction) | omega | (simp only [zN];omega)) only [zS,zW,irow,itC,simprocAttr]
   repeat refine ⟨by ((simp;done)),?_⟩
   refine hQ (RG.nil ⟨by decide +kernel,?_⟩)
   simp only [zX]
   refine aw_cond _ rfl trivial (fun ht=>?_) (fun hf=>?_)
   ·skip
    try simp at ht
    simp only [zX]
    refine aR 720 ?_
    refine Fin.b (.inr rfl) rfl trivial ?_
    rw [← hinv,eq_comm];simp;omega
   try simp at hf
   simp only [zX]
   have e : hst l[0].b (l.drop 1) = histR l:=by rw [← hinv];simp;omega
   refine aS 768 (fun Q hQ=>by simp (disch:=first | (intros;contradiction) | omega | (simp only [zN];omega)) only [zS,zW,simprocAttr];exact hQ) ?_
   refine ⟨⟨1,hi',by simp [prevB];omega,by simpa [prevB] using e⟩,?_,by first | omega | (simp only;omega)⟩
   refine Le.lit [] [] _ _ ?_ ?_ ?_ ?_
   ·simp only [zL,simprocAttr]
   ·simp only [zL]
   ·simp [rlook]
   ·(simp;done)
  have hp : prevB l i hi = (l[i - 1]'(by omega)).b:=by unfold prevB;rw [dif_neg h0]
  rw [hp] at hinv hpos
  refine aw_draw 832 (RG.go fun Q hQ=>?_)
  simp (disch:=first | (intros;contradiction) | omega | (simp only [zN];omega)) only [zS,zW,irow,itC,simprocAttr]
  repeat refine ⟨by (first | (simp;omega) | (simp;done)),?_⟩
  refine hQ (RG.nil ⟨by decide +kernel,?_⟩)
  simp only [zX]
  refine aw_cond _ rfl trivial (fun ht=>?_) (fun hf=>?_)
  ·skip
   try simp at ht
   simp only [zX]
   refine aR 1232 ?_
   refine Fin.b (.inr rfl) rfl trivial ?_
   rw [← hinv,eq_comm,Bool.eq_false_iff];intro h;simp only [Bool.and_eq_true,decide_eq_true_eq] at h;obtain ⟨⟨h1,h2⟩,_⟩:=h;rcases ht with ht | ht <;> omega
  try simp at hf
  simp only [zX]
  have hf1:=hf.1
  have hf2:=hf.2 (by omega)
  have e : hst l[i].b (l.drop (i + 1)) = histR l:=by rw [← hinv];simp;omega
  refine aS 1280 (fun Q hQ=>by simp (disch:=first | (intros;contradiction) | omega | (simp only [zN];omega)) only [zS,zW,simprocAttr];exact hQ) ?_
  refine ⟨⟨i + 1,hi',by simp [prevB];omega,by simpa [prevB] using e⟩,?_,by first | omega | (simp only;omega)⟩
  refine Le.lit [] [] _ _ ?_ ?_ ?_ ?_
  ·simp only [zL,simprocAttr]
   all_goals (try ((repeat' (rfl))))
  ·simp only [zL]
  ·simp [rlook]
  ·(simp;done)
 try simp at hf
 simp only [zX,↓reduceIte]
 obtain rfl : i = l.length:=by omega
 rw [List.drop_length] at hinv
 refine aR 1344 ?_
 refine Fin.b (.inr rfl) rfl trivial ?_
 rw [← hinv];rfl

theorem mementoref13_HistRight_con (l : List IT) (hl : l.length≤1000000) : Con Try.prog 101 [.c (.sl (l.map irow))] [] (B (histR l)) []:=by
 refine C_mementoref13_HistRight nl nl ?_
 simp only [cz,A_mementoref13_HistRight,argL,objL,List.length_nil,zX]
 refine aR 16 ?_
 refine aR 64 ?_
 refine aw_loopK (X:={ i : Nat // ∃ h : i≤l.length,0≤prevB l i h∧hst (prevB l i h) (l.drop i) = histR l }) [0] (fun i=>[(3,I i.1)]) [] (fun i=>[]) (fun i=>l.length - i.1) (⟨0,by omega,by simp [prevB],rfl⟩) ?_ ?_
 ·skip
  simp only [keepS,keepE,lk_cons,List.cons_append,List.nil_append,↓reduceIte]
  refine Le.lit [] [] _ _ ?_ ?_ ?_ ?_
  ·simp only [zL,simprocAttr]
  ·simp only [zL,simprocAttr]
  ·simp [rlook]
  ·(simp;done)
 rintro ⟨i,hi,hpos,hinv⟩
 simp only [keepS,keepE,lk_cons,List.cons_append,List.nil_append,↓reduceIte]
 simp only [zX]
 refine aS 112 (fun Q hQ=>by simp (disch:=intros;contradiction) only [zS,zW,simprocAttr];exact hQ) ?_
 refine aw_cond _ rfl trivial (fun ht=>?_) (fun hf=>?_)
 ·skip
  try simp at ht
  simp only [zX]
  have hi' : i < l.length:=by omega
  rw [drop_get hi',hst] at hinv
  by_cases h0 : i = 0
  ·skip
   subst h0
   simp only [prevB,dif_pos] at hinv
   refine aw_draw 208 (RG.go fun Q hQ=>?_)
   simp (disch:=first | (intros;contradiction) | omega | (simp only [zN];omega)) only [zS,zW,irow,itC,simprocAttr]
   repeat refine ⟨by (first | omega | (simp;omega) | (simp;done)),?_⟩
   refine hQ (RG.nil ⟨by decide +kernel,?_⟩)
   simp only [zX]
   refine aw_cond _ rfl trivial (fun ht=>?_) (fun hf=>?_)
   ·skip
    try simp at ht
    simp only [zX]
    refine aR 752 ?_
    refine Fin.b (.inr rfl) rfl trivial ?_
    rw [← hinv,eq_comm];simp;omega
   try simp at hf
   simp only [zX]
   have e : hst l[0].b (l.drop 1) = histR l:=by rw [← hinv];simp;omega
   refine aS 800 (fun Q hQ=>by simp (disch:=first | (intros;contradiction) | omega | (simp only [zN];omega)) only [zS,zW,simprocAttr];exact hQ) ?_
   refine ⟨⟨1,hi',by simp [prevB];omega,by simpa [prevB] using e⟩,?_,by first | omega | (simp only;omega)⟩
   refine Le.lit [] [] _ _ ?_ ?_ ?_ ?_
   ·simp only [zL,simprocAttr]
   ·simp only [zL,simprocAttr]
   ·simp [rlook]
   ·(simp;done)
  have hp : prevB l i hi = (l[i - 1]'(by omega)).b:=by unfold prevB;rw [dif_neg h0]
  rw [hp] at hinv hpos
  refine aw_draw 880 (RG.go fun Q hQ=>?_)
  simp (disch:=first | (intros;contradiction) | omega | (simp only [zN];omega)) only [zS,zW,irow,itC,simprocAttr]
  repeat refine ⟨by (first | omega | (simp;omega) | (simp;done)),?_⟩
  refine hQ (RG.nil ⟨by decide +kernel,?_⟩)
  simp only [zX]
  refine aw_cond _ rfl trivial (fun ht=>?_) (fun hf=>?_)
  ·skip
   try simp at ht
   simp only [zX]
   refine aR 1424 ?_
   refine Fin.b (.inr rfl) rfl trivial ?_
   rw [← hinv,eq_comm,Bool.eq_false_iff];intro h;simp only [Bool.and_eq_true,decide_eq_true_eq] at h;obtain ⟨⟨h1,h2⟩,_⟩:=h;rcases ht with ht | ht <;> omega
  try simp at hf
  simp only [zX]
  have hf1:=hf.1
  have hf2:=hf.2 (by omega)
  have e : hst l[i].b (l.drop (i + 1)) = histR l:=by rw [← hinv];simp;omega
  refine aS 1472 (fun Q hQ=>by simp (disch:=first | (intros;contradiction) | omega | (simp only [zN];omega)) only [zS,zW,simprocAttr];exact hQ) ?_
  refine ⟨⟨i + 1,hi',by simp [prevB];omega,by simpa [prevB] using e⟩,?_,by first | omega | (simp only;omega)⟩
  refine Le.lit [] [] _ _ ?_ ?_ ?_ ?_
  ·simp only [zL,simprocAttr]
   all_goals (try ((repeat' (rfl))))
  ·simp only [zL,simprocAttr]
  ·simp [rlook]
  ·(simp;done)
 try simp at hf
 simp only [zX,↓reduceIte]
 obtain rfl : i = l.length:=by omega
 rw [List.drop_length] at hinv
 refine aw_reg 1552 (RG.go fun Q hQ=>?_)
 simp (disch:=intros;contradiction) only [zS,simprocAttr]
 refine hQ (RG.nil ?_)
 simp only [zX]
 refine Fin.b (.inr rfl) rfl trivial ?_
 rw [← hinv];rfl

def wsP (count size to last : Int) : List WR→Bool
 | []=>true
 | w :: l=>decide (last < w.s) && decide (w.s≤to) && itemsR count size w.its && wsP count size to w.s l
def pushR (p : PU) : Bool:=shapeC p.vol p.chunk p.count p.size && inR p.to 0 1099511627776 && inR p.frm 0 p.to && inR p.floor 0 p.to && decide (p.ws.length≤4) && wsP p.count p.size p.to p.frm p.ws
def lastW (f : Int) (l : List WR) (i : Nat) (h : i≤l.length) : Int:=if h0 : i = 0 then f else (l[i - 1]'(by omega)).s
def Pok (p : PU) : Prop:=p.ws.length≤1000000∧∀ w ∈ p.ws,w.its.length≤1000000∧∀ x ∈ w.its,x.d.length≤1000000

theorem chunk_PushRight_con (p : PU) (ok : Pok p) : Con Try.prog 16 [.agg (pushC p)] [] (B (pushR p)) []:=by
 obtain ⟨ok1,ok2⟩:=ok
 refine C_chunk_PushRight nl nl ?_
 simp only [cz,A_chunk_PushRight,argL,objL,List.length_nil,zX]
 refine aS 16 (fun Q hQ=>by simp (disch:=intros;contradiction) only [zS,pushC,puC,simprocAttr];exact hQ) ?_
 refine aB 80 ?_
 refine rC [] (chunk_shape_con p.vol p.chunk p.count p.size) ?_
 refine aM ?_
 refine rG _ _ (chunk_within_con p.to 0 1099511627776) ?_
 refine aMs (fun Q hQ=>by simp (disch:=intros;contradiction) only [zS,simprocAttr];repeat refine ⟨by ((simp;done)),?_⟩;exact hQ) ?_
 refine rG _ _ (chunk_within_con p.frm 0 p.to) ?_
 refine aMs (fun Q hQ=>by simp (disch:=intros;contradiction) only [zS,simprocAttr];repeat refine ⟨by ((simp;done)),?_⟩;exact hQ) ?_
 refine rG _ _ (chunk_within_con p.floor 0 p.to) ?_
 refine RG.go fun Q hQ=>?_
 simp (disch:=intros;contradiction) only [zS,zW,simprocAttr]
 repeat refine ⟨by ((simp;done)),?_⟩
 refine hQ (RG.nil ?_)
 simp only [zX]
 refine aw_cond _ rfl trivial (fun ht=>?_) (fun hf=>?_)
 ·skip
  try simp at ht
  simp only [zX]
  refine aR 720 ?_
  refine Fin.b (.inr rfl) rfl trivial ?_
  rw [eq_comm,Bool.eq_false_iff];intro h;simp only [pushR,Bool.and_eq_true] at h;simp [h] at ht;simp at h;omega
 try simp at hf
 simp only [zX]
 have hpre : (shapeC p.vol p.chunk p.count p.size && inR p.to 0 1099511627776 && inR p.frm 0 p.to && inR p.floor 0 p.to && decide (p.ws.length≤4)) = true:=by
  simp only [Bool.and_eq_true];simp at hf ⊢;simp [hf];omega
 have hR : pushR p = wsP p.count p.size p.to p.frm p.ws:=by unfold pushR;rw [hpre];rfl
 rw [hR]
 refine aR 768 ?_
 refine aS 848 (fun Q hQ=>by simp (disch:=intros;contradiction) only [zS,zW,simprocAttr];exact hQ) ?_
 refine aw_loopK (X:={ i : Nat // ∃ h : i≤p.ws.length,wsP p.count p.size p.to (lastW p.frm p.ws i h) (p.ws.drop i) = wsP p.count p.size p.to p.frm p.ws }) [1,47,48] (fun i=>[(3,I (lastW p.frm p.ws i.1 i.2.1)),(49,I i.1)]) [16] (fun i=>[]) (fun i=>p.ws.length - i.1) (⟨0,by omega,rfl⟩) ?_ ?_
 ·skip
  simp only [keepS,keepE,Option.getD_some,lk_cons,lkE_cons,List.cons_append,List.nil_append,simprocAttr]
  refine Le.lit [] [] _ _ ?_ ?_ ?_ ?_
  ·simp only [zL,simprocAttr]
   all_goals (try ((repeat' (rfl))))
  ·simp only [zL,↓reduceIte]
  ·simp [rlook]
  ·(simp;done)
 rintro ⟨i,hi,hinv⟩
 simp only [keepS,keepE,Option.getD_some,lk_cons,lkE_cons,List.cons_append,List.nil_append,simprocAttr]
 simp only [zX]
 refine aR 944 ?_
 refine aw_cond _ rfl trivial (fun ht=>?_) (fun hf=>?_)
 ·skip
  try simp at ht
  simp only [zX]
  have hi' : i < p.ws.length:=by omega
  rw [drop_get hi',wsP] at hinv
  obtain ⟨k1,k2⟩:=ok2 _ (List.getElem_mem hi')
  have cI:=chunk_items_con p.ws[i].its p.count p.size k1 k2
  refine aS 992 (fun Q hQ=>by simp (disch:=first | (intros;contradiction) | omega | (simp only [zN];omega)) only [zS,zW,wrow,wrC,simprocAttr];repeat refine ⟨by (omega),?_⟩;exact hQ) ?_
  refine aBs 1088 (fun Q hQ=>by simp (disch:=intros;contradiction) only [zS,simprocAttr];repeat refine ⟨by ((simp;done)),?_⟩;exact hQ) ?_
  refine rG _ _ (cI) ?_
  refine aEs (fun Q hQ=>by simp (disch:=intros;contradiction) only [zS,simprocAttr];repeat refine ⟨by ((simp;done)),?_⟩;exact hQ) ?_
  refine aw_cond _ rfl trivial (fun ht=>?_) (fun hf=>?_)
  ·skip
   try simp at ht
   simp only [zX]
   refine aR 1456 ?_
   refine Fin.b (.inr rfl) rfl trivial ?_
   rw [← hinv,eq_comm,Bool.eq_false_iff];intro h;simp only [Bool.and_eq_true] at h;simp [h] at ht;simp at h;omega
  try simp at hf
  simp only [zX]
  have e : wsP p.count p.size p.to p.ws[i].s (p.ws.drop (i + 1)) = wsP p.count p.size p.to p.frm p.ws:=by rw [← hinv];simp at hf ⊢;simp [hf] <;> omega
  refine aR 1504 ?_
  refine aS 1584 (fun Q hQ=>by simp (disch:=first | (intros;contradiction) | omega | (simp only [zN];omega)) only [zS,zW,simprocAttr];exact hQ) ?_
  refine ⟨⟨i + 1,hi',by simpa [lastW] using e⟩,?_,by first | omega | (simp only;omega)⟩
  refine Le.lit [] [] _ _ ?_ ?_ ?_ ?_
  ·simp only [zL,simprocAttr]
   all_goals (try ((repeat' (first | rfl | refine ⟨?_,?_⟩))))
  ·simp only [zL,↓reduceIte]
  ·simp [rlook]
  ·(simp;done)
 try simp at hf
 simp only [zX,↓reduceIte]
 obtain rfl : i = p.ws.length:=by omega
 rw [List.drop_length] at hinv
 refine aw_reg 1648 (RG.go fun Q hQ=>?_)
 simp (disch:=intros;contradiction) only [zS,simprocAttr]
 refine hQ (RG.nil ?_)
 simp only [zX]
 refine Fin.b (.inr rfl) rfl trivial ?_
 rw [← hinv];rfl

theorem mementoref13_PushRight_con (p : PU) (ok : Pok p) : Con Try.prog 17 [.agg (pushC p)] [] (B (pushR p)) []:=by
 obtain ⟨ok1,ok2⟩:=ok
 refine C_mementoref13_PushRight nl nl ?_
 simp only [cz,A_mementoref13_PushRight,argL,objL,List.length_nil,zX]
 refine aS 16 (fun Q hQ=>by simp (disch:=intros;contradiction) only [zS,pushC,puC,simprocAttr];exact hQ) ?_
 refine aB 80 ?_
 refine rC [] (mementoref13_shape_con p.vol p.chunk p.count p.size) ?_
 refine RG.go fun Q hQ=>?_
 simp (disch:=intros;contradiction) only [zS,zW,simprocAttr]
 repeat refine ⟨by ((simp;done)),?_⟩
 refine hQ (RG.nil ?_)
 simp only [zX]
 refine aw_cond _ rfl trivial (fun ht=>?_) (fun hf=>?_)
 ·skip
  try simp at ht
  simp only [zX]
  refine aR 832 ?_
  refine Fin.b (.inr rfl) rfl trivial ?_
  rw [eq_comm,Bool.eq_false_iff];intro h;simp only [pushR,Bool.and_eq_true] at h;simp [h] at ht;simp [inR] at h;omega
 try simp at hf
 simp only [zX]
 have hpre : (shapeC p.vol p.chunk p.count p.size && inR p.to 0 1099511627776 && inR p.frm 0 p.to && inR p.floor 0 p.to && decide (p.ws.length≤4)) = true:=by
  simp only [Bool.and_eq_true];simp [inR] at hf ⊢;simp [hf];omega
 have hR : pushR p = wsP p.count p.size p.to p.frm p.ws:=by unfold pushR;rw [hpre];rfl
 rw [hR]
 refine aR 880 ?_
 refine aR 960 ?_
 refine aw_loopK (X:={ i : Nat // ∃ h : i≤p.ws.length,wsP p.count p.size p.to (lastW p.frm p.ws i h) (p.ws.drop i) = wsP p.count p.size p.to p.frm p.ws }) [1] (fun i=>[(3,I (lastW p.frm p.ws i.1 i.2.1)),(4,I i.1)]) [16] (fun i=>[]) (fun i=>p.ws.length - i.1) (⟨0,by omega,rfl⟩) ?_ ?_
 ·skip
  simp only [keepS,keepE,Option.getD_some,lk_cons,lkE_cons,List.cons_append,List.nil_append,simprocAttr]
  refine Le.lit [] [] _ _ ?_ ?_ ?_ ?_
  ·simp only [zL,simprocAttr]
   all_goals (try ((repeat' (rfl))))
  ·simp only [zL,↓reduceIte]
  ·simp [rlook]
  ·(simp;done)
 rintro ⟨i,hi,hinv⟩
 simp only [keepS,keepE,Option.getD_some,lk_cons,lkE_cons,List.cons_append,List.nil_append,simprocAttr]
 simp only [zX]
 refine aS 1008 (fun Q hQ=>by simp (disch:=intros;contradiction) only [zS,zW,simprocAttr];exact hQ) ?_
 refine aw_cond _ rfl trivial (fun ht=>?_) (fun hf=>?_)
 ·skip
  try simp at ht
  simp only [zX]
  have hi' : i < p.ws.length:=by omega
  rw [drop_get hi',wsP] at hinv
  obtain ⟨k1,k2⟩:=ok2 _ (List.getElem_mem hi')
  have cI:=mementoref13_ItemsRight_con p.count p.size p.ws[i].its k1 k2
  refine aS 1120 (fun Q hQ=>by simp (disch:=first | (intros;contradiction) | omega | (simp only [zN];omega)) only [zS,zW,wrow,wrC,simprocAttr];repeat refine ⟨by (omega),?_⟩;exact hQ) ?_
  refine aBs 1264 (fun Q hQ=>by simp (disch:=intros;contradiction) only [zS,simprocAttr];repeat refine ⟨by ((simp;done)),?_⟩;exact hQ) ?_
  refine rG _ _ (cI) ?_
  refine aEs (fun Q hQ=>by simp (disch:=intros;contradiction) only [zS,simprocAttr];repeat refine ⟨by ((simp;done)),?_⟩;exact hQ) ?_
  refine aw_cond _ rfl trivial (fun ht=>?_) (fun hf=>?_)
  ·skip
   try simp at ht
   simp only [zX]
   refine aR 1632 ?_
   refine Fin.b (.inr rfl) rfl trivial ?_
   rw [← hinv,eq_comm,Bool.eq_false_iff];intro h;simp only [Bool.and_eq_true] at h;simp [h] at ht;simp at h;omega
  try simp at hf
  simp only [zX]
  have e : wsP p.count p.size p.to p.ws[i].s (p.ws.drop (i + 1)) = wsP p.count p.size p.to p.frm p.ws:=by rw [← hinv];simp at hf ⊢;simp [hf] <;> omega
  refine aR 1680 ?_
  refine aS 1760 (fun Q hQ=>by simp (disch:=first | (intros;contradiction) | omega | (simp only [zN];omega)) only [zS,zW,simprocAttr];exact hQ) ?_
  refine ⟨⟨i + 1,hi',by simpa [lastW] using e⟩,?_,by first | omega | (simp only;omega)⟩
  refine Le.lit [] [] _ _ ?_ ?_ ?_ ?_
  ·simp only [zL,simprocAttr]
   all_goals (try ((repeat' (first | rfl | refine ⟨?_,?_⟩))))
  ·simp only [zL,↓reduceIte]
  ·simp [rlook]
  ·(simp;done)
 try simp at hf
 simp only [zX,↓reduceIte]
 obtain rfl : i = p.ws.length:=by omega
 rw [List.drop_length] at hinv
 refine aR 1840 ?_
 refine Fin.b (.inr rfl) rfl trivial ?_
 rw [← hinv];rfl

end Go.Abs

namespace Go.Abs
open Go Go.Proofs
set_option maxRecDepth 100000
set_option linter.unusedSimpArgs false
set_option maxHeartbeats 8000000

theorem FinQ.le {n : Nat} {rs : List AR} {res : SV} {out : List Ent} {e : Exit} {st st' : St} (h : Le n st st') (hq : FinQ n rs res out e st') : FinQ n rs res out e st:=by
 obtain ⟨a,h1,h2⟩:=hq
 exact ⟨a,h.trans h1,h2⟩

theorem hist_copied_con (l : List IT) (hl : l.length≤1000000) (hd : ∀ x ∈ l,x.d.length≤1000000) : Con Try.prog 85 [.c (.sl (l.map irow))] [] (.c (.osl 0)) [.arr 111 2 (l.map irow) false]:=by
 refine C_hist_copied nl nl ?_
 simp only [cz,A_hist_copied,argL,objL,List.length_nil,zX]
 refine aR 16 ?_
 refine aB 64 ?_
 refine rO [] [] (slices_Clone_api_Version_api_Version_con (l.map irow) (drows_irow l) (irow_len l) (by simp;omega)) ?_
 refine aE ?_
 refine aS 144 (fun Q hQ=>by simp (disch:=intros;contradiction) only [zS,zW,simprocAttr];exact hQ) ?_
 refine aw_loopK (X:={ i : Nat // i≤l.length }) [3,8] (fun i=>[(9,I i.1)]) [80] (fun i=>[]) (fun i=>l.length - i.1) (⟨0,by omega⟩) ?_ ?_
 ·skip
  simp only [keepS,keepE,Option.getD_some,lk_cons,lkE_cons,List.cons_append,List.nil_append,simprocAttr]
  refine Le.lit [] [] _ _ ?_ ?_ ?_ ?_
  ·simp only [zL,simprocAttr]
  ·simp only [zL,simprocAttr]
   all_goals (exact drows_irow _;skip)
  ·simp [rlook]
  ·(simp;done)
 rintro ⟨i,hi⟩
 simp only [keepS,keepE,Option.getD_some,lk_cons,lkE_cons,List.cons_append,List.nil_append,simprocAttr]
 simp only [zX]
 refine aR 224 ?_
 refine aw_cond _ rfl trivial (fun ht=>?_) (fun hf=>?_)
 ·skip
  try simp at ht
  simp only [zX]
  have hi' : i < l.length:=by omega
  have hdl:=hd _ (List.getElem_mem hi')
  have hset : (l.map irow).set ((i : Int)).toNat [.v (.int .i64 l[i].b),.sl (l[i].d.map brow)] = l.map irow:=set_same irow hi'
  have hset2 : (l.map irow).set i [.v (.int .i64 l[i].b),.sl (l[i].d.map brow)] = l.map irow:=set_same irow hi'
  refine aR 272 ?_
  refine aw_reg 336 (RG.go fun Q hQ=>?_)
  simp (disch:=first | (intros;contradiction) | omega | (simp only [zN];omega)) only [zS,zW,irow,itC,simprocAttr]
  repeat refine ⟨by (omega),?_⟩
  refine hQ ?_
  refine rC [] (cloneB_con l[i].d hdl) ?_
  refine RG.go fun Q hQ=>?_
  simp (disch:=first | (intros;contradiction) | omega | (simp only [zN];omega)) only [zS,zW,irow,itC,hset2,simprocAttr]
  repeat refine ⟨by (omega),?_⟩
  refine hQ (RG.nil ?_)
  simp only [zX]
  refine aS 544 (fun Q hQ=>by simp (disch:=first | (intros;contradiction) | omega | (simp only [zN];omega)) only [zS,zW,simprocAttr];exact hQ) ?_
  refine ⟨⟨i + 1,hi'⟩,?_,by first | omega | (simp only;omega)⟩
  refine Le.lit [] [] _ _ ?_ ?_ ?_ ?_
  ·simp only [zL,simprocAttr]
   all_goals (try ((repeat' (rfl))))
  ·simp only [zL,simprocAttr]
   all_goals (exact drows_irow _;skip)
  ·simp [rlook]
  ·(simp;done)
 try simp at hf
 simp only [zX,↓reduceIte]
 refine aw_reg 608 (RG.go fun Q hQ=>?_)
 simp (disch:=intros;contradiction) only [zS,simprocAttr]
 refine hQ (RG.nil ?_)
 simp only [zX]
 refine Fin.objs [] [(0,80)] (.inr rfl) rfl (by exact trivial) ?_ ?_ (by simp [objL,rlook]) (by (simp [objL,rlook];done))
 ·simp only [zL,simprocAttr]
 ·simp only [zL,simprocAttr]
  all_goals (exact drows_irow _)

theorem hist_copiedD_con (l : List IT) (hl : l.length≤1000000) (hd : ∀ x ∈ l,x.d.length≤1000000) : Con Try.prog 85 [.c (.sl (l.map irow))] [] (.c (.sl (l.map irow))) [] :=
 (hist_copied_con l hl hd).rows (drows_irow l)

def addNo (l : List IT) (s : Int) : Bool:=decide (s < 1) || decide (1099511627776 < s) || l.getLast?.elim false fun x=>decide (s≤x.b)
def addH (l : List IT) (s : Int) (d : List Nat) : List IT:=if addNo l s = true then l else l ++ [⟨s,d⟩]
theorem addNo_iff {l : List IT} {s : Int} : addNo l s = true ↔ s < 1∨1099511627776 < s∨∃ h : 0 < l.length,s≤(l[l.length - 1]'(by omega)).b:=by
 unfold addNo
 rw [Bool.or_eq_true,Bool.or_eq_true,decide_eq_true_eq,decide_eq_true_eq,or_assoc,List.getLast?_eq_getElem?]
 by_cases h : 0 < l.length
 ·rw [List.getElem?_eq_getElem (by omega)];simp [h]
 ·rw [List.getElem?_eq_none (by omega)]
  constructor
  ·rintro (h1 | h1 | h1)
   ·exact .inl h1
   ·exact .inr (.inl h1)
   ·cases h1
  ·rintro (h1 | h1 | ⟨h1,_⟩)
   ·exact .inl h1
   ·exact .inr (.inl h1)
   ·exact absurd h1 h
theorem addH_no {l : List IT} {s : Int} {d : List Nat} (h : (s < 1∨1099511627776 < s)∨∃ h : 0 < l.length,s≤(l[l.length - 1]'(by omega)).b) : addH l s d = l:=by
 unfold addH;rw [if_pos (addNo_iff.2 (by rcases h with (h | h) | h;exact .inl h;exact .inr (.inl h);exact .inr (.inr h)))]
theorem addH_yes {l : List IT} {s : Int} {d : List Nat} (h1 : 1≤s) (h2 : s≤1099511627776) (h3 : ∀ h : 0 < l.length,(l[l.length - 1]'(by omega)).b < s) : addH l s d = l ++ [⟨s,d⟩]:=by
 unfold addH
 rw [if_neg]
 rw [addNo_iff]
 rintro (h | h | ⟨h,h'⟩)
 ·omega
 ·omega
 ·have:=h3 h;omega

theorem hist_Add_con (l : List IT) (s : Int) (d : List Nat) (hl : l.length≤1000000) (hd : ∀ x ∈ l,x.d.length≤1000000) (hdd : d.length≤1000000) : Con Try.prog 53 [.c (.sl (l.map irow)),I s,.c (.sl (d.map brow))] [] (.c (.sl ((addH l s d).map irow))) []:=by
 refine C_hist_Add nl nl ?_
 simp only [cz,A_hist_Add,argL,objL,List.length_nil,Nat.zero_add,zX,simprocAttr]
 refine aR 16 ?_
 refine aB 64 ?_
 refine rO [] [] (hist_copied_con l hl hd) ?_
 refine aE ?_
 by_cases h0 : l.length = 0
 ·skip
  obtain rfl : l = []:=List.eq_nil_of_length_eq_zero h0
  refine aw_reg 144 (RG.go fun Q hQ=>?_)
  simp (disch:=first | (intros;contradiction) | omega | (simp only [zN];omega)) only [zS,zW,simprocAttr]
  repeat refine ⟨by ((simp;done)),?_⟩
  refine hQ (RG.nil ?_)
  simp only [zX]
  refine aw_cond _ rfl trivial (fun ht=>?_) (fun hf=>?_)
  ·skip
   try simp at ht
   simp only [zX]
   have : addH [] s d = []:=addH_no (.inl (by omega))
   rw [this]
   refine aR 528 ?_
   refine Fin.data [80] (.inr rfl) rfl (by (exact trivial)) ?_
   simp only [zL,simprocAttr]
   all_goals (exact ⟨⟨_,_,rfl⟩,drows_irow []⟩)
  try simp at hf
  simp only [zX]
  have : addH [] s d = [⟨s,d⟩]:=addH_yes (by omega) (by omega) (fun h=>by simp at h)
  rw [this]
  refine aB 592 ?_
  refine rC [] (cloneB_con d hdd) ?_
  refine aEs (fun Q hQ=>by simp (disch:=intros;contradiction) only [zS,simprocAttr];repeat refine ⟨by ((simp;done)),?_⟩;exact hQ) ?_
  refine Fin.data [688] (.inr rfl) rfl (by (exact trivial)) ?_
  simp only [zL,simprocAttr]
  all_goals (exact ⟨⟨_,_,rfl⟩,drows_irow [⟨s,d⟩]⟩)
 have hl1 : l.length - 1 < l.length:=by omega
 have hw : IntKind.i64.wrap ((l.length : Int) - 1) = ((l.length - 1 : Nat) : Int):=by rw [w64 _ (by omega) (by omega)];omega
 refine aw_reg 752 (RG.go fun Q hQ=>?_)
 simp (disch:=first | (intros;contradiction) | omega | (simp only [zN];omega)) only [zS,zW,irow,itC,hw,simprocAttr]
 repeat refine ⟨by (first | (simp;omega) | (simp;done)),?_⟩
 refine hQ (RG.nil ?_)
 simp only [zX]
 refine aw_cond _ rfl trivial (fun ht=>?_) (fun hf=>?_)
 ·skip
  try simp at ht
  simp only [zX]
  have : addH l s d = l:=addH_no (by rcases ht with ht | ht;exact .inl (by omega);exact .inr ⟨by omega,by omega⟩)
  rw [this]
  refine aR 1136 ?_
  refine Fin.data [80] (.inr rfl) rfl (by (exact trivial)) ?_
  simp only [zL,simprocAttr]
  all_goals (exact ⟨⟨_,_,rfl⟩,drows_irow l⟩)
 try simp at hf
 simp only [zX]
 have hf1:=hf.1
 have hf2:=hf.2 (by omega)
 have : addH l s d = l ++ [⟨s,d⟩]:=addH_yes (by omega) (by omega) (fun h=>by omega)
 rw [this]
 refine aB 1200 ?_
 refine RG.call [] (cloneB_con d hdd) (by (repeat' (first | exact tr_nil | refine tr_cons ?_ ?_ | exact tr_sl))) trivial (by (exact .inr ⟨rfl,trivial⟩)) ?_
 refine RG.go fun Q hQ=>?_
 simp (disch:=intros;contradiction) only [zS,zW,simprocAttr]
 repeat refine ⟨by ((simp;omega)),?_⟩
 refine hQ (RG.nil ?_)
 simp only [zX]
 refine Fin.data [1296] (.inr rfl) rfl (by (exact trivial)) ?_
 simp only [zL,simprocAttr]
 all_goals (rw [List.map_append];exact ⟨⟨_,_,rfl⟩,by rw [← List.map_append];exact drows_irow _⟩)

theorem mementoref13_Add_con (l : List IT) (s : Int) (d : List Nat) (hl : l.length≤1000000) (hdd : d.length≤1000000) : Con Try.prog 55 [.c (.sl (l.map irow)),I s,.c (.sl (d.map brow))] [] (.c (.sl ((addH l s d).map irow))) []:=by
 refine C_mementoref13_Add nl nl ?_
 simp only [cz,A_mementoref13_Add,argL,objL,List.length_nil,Nat.zero_add,zX,simprocAttr]
 by_cases h0 : l.length = 0
 ·skip
  obtain rfl : l = []:=List.eq_nil_of_length_eq_zero h0
  refine aR 16 ?_
  refine aw_reg 64 (RG.go fun Q hQ=>?_)
  simp (disch:=first | (intros;contradiction) | omega | (simp only [zN];omega)) only [zS,zW,simprocAttr]
  repeat refine ⟨by ((simp;done)),?_⟩
  refine hQ (RG.nil ?_)
  simp only [zX]
  refine aw_cond _ rfl trivial (fun ht=>?_) (fun hf=>?_)
  ·skip
   try simp at ht
   simp only [zX]
   have : addH [] s d = []:=addH_no (.inl (by omega))
   rw [this]
   refine aR 448 ?_
   refine Fin.data [] (.inr rfl) rfl (by (exact trivial)) ?_
   simp only [zL,simprocAttr]
   all_goals (exact drows_irow [])
  try simp at hf
  simp only [zX]
  have : addH [] s d = [⟨s,d⟩]:=addH_yes (by omega) (by omega) (fun h=>by simp at h)
  rw [this]
  refine aw_reg 512 (RG.go fun Q hQ=>?_)
  simp (disch:=intros;contradiction) only [zS,zW,simprocAttr]
  repeat refine ⟨by (first | exact ⟨by (intro q hq;obtain ⟨_,_,rfl⟩:=List.mem_map.1 hq;rfl),by omega⟩ | (simp;done)),?_⟩
  refine hQ (RG.nil ?_)
  simp only [zX]
  refine FinQ.le (Le.tell [576] 624 111 2 _ ([⟨s,d⟩].map irow) false rfl ⟨⟨.inl rfl,.inr (.inr ⟨_,_,_,_,rfl,rfl,rfl,drows_brow _⟩),trivial⟩,trivial⟩) ?_
  refine Fin.data [624] (.inr rfl) rfl (by (exact trivial)) ?_
  simp only [zL,simprocAttr]
  all_goals (exact ⟨⟨_,_,rfl⟩,drows_irow [⟨s,d⟩]⟩)
 have hl1 : l.length - 1 < l.length:=by omega
 have hw : IntKind.i64.wrap ((l.length : Int) - 1) = ((l.length - 1 : Nat) : Int):=by rw [w64 _ (by omega) (by omega)];omega
 refine aR 688 ?_
 refine aw_reg 736 (RG.go fun Q hQ=>?_)
 simp (disch:=first | (intros;contradiction) | omega | (simp only [zN];omega)) only [zS,zW,irow,itC,hw,simprocAttr]
 repeat refine ⟨by (first | (simp;omega) | (simp;done)),?_⟩
 refine hQ (RG.nil ?_)
 simp only [zX]
 refine aw_cond _ rfl trivial (fun ht=>?_) (fun hf=>?_)
 ·skip
  try simp at ht
  simp only [zX]
  have : addH l s d = l:=addH_no (by rcases ht with ht | ht;exact .inl (by omega);exact .inr ⟨by omega,by omega⟩)
  rw [this]
  refine aR 1120 ?_
  refine Fin.data [] (.inr rfl) rfl (by (exact trivial)) ?_
  simp only [zL,simprocAttr]
  all_goals (exact drows_irow l)
 try simp at hf
 simp only [zX]
 have hf1:=hf.1
 have hf2:=hf.2 (by omega)
 have : addH l s d = l ++ [⟨s,d⟩]:=addH_yes (by omega) (by omega) (fun h=>by omega)
 rw [this]
 refine aw_reg 1184 (RG.go fun Q hQ=>?_)
 simp (disch:=intros;contradiction) only [zS,zW,simprocAttr]
 repeat refine ⟨by (first | exact ⟨by (intro q hq;obtain ⟨_,_,rfl⟩:=List.mem_map.1 hq;rfl),by omega⟩ | (simp;omega)),?_⟩
 refine hQ (RG.nil ?_)
 simp only [zX]
 refine FinQ.le (Le.tell [1248] 1296 111 2 _ ((l ++ [(⟨s,d⟩ : IT)]).map irow) false rfl (by rw [List.map_append];refine tell_app ?_ _;exact ⟨⟨.inl rfl,.inr (.inr ⟨_,_,_,_,rfl,rfl,rfl,drows_brow _⟩),trivial⟩,trivial⟩)) ?_
 refine Fin.data [1296] (.inr rfl) rfl (by (exact trivial)) ?_
 simp only [zL,simprocAttr]
 all_goals (exact ⟨⟨_,_,rfl⟩,drows_irow _⟩)

def pruneH (f : Int) (l : List IT) : List IT:=l.drop (behN f l - 1)

theorem hist_Prune_con (l : List IT) (f : Int) (hl : l.length≤1000000) (hd : ∀ x ∈ l,x.d.length≤1000000) (hr : rise l) : Con Try.prog 54 [.c (.sl (l.map irow)),I f] [] (.c (.sl ((pruneH f l).map irow))) []:=by
 have hk:=behN_le f l
 have cB:=hist_behind_con l f hl hr
 have cC:=hist_copiedD_con (pruneH f l) (by simp [pruneH];omega) (fun x hx=>hd x (List.mem_of_mem_drop hx))
 unfold pruneH at cC ⊢
 generalize behN f l = k at *
 have hto : (if (k : Int) - 1 < 0 then 0 else (k : Int) - 1).toNat = k - 1:=by split <;> omega
 have hw : IntKind.i64.wrap ((k : Int) - 1) = (k : Int) - 1:=w64 _ (by omega) (by omega)
 refine C_hist_Prune nl nl ?_
 simp only [cz,A_hist_Prune,argL,objL,List.length_nil,Nat.zero_add,zX]
 refine aR 16 ?_
 refine aB 64 ?_
 refine rC [] (cB) ?_
 refine aMs (fun Q hQ=>by simp (disch:=intros;contradiction) only [zS,zW,hw,hto,simprocAttr];repeat refine ⟨by ((refine ⟨?_,?_⟩ <;> (repeat' (first | omega | (intro q hq;obtain ⟨_,_,rfl⟩:=List.mem_map.1 hq;rfl) | refine ⟨?_,?_⟩)))),?_⟩;exact hQ) ?_
 refine rC [] (cC) ?_
 refine aE ?_
 refine Fin.data [] (.inr rfl) rfl (by (exact trivial)) ?_
 simp only [zL,simprocAttr]
 all_goals (exact drows_irow _)

theorem mementoref13_Prune_con (l : List IT) (f : Int) (hl : l.length≤1000000) (hr : rise l) : Con Try.prog 56 [.c (.sl (l.map irow)),I f] [] (.c (.sl ((pruneH f l).map irow))) []:=by
 have hk:=behN_le f l
 have h1:=behN_lt f l
 have h2:=behN_ge f l hr
 unfold pruneH
 generalize behN f l = k at *
 refine C_mementoref13_Prune nl nl ?_
 simp only [cz,A_mementoref13_Prune,argL,objL,List.length_nil,Nat.zero_add,zX]
 refine aR 16 ?_
 refine aR 64 ?_
 refine aR 112 ?_
 refine aw_loopK (X:={ i : Nat // i≤l.length }) [0,1] (fun i=>[(5,.c (.osl 5000)),(6,I i.1)]) [] (fun i=>[(5000,.arr 111 2 (((l.take i.1).drop (k - 1)).map irow) false)]) (fun i=>l.length - i.1) (⟨0,by omega⟩) ?_ ?_
 ·skip
  simp only [keepS,keepE,lk_cons,List.cons_append,List.nil_append,simprocAttr]
  refine (Le.own 5 5000 111 2 rfl rfl (by decide)).trans ?_
  simp only [setS_cons,setE_nil,simprocAttr]
  refine Le.lit [] [] _ _ ?_ ?_ ?_ ?_
  ·simp only [zL,simprocAttr]
  ·simp only [zL,simprocAttr]
   all_goals (try ((repeat' (((simp [C.isD];done))))))
  ·simp [rlook]
  ·(simp;done)
 rintro ⟨i,hi⟩
 simp only [keepS,keepE,lk_cons,List.cons_append,List.nil_append,simprocAttr]
 simp only [zX]
 refine aS 160 (fun Q hQ=>by simp (disch:=intros;contradiction) only [zS,zW,simprocAttr];exact hQ) ?_
 refine aw_cond _ rfl trivial (fun ht=>?_) (fun hf=>?_)
 ·skip
  try simp at ht
  simp only [zX]
  have hi' : i < l.length:=by omega
  have hlen : ((l.take i).drop (k - 1)).length≤1000000:=by simp;omega
  have hstep : (l.take (i + 1)).drop (k - 1) = if k≤i + 1 then (l.take i).drop (k - 1) ++ [l[i]] else (l.take i).drop (k - 1):=by
   rw [take_one l i hi']
   split
   ·rw [List.drop_append_of_le_length (by simp;omega)]
   ·rw [List.drop_of_length_le (by simp;omega),List.drop_of_length_le (by simp;omega)]
  by_cases hlast : i + 1 = l.length
  ·skip
   have hge : k≤i + 1:=by omega
   rw [if_pos hge] at hstep
   have e2 : ((l.take i).drop (k - 1)).map irow ++ [[.v (.int .i64 l[i].b),.sl (l[i].d.map brow)]] = ((l.take (i + 1)).drop (k - 1)).map irow:=by rw [hstep,List.map_append];rfl
   refine aw_reg 256 (RG.go fun Q hQ=>?_)
   simp (disch:=first | (intros;contradiction) | omega | (simp only [zN];omega)) only [zS,zW,simprocAttr]
   repeat refine ⟨by ((simp;omega)),?_⟩
   refine hQ (RG.nil ?_)
   simp only [zX]
   refine aw_cond _ rfl trivial (fun ht=>?_) (fun hf=>by simp at hf;omega)
   refine aw_reg 528 (RG.go fun Q hQ=>?_)
   simp (disch:=first | (intros;contradiction) | omega | (simp only [zN];omega)) only [zS,zW,irow,itC,e2,simprocAttr]
   repeat refine ⟨by (first | omega | (simp;omega)),?_⟩
   refine hQ (RG.nil ?_)
   simp only [zX]
   refine aS 688 (fun Q hQ=>by simp (disch:=first | (intros;contradiction) | omega | (simp only [zN];omega)) only [zS,zW,simprocAttr];exact hQ) ?_
   refine ⟨⟨i + 1,hi'⟩,?_,by first | omega | (simp only;omega)⟩
   refine Le.lit [] [(5000,624)] _ _ ?_ ?_ ?_ ?_
   ·simp only [zL,simprocAttr]
    all_goals (try ((repeat' (rfl))))
   ·simp only [zL,simprocAttr]
    all_goals (exact drows_irow _;skip)
   ·simp [rlook]
   ·(simp;done)
  have hi1 : i + 1 < l.length:=by omega
  refine aw_reg 768 (RG.go fun Q hQ=>?_)
  simp (disch:=first | (intros;contradiction) | omega | (simp only [zN];omega)) only [zS,zW,irow,itC,simprocAttr]
  repeat refine ⟨by (first | (simp;omega) | (simp;done)),?_⟩
  refine hQ (RG.nil ?_)
  simp only [zX]
  refine aw_cond _ rfl trivial (fun ht=>?_) (fun hf=>?_)
  ·skip
   try simp at ht
   have hge : k≤i + 1:=by
    refine Decidable.by_contra fun hh=>?_
    have:=h1 (i + 1) hi1 (by omega)
    omega
   rw [if_pos hge] at hstep
   have e2 : ((l.take i).drop (k - 1)).map irow ++ [[.v (.int .i64 l[i].b),.sl (l[i].d.map brow)]] = ((l.take (i + 1)).drop (k - 1)).map irow:=by rw [hstep,List.map_append];rfl
   refine aw_reg 1040 (RG.go fun Q hQ=>?_)
   simp (disch:=first | (intros;contradiction) | omega | (simp only [zN];omega)) only [zS,zW,irow,itC,e2,simprocAttr]
   repeat refine ⟨by (first | omega | (simp;omega)),?_⟩
   refine hQ (RG.nil ?_)
   simp only [zX]
   refine aS 1200 (fun Q hQ=>by simp (disch:=first | (intros;contradiction) | omega | (simp only [zN];omega)) only [zS,zW,simprocAttr];exact hQ) ?_
   refine ⟨⟨i + 1,hi'⟩,?_,by first | omega | (simp only;omega)⟩
   refine Le.lit [] [(5000,1136)] _ _ ?_ ?_ ?_ ?_
   ·simp only [zL,simprocAttr]
    all_goals (try ((repeat' (rfl))))
   ·simp only [zL,simprocAttr]
    all_goals (exact drows_irow _;skip)
   ·simp [rlook]
   ·(simp;done)
  try simp at hf
  simp only [zX]
  have hge : ¬ k≤i + 1:=fun hh=>by
   have:=h2 (i + 1) hi1 hh
   omega
  rw [if_neg hge] at hstep
  refine aS 1280 (fun Q hQ=>by simp (disch:=first | (intros;contradiction) | omega | (simp only [zN];omega)) only [zS,zW,simprocAttr];exact hQ) ?_
  refine ⟨⟨i + 1,hi'⟩,?_,by first | omega | (simp only;omega)⟩
  refine Le.lit [] [] _ _ ?_ ?_ ?_ ?_
  ·simp only [zL,simprocAttr]
   all_goals (try ((repeat' (rfl))))
  ·simp only [zL,simprocAttr]
   all_goals (rw [hstep];(repeat' (first | (first | exact drows_irow _ | (simp [C.isD];done)) | refine ⟨?_,?_⟩)))
  ·simp [rlook]
  ·(simp;done)
 try simp at hf
 simp only [zX,↓reduceIte]
 obtain rfl : i = l.length:=by omega
 rw [List.take_length]
 refine aR 1360 ?_
 refine Fin.data [5000] (.inr rfl) rfl (by (exact trivial)) ?_
 simp only [zL,simprocAttr]
 all_goals (exact ⟨⟨_,_,rfl⟩,drows_irow _⟩)

end Go.Abs

namespace Go.Abs
open Go Go.Proofs
set_option maxRecDepth 100000
set_option linter.unusedSimpArgs false
set_option maxHeartbeats 8000000

theorem wk2_set {σ : Nat→Option Ent} {ρ : Nat→Nat} {dom : Nat→Prop} {E : TypeId} {s k i : Nat} {d : List (List C)} {rows : List (List C)} (hi : i < rows.length) (hr : rows[i] = [.sl d]) (hk : σ k = some (.arr E s d true)) (hd : isDRows d) (h : isDRows rows) :
  TrL (TrL (WkC σ ρ dom)) rows (rows.set i [.osl k]) :=
 TrL.of (by simp) fun j x y h1 h2=>by
  by_cases hj : j = i
  ·subst hj
   rw [List.getElem?_eq_getElem hi,hr] at h1
   rw [List.getElem?_set_self hi] at h2
   cases h1;cases h2
   exact ⟨⟨⟨_,_,hk⟩,hd⟩,trivial⟩
  ·rw [List.getElem?_set_ne (fun e=>hj e.symm),h1] at h2
   cases h2
   have hx:=h x (List.mem_of_getElem? h1)
   refine TrL.of rfl fun j' a b ha hb=>?_
   rw [ha] at hb;cases hb
   have:=hx a (List.mem_of_getElem? ha)
   cases a <;> first | (cases this;done) | exact (rfl : _ = _)
theorem wk2_self {σ : Nat→Option Ent} {ρ : Nat→Nat} {dom : Nat→Prop} {k i : Nat} {rows : List (List C)} (hi : i < rows.length) (hk : ρ k = k) (hdk : dom k) (h : isDRows rows) :
  TrL (TrL (WkC σ ρ dom)) (rows.set i [.osl k]) (rows.set i [.osl k]) :=
 TrL.of rfl fun j x y h1 h2=>by
  rw [h1] at h2;cases h2
  by_cases hj : j = i
  ·subst hj
   rw [List.getElem?_set_self hi] at h1
   cases h1
   exact ⟨⟨hk,hdk⟩,trivial⟩
  ·rw [List.getElem?_set_ne (fun e=>hj e.symm)] at h1
   have hx:=h x (List.mem_of_getElem? h1)
   refine TrL.of rfl fun j' a b ha hb=>?_
   rw [ha] at hb;cases hb
   have:=hx a (List.mem_of_getElem? ha)
   cases a <;> first | (cases this;done) | exact (rfl : _ = _)

def HG (n : Nat) (H : List (List IT)) : Prop:=∀ h ∈ H,histR h = true∧h.length≤n∧∀ x ∈ h,x.d.length≤1000000∧∀ c ∈ x.d,c < 256

theorem chunk_copied_con (c : CH) (hl : c.hist.length≤1000000) (hg : HG 1000000 c.hist) : Con Try.prog 52 [.agg (chC c)] [] (.agg (chO c.vol c.chunk c.count c.size c.mark c.floor (.osl 0))) [.arr 101 1 (c.hist.map hrow) false]:=by
 refine C_chunk_copied nl nl ?_
 simp only [cz,A_chunk_copied,argL,objL,List.length_nil,zX]
 refine aS 16 (fun Q hQ=>by simp (disch:=intros;contradiction) only [zS,chC,chO,simprocAttr];exact hQ) ?_
 refine aB 80 ?_
 refine RG.callo [] [] (slices_Clone_LLapi_Version_api_Version_con (c.hist.map hrow) (drows_hrow _) (hrow_len _) (by simp;omega)) (.mk (by (repeat' (first | exact tr_nil | refine tr_cons ?_ ?_ | exact tr_sl))) (by trivial) (by simp) (by simp) (trivial) (by (simp [lkE_cons,lkE_nil];done)) (by (simp [Ent.pure];repeat' ((exact drows_hrow _)))) (by simp) (by simp)) ?_
 refine aE ?_
 refine aS 192 (fun Q hQ=>by simp (disch:=intros;contradiction) only [zS,zW,simprocAttr];exact hQ) ?_
 refine aw_loopK (X:={ i : Nat // i≤c.hist.length }) [1,2,11,12] (fun i=>[(13,I i.1)]) [16,32,112] (fun i=>[]) (fun i=>c.hist.length - i.1) (⟨0,by omega⟩) ?_ ?_
 ·skip
  simp only [keepS,keepE,Option.getD_some,lk_cons,lkE_cons,List.cons_append,List.nil_append,simprocAttr]
  refine Le.lit [] [] _ _ ?_ ?_ ?_ ?_
  ·simp only [zL,simprocAttr]
  ·simp only [zL,simprocAttr]
   all_goals (exact drows_hrow _;skip)
  ·simp [rlook]
  ·(simp;done)
 rintro ⟨i,hi⟩
 simp only [keepS,keepE,Option.getD_some,lk_cons,lkE_cons,List.cons_append,List.nil_append,simprocAttr]
 simp only [zX]
 refine aR 288 ?_
 refine aw_cond _ rfl trivial (fun ht=>?_) (fun hf=>?_)
 ·skip
  try simp at ht
  simp only [zX]
  have hi' : i < c.hist.length:=by omega
  obtain ⟨g1,g2,g3⟩:=hg _ (List.getElem_mem hi')
  refine aw_reg 336 (RG.go fun Q hQ=>?_)
  simp (disch:=first | (intros;contradiction) | omega | (simp only [zN];omega)) only [zS,zW,hrow,simprocAttr]
  repeat refine ⟨by (omega),?_⟩
  refine hQ (RG.nil ?_)
  simp only [zX]
  refine aBD 448 ?_
  refine rO [] [] (slices_Clone_api_Version_api_Version_con (c.hist[i].map irow) (drows_irow _) (irow_len _) (by simp;omega)) ?_
  refine RG.go fun Q hQ=>?_
  simp (disch:=first | (intros;contradiction) | omega | (simp only [zN];omega)) only [zS,zW,hrow,simprocAttr]
  have hlm : i < (c.hist.map hrow).length:=by simpa using hi'
  have hget : (((c.hist.map hrow).set i [.osl 512])[i]?).getD [] = [.osl 512]:=by rw [List.getElem?_set_self hlm];rfl
  repeat refine ⟨by (omega),?_⟩
  refine hQ (RG.nil ⟨by decide +kernel,?_⟩)
  simp only [zX]
  have hset0 : ∀ (σ : Nat→Option Ent) (ρ : Nat→Nat) (dom : Nat→Prop) (k : Nat),ρ k = k→dom k→TrL (TrL (WkC σ ρ dom)) ((c.hist.map hrow).set i [.osl k]) ((c.hist.map hrow).set i [.osl k]):=fun σ ρ dom k h1 h2=>wk2_self hlm h1 h2 (drows_hrow _)
  refine aw_reg 592 (RG.go fun Q hQ=>?_)
  simp (disch:=intros;contradiction) only [zS,zW,hget,simprocAttr]
  repeat refine ⟨by (omega),?_⟩
  refine hQ (RG.nil ?_)
  simp only [zX]
  refine aw_loopK (X:={ k : Nat // k≤c.hist[i].length }) [1,2,3,11,12,13,29] (fun k=>[(30,I k.1)]) [16,32,112,512] (fun k=>[]) (fun k=>c.hist[i].length - k.1) (⟨0,by omega⟩) ?_ ?_
  ·skip
   simp only [keepS,keepE,Option.getD_some,lk_cons,lkE_cons,List.cons_append,List.nil_append,simprocAttr]
   refine Le.lit2 [] [] _ _ ?_ ?_ ?_ ?_
   ·simp only [zL,simprocAttr]
   ·simp only [zL,simprocAttr]
    all_goals (exact ⟨.inr (hset0 _ _ _ _ rfl (by simp)),.inl (drows_irow _)⟩;skip)
   ·simp [rlook]
   ·(simp;done)
  rintro ⟨k,hk⟩
  simp only [keepS,keepE,Option.getD_some,lk_cons,lkE_cons,List.cons_append,List.nil_append,simprocAttr]
  simp only [zX]
  refine aR 736 ?_
  refine aw_cond _ rfl trivial (fun ht=>?_) (fun hf=>?_)
  ·skip
   try simp at ht
   simp only [zX]
   have hk' : k < c.hist[i].length:=by omega
   obtain ⟨g4,g5⟩:=g3 _ (List.getElem_mem hk')
   have hset : (c.hist[i].map irow).set ((k : Int)).toNat [.v (.int .i64 c.hist[i][k].b),.sl (c.hist[i][k].d.map brow)] = c.hist[i].map irow:=set_same irow hk'
   have hset2 : (c.hist[i].map irow).set k [.v (.int .i64 c.hist[i][k].b),.sl (c.hist[i][k].d.map brow)] = c.hist[i].map irow:=set_same irow hk'
   refine aR 784 ?_
   refine aw_draw 848 (RG.go fun Q hQ=>?_)
   simp (disch:=first | (intros;contradiction) | omega | (simp only [zN];omega)) only [zS,zW,hget,irow,itC,simprocAttr]
   repeat refine ⟨by (omega),?_⟩
   refine hQ ?_
   refine rC [] (cloneB_con c.hist[i][k].d g4) ?_
   refine RG.go fun Q hQ=>?_
   simp (disch:=first | (intros;contradiction) | omega | (simp only [zN];omega)) only [zS,zW,irow,itC,hset2,simprocAttr]
   repeat refine ⟨by (omega),?_⟩
   refine hQ (RG.nil ⟨by decide +kernel,?_⟩)
   simp only [zX]
   refine aS 1184 (fun Q hQ=>by simp (disch:=first | (intros;contradiction) | omega | (simp only [zN];omega)) only [zS,zW,simprocAttr];exact hQ) ?_
   refine ⟨⟨k + 1,hk'⟩,?_,by first | omega | (simp only;omega)⟩
   refine Le.lit2 [] [] _ _ ?_ ?_ ?_ ?_
   ·simp only [zL,simprocAttr]
    all_goals (try ((repeat' (rfl))))
   ·simp only [zL,simprocAttr]
    all_goals (exact ⟨.inr (hset0 _ _ _ _ rfl (by simp)),.inl (drows_irow _)⟩;skip)
   ·simp [rlook]
   ·(simp;done)
  try simp at hf
  simp only [zX,↓reduceIte]
  obtain rfl : k = c.hist[i].length:=by omega
  refine aS 1248 (fun Q hQ=>by simp (disch:=first | (intros;contradiction) | omega | (simp only [zN];omega)) only [zS,zW,simprocAttr];exact hQ) ?_
  refine ⟨⟨i + 1,hi'⟩,?_,by first | omega | (simp only;omega)⟩
  refine Le.lit2 [512] [] _ _ ?_ ?_ ?_ ?_
  ·simp only [zL,simprocAttr]
   all_goals (try ((repeat' (rfl))))
  ·simp only [zL,simprocAttr]
   all_goals (exact ⟨by simp,.inr (wk2_set hlm (by simp [hrow]) rfl (drows_irow _) (drows_hrow _))⟩;skip)
  ·simp [rlook]
  ·(simp;done)
 try simp at hf
 simp only [zX,↓reduceIte]
 refine aR 1312 ?_
 refine Fin.objs [] [(0,112)] (.inr rfl) rfl (by exact ⟨trivial,trivial⟩) ?_ ?_ (by simp [objL,rlook]) (by (simp [objL,rlook];done))
 ·simp only [zL]
  all_goals (try ((repeat' (first | exact trivial | rfl | (simp;done) | refine ⟨?_,?_⟩))))
 ·simp only [zL,simprocAttr]
  all_goals (exact drows_hrow _)

end Go.Abs

namespace Go.Abs
open Go Go.Proofs
set_option maxRecDepth 100000
set_option linter.unusedSimpArgs false
set_option maxHeartbeats 8000000

def applyI (mark s : Int) (H : List (List IT)) (x : IT) : List (List IT):=if mark < s then H.set x.b.toNat (addH (H.getD x.b.toNat []) s x.d) else H
def applyW (mark : Int) (H : List (List IT)) (w : WR) : List (List IT):=w.its.foldl (applyI mark w.s) H
def applyOk (c : CH) (p : PU) : Bool:=pushR p && decide (p.vol = c.vol) && decide (p.chunk = c.chunk) && decide (p.count = c.count) && decide (p.size = c.size) && decide (p.frm≤c.mark)
def applyC (c : CH) (p : PU) : CH :=
 if applyOk c p = true then ⟨c.vol,c.chunk,c.count,c.size,max c.mark p.to,max c.floor p.floor,(p.ws.foldl (applyW c.mark) c.hist).map (pruneH (max c.floor p.floor))⟩ else c

theorem hst_lt {p : Int} : ∀ {l : List IT},hst p l = true→∀ x ∈ l,p < x.b∧x.b≤1099511627776
 | [],_,x,hx=>by cases hx
 | y :: l,h,x,hx=>by
  simp only [hst,Bool.and_eq_true,decide_eq_true_eq] at h
  obtain ⟨⟨h1,h2⟩,h3⟩:=h
  rcases List.mem_cons.1 hx with rfl | hx
  ·exact ⟨h1,h2⟩
  ·have:=hst_lt h3 x hx;omega
theorem hst_rise {p : Int} : ∀ {l : List IT},hst p l = true→rise l
 | [],_=>trivial
 | y :: l,h=>by
  simp only [hst,Bool.and_eq_true,decide_eq_true_eq] at h
  exact ⟨fun x hx=>by have:=hst_lt h.2 x hx;omega,hst_rise h.2⟩
theorem histR_rise {l : List IT} (h : histR l = true) : rise l:=hst_rise h
theorem hst_add {x : IT} (h1 : 1≤x.b) (h2 : x.b≤1099511627776) : ∀ {l : List IT} {p : Int},hst p l = true→p < x.b→(∀ h : 0 < l.length,(l[l.length - 1]'(by omega)).b < x.b)→hst p (l ++ [x]) = true
 | [],p,_,hp,_=>by simp [hst,hp,h2]
 | y :: l,p,h,hp,hl=>by
  simp only [hst,Bool.and_eq_true,decide_eq_true_eq,List.cons_append] at h ⊢
  have hy : y.b < x.b:=by
   by_cases h0 : l.length = 0
   ·obtain rfl : l = []:=List.eq_nil_of_length_eq_zero h0
    exact hl (by simp)
   ·have a:=hst_lt h.2 (l[l.length - 1]'(by omega)) (List.getElem_mem _)
    have b:=hl (by simp)
    have c : (y :: l)[(y :: l).length - 1]'(by simp) = l[l.length - 1]'(by omega):=by
     obtain ⟨j,hj⟩ : ∃ j,l.length = j + 1:=⟨l.length - 1,by omega⟩
     simp [hj]
    rw [c] at b
    omega
  refine ⟨h.1,hst_add h1 h2 h.2 hy fun h0=>?_⟩
  have b:=hl (by simp)
  have c : (y :: l)[(y :: l).length - 1]'(by simp) = l[l.length - 1]'(by omega):=by
   obtain ⟨j,hj⟩ : ∃ j,l.length = j + 1:=⟨l.length - 1,by omega⟩
   simp [hj]
  rw [c] at b
  exact b
theorem addH_right {l : List IT} {s : Int} {d : List Nat} (h : histR l = true) : histR (addH l s d) = true:=by
 unfold addH
 split
 ·exact h
 ·rename_i hn
  rw [addNo_iff] at hn
  refine hst_add (x:=⟨s,d⟩) (by simp only;omega) (by simp only;omega) h (by simp only;omega) fun h0=>?_
  refine Decidable.by_contra fun hh=>hn (.inr (.inr ⟨h0,by simp only at hh;omega⟩))
theorem HG.mono {n m : Nat} {H : List (List IT)} (h : HG n H) (hm : n≤m) : HG m H:=fun x hx=>⟨(h x hx).1,by have:=(h x hx).2.1;omega,(h x hx).2.2⟩
theorem HG.add {n : Nat} {H : List (List IT)} (h : HG n H) {b : Nat} (hb : b < H.length) {s : Int} {d : List Nat} (hd : d.length≤1000000) (h8 : ∀ c ∈ d,c < 256) : HG (n + 1) (H.set b (addH H[b] s d)):=by
 intro x hx
 rcases List.mem_or_eq_of_mem_set hx with hx | rfl
 ·exact h.mono (Nat.le_succ n) x hx
 ·obtain ⟨a1,a2,a3⟩:=h _ (List.getElem_mem hb)
  refine ⟨addH_right a1,?_,?_⟩
  ·unfold addH;split
   ·omega
   ·simp;omega
  ·unfold addH;split
   ·exact a3
   ·intro y hy
    rcases List.mem_append.1 hy with hy | hy
    ·exact a3 y hy
    ·simp only [List.mem_singleton] at hy;subst hy;exact ⟨hd,h8⟩
theorem applyI_no {mark s : Int} (h : ¬ mark < s) : ∀ (l : List IT) (H : List (List IT)),l.foldl (applyI mark s) H = H
 | [],H=>rfl
 | x :: l,H=>by rw [List.foldl_cons];unfold applyI;rw [if_neg h];exact applyI_no h l H
theorem applyI_len {mark s : Int} {H : List (List IT)} {x : IT} : (applyI mark s H x).length = H.length:=by unfold applyI;split <;> simp
theorem wsP_mem {count size to : Int} : ∀ {l : List WR} {last : Int},wsP count size to last l = true→∀ w ∈ l,last < w.s∧w.s≤to∧itemsR count size w.its = true
 | [],_,_,w,hw=>by cases hw
 | x :: l,last,h,w,hw=>by
  simp only [wsP,Bool.and_eq_true,decide_eq_true_eq] at h
  obtain ⟨⟨⟨h1,h2⟩,h3⟩,h4⟩:=h
  rcases List.mem_cons.1 hw with rfl | hw
  ·exact ⟨h1,h2,h3⟩
  ·have:=wsP_mem h4 w hw;exact ⟨by omega,this.2⟩
theorem pushR_facts {p : PU} (h : pushR p = true) : ((0≤p.vol∧p.vol≤7)∧(0≤p.chunk∧p.chunk≤255)∧(1≤p.count∧p.count≤256)∧(1≤p.size∧p.size≤32))∧(0≤p.frm∧p.frm≤p.to∧p.to≤1099511627776)∧(0≤p.floor∧p.floor≤p.to)∧p.ws.length≤4∧∀ w ∈ p.ws,p.frm < w.s∧w.s≤p.to∧itemsR p.count p.size w.its = true:=by
 simp only [pushR,shapeC,Bool.and_eq_true,inR_iff,decide_eq_true_eq] at h
 obtain ⟨⟨⟨⟨⟨⟨⟨⟨s1,s2⟩,s3⟩,s4⟩,h2⟩,h3⟩,h4⟩,h5⟩,h6⟩:=h
 exact ⟨⟨s1,s2,s3,s4⟩,⟨h3.1,h3.2,h2.2⟩,h4,h5,wsP_mem h6⟩

def pF (f : Int) (H : List (List IT)) (i : Nat) : List (List IT):=(H.take i).map (pruneH f) ++ H.drop i
theorem pF_len (f : Int) (H : List (List IT)) (i : Nat) (hi : i≤H.length) : (pF f H i).length = H.length:=by simp [pF];omega
theorem pF_get (f : Int) (H : List (List IT)) (i : Nat) (hi : i < H.length) (h : i < (pF f H i).length) : (pF f H i)[i] = H[i]:=by
 have : (pF f H i)[i]? = some H[i]:=by
  unfold pF
  rw [List.getElem?_append_right (by simp;omega)]
  simp [Nat.min_eq_left (Nat.le_of_lt hi),hi]
 exact (List.getElem?_eq_some_iff.1 this).2
theorem pF_set (f : Int) (H : List (List IT)) (i : Nat) (hi : i < H.length) : (pF f H i).set i (pruneH f H[i]) = pF f H (i + 1):=by
 have hl : ((H.take i).map (pruneH f)).length = i:=by simp;omega
 unfold pF
 rw [List.set_append,if_neg (by omega),hl,Nat.sub_self,drop_get hi,List.set_cons_zero,take_one H i hi,List.map_append,List.append_assoc]
 rfl

structure Cok (c : CH) (n : Nat) : Prop where
 len : (c.hist.length : Int) = c.count
 cnt : c.count≤256
 hg : HG n c.hist

theorem chunk_Apply_con (c : CH) (p : PU) (n : Nat) (hn : n≤100000) (hc : Cok c n) (ok : Pok p) (hp8 : byW p.ws) : Con Try.prog 19 [.agg (chC c),.agg (pushC p)] [] (.agg (chC (applyC c p))) []:=by
 obtain ⟨hc1,hc2,hc3⟩:=hc
 have cC:=chunk_copied_con c (by omega) (hc3.mono (by omega))
 have cP:=chunk_PushRight_con p ok
 obtain ⟨ok1,ok2⟩:=ok
 refine C_chunk_Apply nl nl ?_
 simp only [cz,A_chunk_Apply,argL,objL,List.length_nil,Nat.zero_add,zX]
 refine aS 16 (fun Q hQ=>by simp (disch:=intros;contradiction) only [zS,chC,chO,pushC,puC,simprocAttr];exact hQ) ?_
 refine aB 96 ?_
 refine RG.callo [] [] (cC) (.mk (by (repeat' (first | exact tr_nil | refine tr_cons ?_ ?_ | exact tr_agg (by repeat' (first | exact trivial | rfl | refine ⟨?_,?_⟩))))) (by trivial) (by simp) (by simp) (trivial) (by (simp [lkE_cons,lkE_nil];done)) (by (simp [Ent.pure];repeat' ((exact drows_hrow _)))) (by simp) (by simp)) ?_
 refine aEs (fun Q hQ=>by simp (disch:=intros;contradiction) only [zS,chO,simprocAttr];exact hQ) ?_
 refine aB 176 ?_
 refine rC [] (cP) ?_
 refine RG.go fun Q hQ=>?_
 simp (disch:=intros;contradiction) only [zS,simprocAttr]
 repeat refine ⟨by ((simp;done)),?_⟩
 refine hQ (RG.nil ?_)
 simp only [zX]
 refine aw_cond _ rfl trivial (fun ht=>?_) (fun hf=>?_)
 ·skip
  try simp at ht
  simp only [zX]
  have hno : applyC c p = c:=by
   unfold applyC
   rw [if_neg]
   intro h
   simp only [applyOk,Bool.and_eq_true,decide_eq_true_eq] at h
   simp [h] at ht
   omega
  rw [hno]
  refine aR 816 ?_
  refine Fin.data [112] (.inr rfl) rfl (by (exact ⟨trivial,trivial⟩)) ?_
  simp only [zL,simprocAttr]
  all_goals ((repeat' (first | exact trivial | rfl | (refine ⟨⟨_,_,rfl⟩,?_⟩;(exact drows_hrow _)) | refine ⟨?_,?_⟩)))
 try simp at hf
 simp only [zX]
 have hyes : applyOk c p = true:=by
  simp only [applyOk,Bool.and_eq_true,decide_eq_true_eq]
  simp [hf] <;> omega
 have hR : applyC c p = ⟨c.vol,c.chunk,c.count,c.size,max c.mark p.to,max c.floor p.floor,(p.ws.foldl (applyW c.mark) c.hist).map (pruneH (max c.floor p.floor))⟩:=by unfold applyC;rw [if_pos hyes]
 rw [hR]
 have hpr : pushR p = true:=by simp only [applyOk,Bool.and_eq_true] at hyes;exact hyes.1.1.1.1.1
 have hcnt : p.count = c.count:=by simp only [applyOk,Bool.and_eq_true,decide_eq_true_eq] at hyes;exact hyes.1.1.2
 obtain ⟨q1,q2,q3,q4,q5⟩:=pushR_facts hpr
 obtain ⟨HF,hHF⟩ : ∃ H,H = p.ws.foldl (applyW c.mark) c.hist:=⟨_,rfl⟩
 rw [← hHF]
 refine aS 880 (fun Q hQ=>by simp (disch:=intros;contradiction) only [zS,zW,simprocAttr];exact hQ) ?_
 refine aw_loopK (X:={ x : Nat × List (List IT) // x.1≤p.ws.length∧x.2.length = c.hist.length∧HG (n + x.1 * 8) x.2∧(p.ws.drop x.1).foldl (applyW c.mark) x.2 = HF }) [2,3,4,53,54] (fun x=>[(55,I x.1.1)]) [16,32,48] (fun x=>[(112,.arr 101 1 (x.1.2.map hrow) false)]) (fun x=>p.ws.length - x.1.1) (⟨(0,c.hist),by simp only;omega,rfl,hc3.mono (by simp only;omega),hHF.symm⟩) ?_ ?_
 ·skip
  simp only [keepS,keepE,Option.getD_some,lk_cons,lkE_cons,List.cons_append,List.nil_append,simprocAttr]
  refine Le.lit [] [] _ _ ?_ ?_ ?_ ?_
  ·simp only [zL,simprocAttr]
  ·simp only [zL,simprocAttr]
   all_goals (exact drows_hrow _;skip)
  ·simp [rlook]
  ·(simp;done)
 rintro ⟨⟨i,H⟩,hi,hHl,hHg,hHf⟩
 simp only [keepS,keepE,Option.getD_some,lk_cons,lkE_cons,List.cons_append,List.nil_append,simprocAttr]
 simp only [zX]
 simp only at hi hHl hHg hHf
 refine aR 976 ?_
 refine aw_cond _ rfl trivial (fun ht=>?_) (fun hf=>?_)
 ·skip
  try simp at ht
  simp only [zX]
  have hi' : i < p.ws.length:=by omega
  obtain ⟨w1,w2,w3⟩:=q5 _ (List.getElem_mem hi')
  have hw8:=hp8 _ (List.getElem_mem hi')
  have wit:=itemsR_mem w3
  have wln:=itemsR_len w3
  rw [drop_get hi',List.foldl_cons] at hHf
  obtain ⟨w,hww⟩ : ∃ w,p.ws[i] = w:=⟨_,rfl⟩
  rw [hww] at w1 w2 w3 hw8 wit wln hHf
  obtain ⟨HW,hHW⟩ : ∃ H',H' = applyW c.mark H w:=⟨_,rfl⟩
  rw [← hHW] at hHf
  unfold applyW at hHW
  refine aS 1024 (fun Q hQ=>by simp (disch:=first | (intros;contradiction) | omega | (simp only [zN];omega)) only [zS,zW,wrow,wrC,hww,simprocAttr];repeat refine ⟨by (omega),?_⟩;exact hQ) ?_
  refine aS 1120 (fun Q hQ=>by simp (disch:=intros;contradiction) only [zS,zW,simprocAttr];exact hQ) ?_
  refine aw_loopK (X:={ x : Nat × List (List IT) // x.1≤w.its.length∧x.2.length = c.hist.length∧HG (n + i * 8 + x.1) x.2∧(w.its.drop x.1).foldl (applyI c.mark w.s) x.2 = HW }) [2,3,4,6,53,54,55,60,61] (fun x=>[(62,I x.1.1)]) [16,32,48,1056] (fun x=>[(112,.arr 101 1 (x.1.2.map hrow) false)]) (fun x=>w.its.length - x.1.1) (⟨(0,H),by simp only;omega,hHl,hHg,hHW.symm⟩) ?_ ?_
  ·skip
   simp only [keepS,keepE,Option.getD_some,lk_cons,lkE_cons,List.cons_append,List.nil_append,simprocAttr]
   refine Le.lit [] [] _ _ ?_ ?_ ?_ ?_
   ·simp only [zL,simprocAttr]
   ·simp only [zL,simprocAttr]
    all_goals (exact drows_hrow _;skip)
   ·simp [rlook]
   ·(simp;done)
  rintro ⟨⟨k,J⟩,hk,hJl,hJg,hJf⟩
  simp only [keepS,keepE,Option.getD_some,lk_cons,lkE_cons,List.cons_append,List.nil_append,simprocAttr]
  simp only [zX]
  simp only at hk hJl hJg hJf
  refine aR 1216 ?_
  refine aw_cond _ rfl trivial (fun ht=>?_) (fun hf=>?_)
  ·skip
   try simp at ht
   simp only [zX]
   have hk' : k < w.its.length:=by omega
   obtain ⟨x1,x2,x3⟩:=wit _ (List.getElem_mem hk')
   have hx8:=hw8 _ (List.getElem_mem hk')
   rw [drop_get hk',List.foldl_cons] at hJf
   obtain ⟨x,hxx⟩ : ∃ x,w.its[k] = x:=⟨_,rfl⟩
   rw [hxx] at x1 x2 x3 hx8 hJf
   obtain ⟨b,hb⟩ : ∃ b : Nat,x.b = b:=⟨x.b.toNat,by omega⟩
   have hbl : b < J.length:=by omega
   obtain ⟨j1,j2,j3⟩:=hJg _ (List.getElem_mem hbl)
   refine aS 1264 (fun Q hQ=>by simp (disch:=first | (intros;contradiction) | omega | (simp only [zN];omega)) only [zS,zW,hxx,irow,itC,hb,simprocAttr];repeat refine ⟨by (omega),?_⟩;exact hQ) ?_
   refine aS 1360 (fun Q hQ=>by simp (disch:=intros;contradiction) only [zS,zW,simprocAttr];exact hQ) ?_
   refine aw_cond _ rfl trivial (fun ht=>?_) (fun hf=>?_)
   ·skip
    try simp at ht
    have hst2 : applyI c.mark w.s J x = J.set b (addH J[b] w.s x.d):=by
     unfold applyI;rw [if_pos (by omega),hb];simp [hbl]
    rw [hst2] at hJf
    have hset : (J.map hrow).set b [.sl ((addH J[b] w.s x.d).map irow)] = (J.set b (addH J[b] w.s x.d)).map hrow:=by rw [List.map_set];rfl
    refine aw_draw 1600 (RG.go fun Q hQ=>?_)
    simp (disch:=first | (intros;contradiction) | omega | (simp only [zN];omega)) only [zS,zW,hrow,simprocAttr]
    repeat refine ⟨by (omega),?_⟩
    refine hQ ?_
    refine rC [] (hist_Add_con J[b] w.s x.d (by omega) (fun y hy=>(j3 y hy).1) (by omega)) ?_
    refine RG.go fun Q hQ=>?_
    simp (disch:=first | (intros;contradiction) | omega | (simp only [zN];omega)) only [zS,zW,hrow,hset,simprocAttr]
    repeat refine ⟨by (omega),?_⟩
    refine hQ (RG.nil ⟨by decide +kernel,?_⟩)
    simp only [zX]
    refine aS 1904 (fun Q hQ=>by simp (disch:=first | (intros;contradiction) | omega | (simp only [zN];omega)) only [zS,zW,simprocAttr];exact hQ) ?_
    refine ⟨⟨(k + 1,J.set b (addH J[b] w.s x.d)),by simp only;omega,by simp only [List.length_set];exact hJl,HG.add (n:=n + i * 8 + k) hJg hbl (by omega) hx8,hJf⟩,?_,by first | omega | (simp only;omega)⟩
    refine Le.lit [] [] _ _ ?_ ?_ ?_ ?_
    ·simp only [zL,simprocAttr]
     all_goals (try ((repeat' (rfl))))
    ·simp only [zL,simprocAttr]
     all_goals (exact drows_hrow _;skip)
    ·simp [rlook]
    ·(simp;done)
   try simp at hf
   simp only [zX]
   have hst2 : applyI c.mark w.s J x = J:=by
    unfold applyI;rw [if_neg (by omega)]
   rw [hst2] at hJf
   refine aS 1968 (fun Q hQ=>by simp (disch:=first | (intros;contradiction) | omega | (simp only [zN];omega)) only [zS,zW,simprocAttr];exact hQ) ?_
   refine ⟨⟨(k + 1,J),by simp only;omega,hJl,hJg.mono (by simp only;omega),hJf⟩,?_,by first | omega | (simp only;omega)⟩
   refine Le.lit [] [] _ _ ?_ ?_ ?_ ?_
   ·simp only [zL,simprocAttr]
    all_goals (try ((repeat' (rfl))))
   ·simp only [zL,simprocAttr]
    all_goals (exact drows_hrow _;skip)
   ·simp [rlook]
   ·(simp;done)
  try simp at hf
  simp only [zX,↓reduceIte]
  obtain rfl : k = w.its.length:=by omega
  rw [List.drop_length] at hJf
  refine aS 2032 (fun Q hQ=>by simp (disch:=first | (intros;contradiction) | omega | (simp only [zN];omega)) only [zS,zW,simprocAttr];exact hQ) ?_
  refine ⟨⟨(i + 1,J),by simp only;omega,hJl,hJg.mono (by simp only;omega),by rw [show J = HW from hJf];exact hHf⟩,?_,by first | omega | (simp only;omega)⟩
  refine Le.lit [] [] _ _ ?_ ?_ ?_ ?_
  ·simp only [zL,simprocAttr]
   all_goals (try ((repeat' (rfl))))
  ·simp only [zL,simprocAttr]
   all_goals (exact drows_hrow _;skip)
  ·simp [rlook]
  ·(simp;done)
 try simp at hf
 simp only [zX,↓reduceIte]
 obtain rfl : i = p.ws.length:=by omega
 rw [List.drop_length] at hHf
 obtain rfl : H = HF:=hHf
 have hm1 : (if c.mark < p.to then p.to else c.mark) = max c.mark p.to:=by split <;> omega
 have hm2 : (if c.floor < p.floor then p.floor else c.floor) = max c.floor p.floor:=by split <;> omega
 generalize max c.mark p.to = mk at *
 generalize max c.floor p.floor = fl at *
 refine aSD 2096 (fun Q hQ=>by simp (disch:=intros;contradiction) only [zS,hm1,hm2,simprocAttr];exact hQ) ?_
 refine aS 2352 (fun Q hQ=>by simp (disch:=intros;contradiction) only [zS,zW,simprocAttr];exact hQ) ?_
 refine aw_loopK (X:={ i : Nat // i≤H.length }) [2,4,110,111] (fun i=>[(112,I i.1)]) [16,48] (fun i=>[(112,.arr 101 1 ((pF fl H i.1).map hrow) false)]) (fun i=>H.length - i.1) (⟨0,by omega⟩) ?_ ?_
 ·skip
  simp only [keepS,keepE,Option.getD_some,lk_cons,lkE_cons,List.cons_append,List.nil_append,simprocAttr]
  refine Le.lit [] [] _ _ ?_ ?_ ?_ ?_
  ·simp only [zL,simprocAttr]
  ·simp only [zL,simprocAttr]
   all_goals (rw [show pF fl H 0 = H by simp [pF]];exact ⟨rfl,drows_hrow _⟩;skip)
  ·simp [rlook]
  ·(simp;done)
 rintro ⟨i,hi⟩
 simp only [keepS,keepE,Option.getD_some,lk_cons,lkE_cons,List.cons_append,List.nil_append,simprocAttr]
 simp only [zX]
 refine aR 2448 ?_
 refine aw_cond _ rfl trivial (fun ht=>?_) (fun hf=>?_)
 ·skip
  try simp at ht
  simp only [zX]
  have hi' : i < H.length:=by omega
  have hpl:=pF_len fl H i hi
  have hpg:=pF_get fl H i hi' (by omega)
  have hps:=pF_set fl H i hi'
  have hset : ((pF fl H i).map hrow).set i [.sl ((pruneH fl H[i]).map irow)] = (pF fl H (i + 1)).map hrow:=by rw [← hps,List.map_set];rfl
  obtain ⟨g1,g2,g3⟩:=hHg _ (List.getElem_mem hi')
  refine aw_reg 2496 (RG.go fun Q hQ=>?_)
  simp (disch:=first | (intros;contradiction) | omega | (simp only [zN];omega)) only [zS,zW,hpl,hpg,hrow,simprocAttr]
  repeat refine ⟨by (omega),?_⟩
  refine hQ (RG.nil ?_)
  simp only [zX]
  refine aBD 2608 ?_
  refine rC [] (hist_Prune_con H[i] fl (by omega) (fun x hx=>(g3 x hx).1) (histR_rise g1)) ?_
  refine RG.go fun Q hQ=>?_
  simp (disch:=first | (intros;contradiction) | omega | (simp only [zN];omega)) only [zS,zW,hpl,hpg,hrow,hset,simprocAttr]
  repeat refine ⟨by (omega),?_⟩
  refine hQ (RG.nil ⟨by decide +kernel,?_⟩)
  simp only [zX]
  refine aS 2784 (fun Q hQ=>by simp (disch:=first | (intros;contradiction) | omega | (simp only [zN];omega)) only [zS,zW,simprocAttr];exact hQ) ?_
  refine ⟨⟨i + 1,hi'⟩,?_,by first | omega | (simp only;omega)⟩
  refine Le.lit [] [] _ _ ?_ ?_ ?_ ?_
  ·simp only [zL,simprocAttr]
   all_goals (try ((repeat' (rfl))))
  ·simp only [zL,simprocAttr]
   all_goals (exact drows_hrow _;skip)
  ·simp [rlook]
  ·(simp;done)
 try simp at hf
 simp only [zX,↓reduceIte]
 obtain rfl : i = H.length:=by omega
 have hpe : pF fl H H.length = H.map (pruneH fl):=by simp [pF]
 rw [hpe]
 refine aR 2848 ?_
 refine Fin.data [112] (.inr rfl) rfl (by (exact ⟨trivial,trivial⟩)) ?_
 simp only [zL,↓reduceIte]
 all_goals ((repeat' (first | exact trivial | rfl | (refine ⟨⟨_,_,rfl⟩,?_⟩;(exact drows_hrow _)) | refine ⟨?_,?_⟩)))

end Go.Abs

namespace Go.Abs
open Go Go.Proofs
set_option maxRecDepth 100000
set_option linter.unusedSimpArgs false
set_option maxHeartbeats 8000000

theorem mementoref13_Apply_con (c : CH) (p : PU) (n : Nat) (hn : n≤100000) (hc : Cok c n) (ok : Pok p) (hp8 : byW p.ws) : Con Try.prog 20 [.agg (chC c),.agg (pushC p)] [] (.agg (chC (applyC c p))) []:=by
 obtain ⟨hc1,hc2,hc3⟩:=hc
 have cP:=mementoref13_PushRight_con p ok
 obtain ⟨ok1,ok2⟩:=ok
 refine C_mementoref13_Apply nl nl ?_
 simp only [cz,A_mementoref13_Apply,argL,objL,List.length_nil,Nat.zero_add,zX]
 refine aS 16 (fun Q hQ=>by simp (disch:=intros;contradiction) only [zS,chC,chO,pushC,puC,simprocAttr];exact hQ) ?_
 refine aB 96 ?_
 refine rC [] (cP) ?_
 refine RG.go fun Q hQ=>?_
 simp (disch:=intros;contradiction) only [zS,simprocAttr]
 repeat refine ⟨by ((simp;done)),?_⟩
 refine hQ (RG.nil ?_)
 simp only [zX]
 refine aw_cond _ rfl trivial (fun ht=>?_) (fun hf=>?_)
 ·skip
  try simp at ht
  simp only [zX]
  have hno : applyC c p = c:=by
   unfold applyC
   rw [if_neg]
   intro h
   simp only [applyOk,Bool.and_eq_true,decide_eq_true_eq] at h
   simp [h] at ht
   omega
  rw [hno]
  refine aR 736 ?_
  refine Fin.data [] (.inr rfl) rfl (by (exact ⟨trivial,trivial⟩)) ?_
  simp only [zL]
  all_goals ((repeat' (first | exact trivial | rfl | refine ⟨?_,?_⟩)))
 try simp at hf
 simp only [zX]
 have hyes : applyOk c p = true:=by
  simp only [applyOk,Bool.and_eq_true,decide_eq_true_eq]
  simp [hf] <;> omega
 have hR : applyC c p = ⟨c.vol,c.chunk,c.count,c.size,max c.mark p.to,max c.floor p.floor,(p.ws.foldl (applyW c.mark) c.hist).map (pruneH (max c.floor p.floor))⟩:=by unfold applyC;rw [if_pos hyes]
 rw [hR]
 have hpr : pushR p = true:=by simp only [applyOk,Bool.and_eq_true] at hyes;exact hyes.1.1.1.1.1
 have hcnt : p.count = c.count:=by simp only [applyOk,Bool.and_eq_true,decide_eq_true_eq] at hyes;exact hyes.1.1.2
 obtain ⟨q1,q2,q3,q4,q5⟩:=pushR_facts hpr
 obtain ⟨HF,hHF⟩ : ∃ H,H = p.ws.foldl (applyW c.mark) c.hist:=⟨_,rfl⟩
 rw [← hHF]
 refine aS 800 (fun Q hQ=>by simp (disch:=intros;contradiction) only [zS,zW,simprocAttr];repeat refine ⟨by (exact ⟨by (intro q hq;obtain ⟨_,_,rfl⟩:=List.mem_map.1 hq;rfl),by omega⟩),?_⟩;exact hQ) ?_
 refine aR 896 ?_
 refine aw_loopK (X:={ x : Nat × List (List IT) // x.1≤p.ws.length∧x.2.length = c.hist.length∧HG (n + x.1 * 8) x.2∧(p.ws.drop x.1).foldl (applyW c.mark) x.2 = HF }) [2,3,4,5] (fun x=>[(6,I x.1.1)]) [16,32,48] (fun x=>[(832,.arr 101 1 (x.1.2.map hrow) false)]) (fun x=>p.ws.length - x.1.1) (⟨(0,c.hist),by simp only;omega,rfl,hc3.mono (by simp only;omega),hHF.symm⟩) ?_ ?_
 ·skip
  simp only [keepS,keepE,Option.getD_some,lk_cons,lkE_cons,List.cons_append,List.nil_append,simprocAttr]
  refine Le.lit [] [] _ _ ?_ ?_ ?_ ?_
  ·simp only [zL,simprocAttr]
  ·simp only [zL,simprocAttr]
   all_goals (exact drows_hrow _;skip)
  ·simp [rlook]
  ·(simp;done)
 rintro ⟨⟨i,H⟩,hi,hHl,hHg,hHf⟩
 simp only [keepS,keepE,Option.getD_some,lk_cons,lkE_cons,List.cons_append,List.nil_append,simprocAttr]
 simp only [zX]
 simp only at hi hHl hHg hHf
 refine aS 944 (fun Q hQ=>by simp (disch:=intros;contradiction) only [zS,zW,simprocAttr];exact hQ) ?_
 refine aw_cond _ rfl trivial (fun ht=>?_) (fun hf=>?_)
 ·skip
  try simp at ht
  simp only [zX]
  have hi' : i < p.ws.length:=by omega
  obtain ⟨w1,w2,w3⟩:=q5 _ (List.getElem_mem hi')
  have hw8:=hp8 _ (List.getElem_mem hi')
  have wit:=itemsR_mem w3
  have wln:=itemsR_len w3
  rw [drop_get hi',List.foldl_cons] at hHf
  obtain ⟨w,hww⟩ : ∃ w,p.ws[i] = w:=⟨_,rfl⟩
  rw [hww] at w1 w2 w3 hw8 wit wln hHf
  obtain ⟨HW,hHW⟩ : ∃ H',H' = applyW c.mark H w:=⟨_,rfl⟩
  rw [← hHW] at hHf
  unfold applyW at hHW
  refine aS 1056 (fun Q hQ=>by simp (disch:=first | (intros;contradiction) | omega | (simp only [zN];omega)) only [zS,zW,wrow,wrC,hww,simprocAttr];repeat refine ⟨by (omega),?_⟩;exact hQ) ?_
  refine aR 1200 ?_
  refine aw_loopK (X:={ x : Nat × List (List IT) // x.1≤w.its.length∧x.2.length = c.hist.length∧HG (n + i * 8 + x.1) x.2∧(w.its.drop x.1).foldl (applyI c.mark w.s) x.2 = HW }) [2,3,4,5,6,7] (fun x=>[(8,I x.1.1)]) [16,32,48,1136] (fun x=>[(832,.arr 101 1 (x.1.2.map hrow) false)]) (fun x=>w.its.length - x.1.1) (⟨(0,H),by simp only;omega,hHl,hHg,hHW.symm⟩) ?_ ?_
  ·skip
   simp only [keepS,keepE,Option.getD_some,lk_cons,lkE_cons,List.cons_append,List.nil_append,simprocAttr]
   refine Le.lit [] [] _ _ ?_ ?_ ?_ ?_
   ·simp only [zL,simprocAttr]
   ·simp only [zL,simprocAttr]
    all_goals (exact drows_hrow _;skip)
   ·simp [rlook]
   ·(simp;done)
  rintro ⟨⟨k,J⟩,hk,hJl,hJg,hJf⟩
  simp only [keepS,keepE,Option.getD_some,lk_cons,lkE_cons,List.cons_append,List.nil_append,simprocAttr]
  simp only [zX]
  simp only at hk hJl hJg hJf
  refine aS 1248 (fun Q hQ=>by simp (disch:=intros;contradiction) only [zS,zW,simprocAttr];exact hQ) ?_
  refine aw_cond _ rfl trivial (fun ht=>?_) (fun hf=>?_)
  ·skip
   try simp at ht
   simp only [zX]
   have hk' : k < w.its.length:=by omega
   obtain ⟨x1,x2,x3⟩:=wit _ (List.getElem_mem hk')
   have hx8:=hw8 _ (List.getElem_mem hk')
   rw [drop_get hk',List.foldl_cons] at hJf
   obtain ⟨x,hxx⟩ : ∃ x,w.its[k] = x:=⟨_,rfl⟩
   rw [hxx] at x1 x2 x3 hx8 hJf
   obtain ⟨b,hb⟩ : ∃ b : Nat,x.b = b:=⟨x.b.toNat,by omega⟩
   have hbl : b < J.length:=by omega
   obtain ⟨j1,j2,j3⟩:=hJg _ (List.getElem_mem hbl)
   have hst2 : applyI c.mark w.s J x = J.set b (addH J[b] w.s x.d):=by
    unfold applyI;rw [if_pos (by omega),hb];simp [hbl]
   rw [hst2] at hJf
   have hset : (J.map hrow).set b [.sl ((addH J[b] w.s x.d).map irow)] = (J.set b (addH J[b] w.s x.d)).map hrow:=by rw [List.map_set];rfl
   refine aS 1472 (fun Q hQ=>by simp (disch:=first | (intros;contradiction) | omega | (simp only [zN];omega)) only [zS,zW,hxx,irow,itC,hb,simprocAttr];repeat refine ⟨by (omega),?_⟩;exact hQ) ?_
   refine aw_draw 1616 (RG.go fun Q hQ=>?_)
   simp (disch:=first | (intros;contradiction) | omega | (simp only [zN];omega)) only [zS,zW,hxx,irow,itC,hb,hrow,simprocAttr]
   repeat refine ⟨by (omega),?_⟩
   refine hQ ?_
   refine rC [] (mementoref13_Add_con J[b] w.s x.d (by omega) (by omega)) ?_
   refine RG.go fun Q hQ=>?_
   simp (disch:=first | (intros;contradiction) | omega | (simp only [zN];omega)) only [zS,zW,hrow,hset,simprocAttr]
   repeat refine ⟨by (omega),?_⟩
   refine hQ (RG.nil ⟨by decide +kernel,?_⟩)
   simp only [zX]
   refine aS 1920 (fun Q hQ=>by simp (disch:=first | (intros;contradiction) | omega | (simp only [zN];omega)) only [zS,zW,simprocAttr];exact hQ) ?_
   refine ⟨⟨(k + 1,J.set b (addH J[b] w.s x.d)),by simp only;omega,by simp only [List.length_set];exact hJl,HG.add (n:=n + i * 8 + k) hJg hbl (by omega) hx8,hJf⟩,?_,by first | omega | (simp only;omega)⟩
   refine Le.lit [] [] _ _ ?_ ?_ ?_ ?_
   ·simp only [zL,simprocAttr]
    all_goals (try ((repeat' (rfl))))
   ·simp only [zL,simprocAttr]
    all_goals (exact drows_hrow _;skip)
   ·simp [rlook]
   ·(simp;done)
  try simp at hf
  simp only [zX,↓reduceIte]
  have hJf : J = HW:=by
   by_cases hkl : k = w.its.length
   ·rw [hkl,List.drop_length] at hJf;exact hJf
   ·rw [applyI_no (by omega)] at hJf;exact hJf
  refine aS 2000 (fun Q hQ=>by simp (disch:=first | (intros;contradiction) | omega | (simp only [zN];omega)) only [zS,zW,simprocAttr];exact hQ) ?_
  refine ⟨⟨(i + 1,J),by simp only;omega,hJl,hJg.mono (by simp only;omega),by rw [show J = HW from hJf];exact hHf⟩,?_,by first | omega | (simp only;omega)⟩
  refine Le.lit [] [] _ _ ?_ ?_ ?_ ?_
  ·simp only [zL,simprocAttr]
   all_goals (try ((repeat' (rfl))))
  ·simp only [zL,simprocAttr]
   all_goals (exact drows_hrow _;skip)
  ·simp [rlook]
  ·(simp;done)
 try simp at hf
 simp only [zX,↓reduceIte]
 obtain rfl : i = p.ws.length:=by omega
 rw [List.drop_length] at hHf
 obtain rfl : H = HF:=hHf
 have hm1 : (if c.mark < p.to then p.to else c.mark) = max c.mark p.to:=by split <;> omega
 have hm2 : (if c.floor < p.floor then p.floor else c.floor) = max c.floor p.floor:=by split <;> omega
 generalize max c.mark p.to = mk at *
 generalize max c.floor p.floor = fl at *
 refine aSD 2080 (fun Q hQ=>by simp (disch:=intros;contradiction) only [zS,hm1,hm2,simprocAttr];exact hQ) ?_
 refine aR 2336 ?_
 refine aw_loopK (X:={ i : Nat // i≤H.length }) [2,4,5] (fun i=>[(10,I i.1)]) [16,48] (fun i=>[(832,.arr 101 1 ((pF fl H i.1).map hrow) false)]) (fun i=>H.length - i.1) (⟨0,by omega⟩) ?_ ?_
 ·skip
  simp only [keepS,keepE,Option.getD_some,lk_cons,lkE_cons,List.cons_append,List.nil_append,simprocAttr]
  refine Le.lit [] [] _ _ ?_ ?_ ?_ ?_
  ·simp only [zL,simprocAttr]
  ·simp only [zL,simprocAttr]
   all_goals (rw [show pF fl H 0 = H by simp [pF]];exact ⟨rfl,drows_hrow _⟩;skip)
  ·simp [rlook]
  ·(simp;done)
 rintro ⟨i,hi⟩
 simp only [keepS,keepE,Option.getD_some,lk_cons,lkE_cons,List.cons_append,List.nil_append,simprocAttr]
 simp only [zX]
 have hpl:=pF_len fl H i hi
 refine aS 2384 (fun Q hQ=>by simp (disch:=intros;contradiction) only [zS,zW,hpl,simprocAttr];exact hQ) ?_
 refine aw_cond _ rfl trivial (fun ht=>?_) (fun hf=>?_)
 ·skip
  try simp at ht
  simp only [zX]
  have hi' : i < H.length:=by omega
  have hpg:=pF_get fl H i hi' (by omega)
  have hps:=pF_set fl H i hi'
  have hset : ((pF fl H i).map hrow).set i [.sl ((pruneH fl H[i]).map irow)] = (pF fl H (i + 1)).map hrow:=by rw [← hps,List.map_set];rfl
  obtain ⟨g1,g2,g3⟩:=hHg _ (List.getElem_mem hi')
  refine aw_draw 2480 (RG.go fun Q hQ=>?_)
  simp (disch:=first | (intros;contradiction) | omega | (simp only [zN];omega)) only [zS,zW,hpl,hpg,hrow,simprocAttr]
  repeat refine ⟨by (omega),?_⟩
  refine hQ ?_
  refine rC [] (mementoref13_Prune_con H[i] fl (by omega) (histR_rise g1)) ?_
  refine RG.go fun Q hQ=>?_
  simp (disch:=first | (intros;contradiction) | omega | (simp only [zN];omega)) only [zS,zW,hpl,hpg,hrow,hset,simprocAttr]
  repeat refine ⟨by (omega),?_⟩
  refine hQ (RG.nil ⟨by decide +kernel,?_⟩)
  simp only [zX]
  refine aS 2688 (fun Q hQ=>by simp (disch:=first | (intros;contradiction) | omega | (simp only [zN];omega)) only [zS,zW,simprocAttr];exact hQ) ?_
  refine ⟨⟨i + 1,hi'⟩,?_,by first | omega | (simp only;omega)⟩
  refine Le.lit [] [] _ _ ?_ ?_ ?_ ?_
  ·simp only [zL,simprocAttr]
   all_goals (try ((repeat' (rfl))))
  ·simp only [zL,simprocAttr]
   all_goals (exact drows_hrow _;skip)
  ·simp [rlook]
  ·(simp;done)
 try simp at hf
 simp only [zX,↓reduceIte]
 obtain rfl : i = H.length:=by omega
 have hpe : pF fl H H.length = H.map (pruneH fl):=by simp [pF]
 rw [hpe]
 refine aR 2768 ?_
 refine aR 2848 ?_
 refine Fin.data [832] (.inr rfl) rfl (by (exact ⟨trivial,trivial⟩)) ?_
 simp only [zL,↓reduceIte]
 all_goals ((repeat' (first | exact trivial | rfl | (refine ⟨⟨_,_,rfl⟩,?_⟩;(exact drows_hrow _)) | refine ⟨?_,?_⟩)))

end Go.Abs

namespace Go.Abs
open Go Go.Proofs
set_option maxRecDepth 100000
set_option linter.unusedSimpArgs false
set_option maxHeartbeats 8000000

def hOk (mark floor size : Int) (l : List IT) : Bool:=histR l && decide ((pruneH floor l).length = l.length) && l.all fun x=>decide (x.b≤mark) && decide ((x.d.length : Int) = size)
def rightC (c : CH) : Bool:=shapeC c.vol c.chunk c.count c.size && inR c.mark 0 1099511627776 && inR c.floor 0 c.mark && decide ((c.hist.length : Int) = c.count) && c.hist.all (hOk c.mark c.floor c.size)
def Cin (c : CH) : Prop:=c.hist.length≤1000000∧∀ h ∈ c.hist,h.length≤1000000∧∀ x ∈ h,x.d.length≤1000000

theorem all_bad {α : Type} {p : α→Bool} {l : List α} {i : Nat} (hi : i < l.length) (h : p l[i] = false) : l.all p = false:=by
 rw [Bool.eq_false_iff];intro hh
 rw [List.all_eq_true.1 hh _ (List.getElem_mem hi)] at h;cases h

theorem chunk_Right_con (c : CH) (ok : Cin c) : Con Try.prog 25 [.agg (chC c)] [] (B (rightC c)) []:=by
 obtain ⟨ok1,ok2⟩:=ok
 refine C_chunk_Right nl nl ?_
 simp only [cz,A_chunk_Right,argL,objL,List.length_nil,zX]
 refine aS 16 (fun Q hQ=>by simp (disch:=intros;contradiction) only [zS,chC,chO,simprocAttr];exact hQ) ?_
 refine aB 80 ?_
 refine rC [] (chunk_shape_con c.vol c.chunk c.count c.size) ?_
 refine aM ?_
 refine rG _ _ (chunk_within_con c.mark 0 1099511627776) ?_
 refine aMs (fun Q hQ=>by simp (disch:=intros;contradiction) only [zS,simprocAttr];repeat refine ⟨by ((simp;done)),?_⟩;exact hQ) ?_
 refine rG _ _ (chunk_within_con c.floor 0 c.mark) ?_
 refine RG.go fun Q hQ=>?_
 simp (disch:=intros;contradiction) only [zS,zW,simprocAttr]
 repeat refine ⟨by ((simp;done)),?_⟩
 refine hQ (RG.nil ?_)
 simp only [zX]
 refine aw_cond _ rfl trivial (fun ht=>?_) (fun hf=>?_)
 ·skip
  try simp at ht
  simp only [zX]
  refine aR 624 ?_
  refine Fin.b (.inr rfl) rfl trivial ?_
  rw [eq_comm,Bool.eq_false_iff];intro h;simp only [rightC,Bool.and_eq_true] at h;simp [h] at ht;simp at h;omega
 try simp at hf
 simp only [zX]
 have hpre : (shapeC c.vol c.chunk c.count c.size && inR c.mark 0 1099511627776 && inR c.floor 0 c.mark && decide ((c.hist.length : Int) = c.count)) = true:=by
  simp only [Bool.and_eq_true];simp [hf] <;> omega
 have hR : rightC c = c.hist.all (hOk c.mark c.floor c.size):=by unfold rightC;rw [hpre];rfl
 rw [hR]
 refine aS 672 (fun Q hQ=>by simp (disch:=intros;contradiction) only [zS,zW,simprocAttr];exact hQ) ?_
 refine aw_loopK (X:={ i : Nat // i≤c.hist.length∧(c.hist.take i).all (hOk c.mark c.floor c.size) = true }) [1,40,41] (fun i=>[(42,I i.1)]) [16] (fun i=>[]) (fun i=>c.hist.length - i.1) (⟨0,by omega,rfl⟩) ?_ ?_
 ·skip
  simp only [keepS,keepE,Option.getD_some,lk_cons,lkE_cons,List.cons_append,List.nil_append,simprocAttr]
  refine Le.lit [] [] _ _ ?_ ?_ ?_ ?_
  ·simp only [zL,simprocAttr]
  ·simp only [zL,↓reduceIte]
  ·simp [rlook]
  ·(simp;done)
 rintro ⟨i,hi,hall⟩
 simp only [keepS,keepE,Option.getD_some,lk_cons,lkE_cons,List.cons_append,List.nil_append,simprocAttr]
 simp only [zX]
 refine aR 768 ?_
 refine aw_cond _ rfl trivial (fun ht=>?_) (fun hf=>?_)
 ·skip
  try simp at ht
  simp only [zX]
  have hi' : i < c.hist.length:=by omega
  obtain ⟨g1,g2⟩:=ok2 _ (List.getElem_mem hi')
  have hno : hOk c.mark c.floor c.size c.hist[i] = false→c.hist.all (hOk c.mark c.floor c.size) = false:=all_bad hi'
  have hyes : hOk c.mark c.floor c.size c.hist[i] = true→(c.hist.take (i + 1)).all (hOk c.mark c.floor c.size) = true:=fun h=>by rw [all_succ hi',hall,h];rfl
  obtain ⟨l,hll⟩ : ∃ l,c.hist[i] = l:=⟨_,rfl⟩
  rw [hll] at g1 g2 hno hyes
  refine aS 816 (fun Q hQ=>by simp (disch:=first | (intros;contradiction) | omega | (simp only [zN];omega)) only [zS,zW,hrow,hll,simprocAttr];repeat refine ⟨by (omega),?_⟩;exact hQ) ?_
  refine aB 896 ?_
  refine rC [] (hist_Right_con l g1) ?_
  refine aM ?_
  refine RG.callg _ _ [] rfl (fun hg=>⟨_,(hist_Prune_con l c.floor g1 g2 (histR_rise (by simpa using hg))),by (repeat' (first | exact tr_nil | refine tr_cons ?_ ?_ | exact tr_opt (by simpa using hg) tr_v | exact tr_opt (by simpa using hg) tr_sl)),trivial,by (exact .inr ⟨rfl,trivial⟩)⟩) ?_
  refine aEs (fun Q hQ=>by simp (disch:=intros;contradiction) only [zS,zW,simprocAttr];repeat refine ⟨by ((simp;done)),?_⟩;exact hQ) ?_
  refine aw_cond _ rfl trivial (fun ht=>?_) (fun hf=>?_)
  ·skip
   try simp at ht
   simp only [zX]
   refine aR 1136 ?_
   refine Fin.b (.inr rfl) rfl trivial ?_
   rw [hno]
   rw [Bool.eq_false_iff];intro h;simp only [hOk,Bool.and_eq_true] at h;simp [h] at ht;simp at h;omega
  try simp at hf
  simp only [zX]
  have hp2 : (histR l && decide ((pruneH c.floor l).length = l.length)) = true:=by simp [hf] <;> omega
  have hO : hOk c.mark c.floor c.size l = l.all fun x=>decide (x.b≤c.mark) && decide ((x.d.length : Int) = c.size):=by unfold hOk;rw [hp2];rfl
  rw [hO] at hno hyes
  refine aS 1184 (fun Q hQ=>by simp (disch:=intros;contradiction) only [zS,zW,simprocAttr];exact hQ) ?_
  refine aw_loopK (X:={ k : Nat // k≤l.length∧((l.take k).all fun x=>decide (x.b≤c.mark) && decide ((x.d.length : Int) = c.size)) = true }) [1,40,41,42,59,60] (fun k=>[(61,I k.1)]) [16] (fun k=>[]) (fun k=>l.length - k.1) (⟨0,by omega,rfl⟩) ?_ ?_
  ·skip
   simp only [keepS,keepE,Option.getD_some,lk_cons,lkE_cons,List.cons_append,List.nil_append,simprocAttr]
   refine Le.lit [] [] _ _ ?_ ?_ ?_ ?_
   ·simp only [zL,simprocAttr]
   ·simp only [zL,↓reduceIte]
   ·simp [rlook]
   ·(simp;done)
  rintro ⟨k,hk,hka⟩
  simp only [keepS,keepE,Option.getD_some,lk_cons,lkE_cons,List.cons_append,List.nil_append,simprocAttr]
  simp only [zX]
  refine aR 1264 ?_
  refine aw_cond _ rfl trivial (fun ht=>?_) (fun hf=>?_)
  ·skip
   try simp at ht
   simp only [zX]
   have hk' : k < l.length:=by omega
   refine aS 1312 (fun Q hQ=>by simp (disch:=first | (intros;contradiction) | omega | (simp only [zN];omega)) only [zS,zW,irow,itC,simprocAttr];repeat refine ⟨by (omega),?_⟩;exact hQ) ?_
   refine aS 1408 (fun Q hQ=>by simp (disch:=intros;contradiction) only [zS,zW,simprocAttr];repeat refine ⟨by ((simp;done)),?_⟩;exact hQ) ?_
   refine aw_cond _ rfl trivial (fun ht=>?_) (fun hf=>?_)
   ·skip
    try simp at ht
    simp only [zX]
    refine aR 1648 ?_
    refine Fin.b (.inr rfl) rfl trivial ?_
    rw [hno (all_bad hk' _)]
    rw [Bool.eq_false_iff];intro h;simp only [Bool.and_eq_true,decide_eq_true_eq] at h;omega
   try simp at hf
   simp only [zX]
   refine aS 1696 (fun Q hQ=>by simp (disch:=first | (intros;contradiction) | omega | (simp only [zN];omega)) only [zS,zW,simprocAttr];exact hQ) ?_
   refine ⟨⟨k + 1,hk',by rw [all_succ hk',hka];simp only [Bool.true_and,Bool.and_eq_true,decide_eq_true_eq];omega⟩,?_,by first | omega | (simp only;omega)⟩
   refine Le.lit [] [] _ _ ?_ ?_ ?_ ?_
   ·simp only [zL,simprocAttr]
    all_goals (try ((repeat' (rfl))))
   ·simp only [zL,↓reduceIte]
   ·simp [rlook]
   ·(simp;done)
  try simp at hf
  simp only [zX,↓reduceIte]
  obtain rfl : k = l.length:=by omega
  rw [List.take_length] at hka
  refine aS 1760 (fun Q hQ=>by simp (disch:=first | (intros;contradiction) | omega | (simp only [zN];omega)) only [zS,zW,simprocAttr];exact hQ) ?_
  refine ⟨⟨i + 1,hi',hyes hka⟩,?_,by first | omega | (simp only;omega)⟩
  refine Le.lit [] [] _ _ ?_ ?_ ?_ ?_
  ·simp only [zL,simprocAttr]
   all_goals (try ((repeat' (rfl))))
  ·simp only [zL,↓reduceIte]
  ·simp [rlook]
  ·(simp;done)
 try simp at hf
 simp only [zX,↓reduceIte]
 obtain rfl : i = c.hist.length:=by omega
 rw [List.take_length] at hall
 refine aR 1824 ?_
 refine Fin.b (.inr rfl) rfl trivial ?_
 rw [hall]

def newC (p : PU) : CH:=⟨p.vol,p.chunk,p.count,p.size,0,0,List.replicate (min (max p.count 0) 256).toNat []⟩
theorem tell_nils {σ : Nat→Option Ent} (n : Nat) : TrL (TrL (TellC σ)) ((List.replicate n ([] : List IT)).map hrow) (List.replicate n [.v (.slice none 0 0)]) :=
 TrL.of (by simp) fun i x y h1 h2=>by
  rw [List.map_replicate] at h1
  have hx:=List.eq_of_mem_replicate (List.mem_of_getElem? h1)
  have hy:=List.eq_of_mem_replicate (List.mem_of_getElem? h2)
  subst hx;subst hy
  exact ⟨.inr (.inl ⟨rfl,rfl⟩),trivial⟩

theorem chunk_New_con (p : PU) : Con Try.prog 23 [.agg (pushC p)] [] (.agg (chC (newC p))) []:=by
 unfold newC
 obtain ⟨k,hk⟩ : ∃ k,k = (min (max p.count 0) 256).toNat:=⟨_,rfl⟩
 have hm : (if (256 : Int) < (if p.count < 0 then 0 else p.count) then 256 else (if p.count < 0 then 0 else p.count)) = (k : Int):=by split <;> split <;> omega
 have hk2 : k≤256:=by omega
 rw [← hk]
 refine C_chunk_New nl nl ?_
 simp only [cz,A_chunk_New,argL,objL,List.length_nil,zX]
 refine aS 16 (fun Q hQ=>by simp (disch:=intros;contradiction) only [zS,pushC,puC,simprocAttr];exact hQ) ?_
 refine aSD 80 (fun Q hQ=>by simp (disch:=intros;contradiction) only [zS,zW,hm,simprocAttr];repeat refine ⟨by (omega),?_⟩;exact hQ) ?_
 refine FinQ.le (Le.tell [] 272 101 1 _ ((List.replicate k ([] : List IT)).map hrow) false rfl (tell_nils k)) ?_
 refine Fin.data [272] (.inr rfl) rfl (by (exact ⟨trivial,trivial⟩)) ?_
 simp only [zL,simprocAttr]
 all_goals ((repeat' (first | exact trivial | rfl | (refine ⟨⟨_,_,rfl⟩,?_⟩;(exact drows_hrow _)) | refine ⟨?_,?_⟩)))

theorem mementoref13_New_con (p : PU) : Con Try.prog 24 [.agg (pushC p)] [] (.agg (chC (newC p))) []:=by
 unfold newC
 obtain ⟨k,hk⟩ : ∃ k,k = (min (max p.count 0) 256).toNat:=⟨_,rfl⟩
 have hm : (if (256 : Int) < (if p.count < 0 then 0 else p.count) then 256 else (if p.count < 0 then 0 else p.count)) = (k : Int):=by split <;> split <;> omega
 have hk2 : k≤256:=by omega
 rw [← hk]
 refine C_mementoref13_New nl nl ?_
 simp only [cz,A_mementoref13_New,argL,objL,List.length_nil,zX]
 refine aS 16 (fun Q hQ=>by simp (disch:=intros;contradiction) only [zS,pushC,puC,simprocAttr];exact hQ) ?_
 refine aSD 80 (fun Q hQ=>by simp (disch:=intros;contradiction) only [zS,zW,hm,simprocAttr];repeat refine ⟨by (omega),?_⟩;exact hQ) ?_
 refine FinQ.le (Le.tell [] 272 101 1 _ ((List.replicate k ([] : List IT)).map hrow) false rfl (tell_nils k)) ?_
 refine Fin.data [272] (.inr rfl) rfl (by (exact ⟨trivial,trivial⟩)) ?_
 simp only [zL,simprocAttr]
 all_goals ((repeat' (first | exact trivial | rfl | (refine ⟨⟨_,_,rfl⟩,?_⟩;(exact drows_hrow _)) | refine ⟨?_,?_⟩)))

theorem mementoref13_SameHist_con (a b : List IT) (ha : a.length≤1000000) (hda : byI a) (hdb : byI b) : Con Try.prog 51 [.c (.sl (a.map irow)),.c (.sl (b.map irow))] [] (B (decide (a = b))) []:=by
 refine C_mementoref13_SameHist nl nl ?_
 simp only [cz,A_mementoref13_SameHist,argL,objL,List.length_nil,Nat.zero_add,zX]
 refine aR 16 ?_
 refine aS 64 (fun Q hQ=>by simp (disch:=intros;contradiction) only [zS,zW,simprocAttr];exact hQ) ?_
 refine aw_cond _ rfl trivial (fun ht=>?_) (fun hf=>?_)
 ·skip
  try simp at ht
  simp only [zX]
  refine aR 176 ?_
  refine Fin.b (.inr rfl) rfl trivial ?_
  rw [eq_comm,decide_eq_false_iff_not];rintro rfl;exact ht rfl
 try simp at hf
 simp only [zX]
 refine aR 224 ?_
 refine aw_loopK (X:={ i : Nat // i≤a.length∧a.take i = b.take i }) [0,1] (fun i=>[(5,I i.1)]) [] (fun i=>[]) (fun i=>a.length - i.1) (⟨0,by omega,rfl⟩) ?_ ?_
 ·skip
  simp only [keepS,keepE,lk_cons,List.cons_append,List.nil_append,simprocAttr]
  refine Le.lit [] [] _ _ ?_ ?_ ?_ ?_
  ·simp only [zL,simprocAttr]
  ·simp only [zL,simprocAttr]
  ·simp [rlook]
  ·(simp;done)
 rintro ⟨i,hi,he⟩
 simp only [keepS,keepE,lk_cons,List.cons_append,List.nil_append,simprocAttr]
 simp only [zX]
 refine aS 272 (fun Q hQ=>by simp (disch:=intros;contradiction) only [zS,zW,simprocAttr];exact hQ) ?_
 refine aw_cond _ rfl trivial (fun ht=>?_) (fun hf=>?_)
 ·skip
  try simp at ht
  simp only [zX]
  have h1 : i < a.length:=by omega
  have h2 : i < b.length:=by omega
  have hs:=str_eq a[i].d b[i].d (hda _ (List.getElem_mem h1)) (hdb _ (List.getElem_mem h2))
  refine aw_draw 368 (RG.go fun Q hQ=>?_)
  simp (disch:=first | (intros;contradiction) | omega | (simp only [zN];omega)) only [zS,zW,irow,itC,hs,simprocAttr]
  repeat refine ⟨by (first | omega | exact fun h=>⟨isByteRow_brow _,h⟩ | (simp;omega) | (simp;done)),?_⟩
  refine hQ (RG.nil ⟨by decide +kernel,?_⟩)
  simp only [zX]
  refine aw_cond _ rfl trivial (fun ht=>?_) (fun hf=>?_)
  ·skip
   try simp at ht
   simp only [zX]
   refine aR 816 ?_
   refine Fin.b (.inr rfl) rfl trivial ?_
   rw [eq_comm,decide_eq_false_iff_not]
   refine neq_of_take h1 h2 fun e=>?_
   rw [e] at ht;simp at ht
  try simp at hf
  simp only [zX]
  refine aS 864 (fun Q hQ=>by simp (disch:=first | (intros;contradiction) | omega | (simp only [zN];omega)) only [zS,zW,simprocAttr];exact hQ) ?_
  refine ⟨⟨i + 1,by omega,take_next h1 h2 he (it_eq.2 hf)⟩,?_,by first | omega | (simp only;omega)⟩
  refine Le.lit [] [] _ _ ?_ ?_ ?_ ?_
  ·simp only [zL,simprocAttr]
   all_goals (try ((repeat' (rfl))))
  ·simp only [zL,simprocAttr]
  ·simp [rlook]
  ·(simp;done)
 try simp at hf
 simp only [zX,↓reduceIte]
 have hi' : i = a.length:=by omega
 refine aw_reg 944 (RG.go fun Q hQ=>?_)
 simp (disch:=intros;contradiction) only [zS,simprocAttr]
 refine hQ (RG.nil ?_)
 simp only [zX]
 refine Fin.b (.inr rfl) rfl trivial ?_
 rw [eq_comm,decide_eq_true_iff]
 rw [List.take_of_length_le (by omega),List.take_of_length_le (by omega)] at he
 exact he

def byH (H : List (List IT)) : Prop:=∀ h ∈ H,byI h
theorem mementoref13_Same_con (a b : CH) (ha : Cin a) (h1 : byH a.hist) (h2 : byH b.hist) : Con Try.prog 18 [.agg (chC a),.agg (chC b)] [] (B (decide (a = b))) []:=by
 obtain ⟨a1,a2⟩:=ha
 refine C_mementoref13_Same nl nl ?_
 simp only [cz,A_mementoref13_Same,argL,objL,List.length_nil,Nat.zero_add,zX]
 refine aS 16 (fun Q hQ=>by simp (disch:=intros;contradiction) only [zS,chC,chO,simprocAttr];exact hQ) ?_
 refine aw_reg 96 (RG.go fun Q hQ=>?_)
 simp (disch:=intros;contradiction) only [zS,zW,simprocAttr]
 repeat refine ⟨by ((simp;done)),?_⟩
 refine hQ (RG.nil ?_)
 simp only [zX]
 refine aw_cond _ rfl trivial (fun ht=>?_) (fun hf=>?_)
 ·skip
  try simp at ht
  simp only [zX]
  refine aR 912 ?_
  refine Fin.b (.inr rfl) rfl trivial ?_
  rw [eq_comm,decide_eq_false_iff_not];rintro rfl;simp at ht
 try simp at hf
 simp only [zX]
 have hf0:=hf
 refine aR 960 ?_
 refine aw_loopK (X:={ i : Nat // i≤a.hist.length∧a.hist.take i = b.hist.take i }) [2,3] (fun i=>[(5,I i.1)]) [16,32] (fun i=>[]) (fun i=>a.hist.length - i.1) (⟨0,by omega,rfl⟩) ?_ ?_
 ·skip
  simp only [keepS,keepE,Option.getD_some,lk_cons,lkE_cons,List.cons_append,List.nil_append,simprocAttr]
  refine Le.lit [] [] _ _ ?_ ?_ ?_ ?_
  ·simp only [zL,simprocAttr]
  ·simp only [zL,simprocAttr]
  ·simp [rlook]
  ·(simp;done)
 rintro ⟨i,hi,he⟩
 simp only [keepS,keepE,Option.getD_some,lk_cons,lkE_cons,List.cons_append,List.nil_append,simprocAttr]
 simp only [zX]
 refine aS 1008 (fun Q hQ=>by simp (disch:=intros;contradiction) only [zS,zW,simprocAttr];exact hQ) ?_
 refine aw_cond _ rfl trivial (fun ht=>?_) (fun hf=>?_)
 ·skip
  try simp at ht
  simp only [zX]
  have k1 : i < a.hist.length:=by omega
  have k2 : i < b.hist.length:=by omega
  have cH:=mementoref13_SameHist_con a.hist[i] b.hist[i] (a2 _ (List.getElem_mem k1)).1 (h1 _ (List.getElem_mem k1)) (h2 _ (List.getElem_mem k2))
  refine aw_draw 1120 (RG.go fun Q hQ=>?_)
  simp (disch:=first | (intros;contradiction) | omega | (simp only [zN];omega)) only [zS,zW,hrow,simprocAttr]
  repeat refine ⟨by (omega),?_⟩
  refine hQ ?_
  refine rC [] (cH) ?_
  refine aED ?_
  refine aw_cond _ rfl trivial (fun ht=>?_) (fun hf=>?_)
  ·skip
   try simp at ht
   simp only [zX]
   refine aR 1344 ?_
   refine Fin.b (.inr rfl) rfl trivial ?_
   rw [eq_comm,decide_eq_false_iff_not]
   rintro rfl;exact ht rfl
  try simp at hf
  simp only [zX]
  refine aS 1392 (fun Q hQ=>by simp (disch:=first | (intros;contradiction) | omega | (simp only [zN];omega)) only [zS,zW,simprocAttr];exact hQ) ?_
  refine ⟨⟨i + 1,by omega,take_next k1 k2 he hf⟩,?_,by first | omega | (simp only;omega)⟩
  refine Le.lit [] [] _ _ ?_ ?_ ?_ ?_
  ·simp only [zL,simprocAttr]
   all_goals (try ((repeat' (rfl))))
  ·simp only [zL,simprocAttr]
  ·simp [rlook]
  ·(simp;done)
 try simp at hf
 simp only [zX,↓reduceIte]
 have hi' : i = a.hist.length:=by omega
 refine aR 1472 ?_
 refine Fin.b (.inr rfl) rfl trivial ?_
 rw [eq_comm,decide_eq_true_iff,ch_eq]
 rw [List.take_of_length_le (by omega),List.take_of_length_le (by omega)] at he
 refine ⟨?_,?_,?_,?_,?_,?_,he⟩ <;> omega

def rdC (c : CH) (b : Int) (t : Int) : List Nat × Int :=
 if b < 0∨c.count≤b∨(c.hist.length : Int)≤b then ([],28) else if t < c.floor then ([],30) else if c.mark < t then ([],32) else (atF c.size.toNat t (c.hist.getD b.toNat []),0)

theorem chunk_Read_con (c : CH) (b t : Int) (ok : Cin c) (hr : ∀ h ∈ c.hist,rise h) (hs : 1≤c.size∧c.size≤32) : Con Try.prog 30 [.agg (chC c),I b,I t] [] (.tup [.c (.sl ((rdC c b t).1.map brow)),I (rdC c b t).2]) []:=by
 obtain ⟨a1,a2⟩:=ok
 refine C_chunk_Read nl nl ?_
 simp only [cz,A_chunk_Read,argL,objL,List.length_nil,Nat.zero_add,zX,simprocAttr]
 refine aS 16 (fun Q hQ=>by simp (disch:=intros;contradiction) only [zS,chC,chO,simprocAttr];exact hQ) ?_
 refine aw_reg 96 (RG.go fun Q hQ=>?_)
 simp (disch:=intros;contradiction) only [zS,zW,simprocAttr]
 repeat refine ⟨by ((simp;done)),?_⟩
 refine hQ (RG.nil ?_)
 simp only [zX]
 refine aw_cond _ rfl trivial (fun ht=>?_) (fun hf=>?_)
 ·skip
  try simp at ht
  simp only [zX]
  have h : rdC c b t = ([],28):=by unfold rdC;rw [if_pos (by omega)]
  rw [h]
  refine aR 384 ?_
  refine Fin.data [] (.inr rfl) rfl (by (exact trivial)) ?_
  simp only [zL,simprocAttr]
  all_goals (simp)
 try simp at hf
 simp only [zX]
 refine aR 448 ?_
 refine aw_cond _ rfl trivial (fun ht=>?_) (fun hf=>?_)
 ·skip
  try simp at ht
  simp only [zX]
  have h : rdC c b t = ([],30):=by unfold rdC;rw [if_neg (by omega),if_pos (by omega)]
  rw [h]
  refine aR 560 ?_
  refine Fin.data [] (.inr rfl) rfl (by (exact trivial)) ?_
  simp only [zL,simprocAttr]
  all_goals (simp)
 try simp at hf
 simp only [zX]
 refine aR 624 ?_
 refine aw_cond _ rfl trivial (fun ht=>?_) (fun hf=>?_)
 ·skip
  try simp at ht
  simp only [zX]
  have h : rdC c b t = ([],32):=by unfold rdC;rw [if_neg (by omega),if_neg (by omega),if_pos (by omega)]
  rw [h]
  refine aR 736 ?_
  refine Fin.data [] (.inr rfl) rfl (by (exact trivial)) ?_
  simp only [zL,simprocAttr]
  all_goals (simp)
 try simp at hf
 simp only [zX]
 obtain ⟨k,hk⟩ : ∃ k : Nat,b = k:=⟨b.toNat,by omega⟩
 subst hk
 have hkl : k < c.hist.length:=by omega
 have h : rdC c k t = (atF c.size.toNat t c.hist[k],0):=by unfold rdC;rw [if_neg (by omega),if_neg (by omega),if_neg (by omega)];simp [hkl]
 rw [h]
 obtain ⟨g1,g2⟩:=a2 _ (List.getElem_mem hkl)
 obtain ⟨l,hll⟩ : ∃ l,c.hist[k] = l:=⟨_,rfl⟩
 rw [hll] at g1 g2 ⊢
 have cA:=hist_At_con l t g1 (hr l (by rw [← hll];exact List.getElem_mem hkl)) g2
 obtain ⟨s,hss⟩ : ∃ s : Nat,c.size = s:=⟨c.size.toNat,by omega⟩
 have hat : atF s t l = if 0 < behN t l then (l.take (behN t l)).getLast?.elim [] (·.d) else List.replicate s 0:=rfl
 rw [hss,Int.toNat_natCast]
 generalize (l.take (behN t l)).getLast?.elim [] (·.d) = d at cA hat
 refine aBs 800 (fun Q hQ=>by simp (disch:=first | (intros;contradiction) | omega | (simp only [zN];omega)) only [zS,zW,hrow,hll,simprocAttr];repeat refine ⟨by (omega),?_⟩;exact hQ) ?_
 refine rC [] (cA) ?_ (hs:=(by exact .inr ⟨pureTC,trivial⟩))
 refine aE ?_
 refine aR 1024 ?_
 refine aw_cond _ rfl trivial (fun ht=>?_) (fun hf=>?_)
 ·skip
  try simp at ht
  simp only [zX]
  rw [hat,if_pos (by simpa using ht)]
  refine aR 1072 ?_
  refine Fin.data [] (.inr rfl) rfl (by (exact trivial)) ?_
  simp only [zL,simprocAttr]
  all_goals (simp)
 try simp at hf
 simp only [zX]
 rw [hat,if_neg (by simpa using hf)]
 have hsz : (if (32 : Int) < (if (s : Int) < 0 then 0 else (s : Int)) then 32 else (if (s : Int) < 0 then 0 else (s : Int))) = s:=by split <;> split <;> omega
 have hz : List.replicate s [C.v (.int .u8 0)] = (List.replicate s 0).map brow:=by simp [brow]
 refine aS 1152 (fun Q hQ=>by simp (disch:=intros;contradiction) only [zS,zW,hsz,hz,simprocAttr];repeat refine ⟨by (omega),?_⟩;exact hQ) ?_
 refine Fin.data [1216] (.inr rfl) rfl (by (exact trivial)) ?_
 simp only [zL,simprocAttr]
 all_goals (exact ⟨⟨_,_,rfl⟩,drows_brow _⟩)

end Go.Abs

namespace Go.Abs
open Go Go.Proofs
set_option maxRecDepth 100000
set_option linter.unusedSimpArgs false
set_option maxHeartbeats 8000000

theorem awp_pre {P : Program} {n : Nat} {ops : List AO} {d : Bool} {Q : Exit→St→Prop} {l : SL} {es : EL} (l' : SL) (es' : EL) (h : Le n (mkSt l es) (mkSt l' es')) (h2 : awp P n (.region ops d) Q (mkSt l' es')) : awp P n (.region ops d) Q (mkSt l es):=by
 obtain ⟨s0,h3,h4⟩:=h2
 exact ⟨s0,h.trans h3,h4⟩

def hsB (H : List (List IT)) : List Nat:=H.flatMap itemsB
def chB (c : CH) : List Nat:=numsL [c.vol,c.chunk,c.count,c.size,c.mark,c.floor] ++ hsB c.hist
theorem hsB_succ (H : List (List IT)) (i : Nat) (hi : i < H.length) : hsB (H.take (i + 1)) = hsB (H.take i) ++ itemsB H[i]:=by
 unfold hsB;rw [take_one H i hi,List.flatMap_append];simp
structure Csm (c : CH) : Prop where
 len : c.hist.length≤256
 hl : ∀ h ∈ c.hist,h.length≤100000∧∀ x ∈ h,x.d.length≤1000
theorem itsB_lim : ∀ (l : List IT),(∀ x ∈ l,x.d.length≤1000)→(itsB l).length≤l.length * 1020
 | [],_=>by simp [itsB]
 | x :: l,h=>by
  have h1:=itB_len x (by have:=h x (by simp);omega)
  have h2:=itsB_lim l fun y hy=>h y (by simp [hy])
  have h3:=h x (by simp)
  have : itsB (x :: l) = itB x ++ itsB l:=rfl
  rw [this,List.length_append,List.length_cons];omega
theorem itemsB_lim {l : List IT} (h1 : l.length≤100000) (h2 : ∀ x ∈ l,x.d.length≤1000) : (itemsB l).length≤102000010:=by
 have a:=putS1_len l.length
 have b:=itsB_lim l h2
 unfold itemsB;rw [List.length_append];omega
theorem hsB_len : ∀ (H : List (List IT)),(∀ h ∈ H,h.length≤100000∧∀ x ∈ h,x.d.length≤1000)→(hsB H).length≤H.length * 102000010
 | [],_=>by simp [hsB]
 | l :: H,h=>by
  have h1:=itemsB_lim (h l (by simp)).1 (h l (by simp)).2
  have h2:=hsB_len H fun y hy=>h y (by simp [hy])
  have : hsB (l :: H) = itemsB l ++ hsB H:=rfl
  rw [this,List.length_append,List.length_cons];omega
theorem Csm.cin {c : CH} (h : Csm c) : Cin c:=⟨by have:=h.len;omega,fun l hl=>⟨by have:=(h.hl l hl).1;omega,fun x hx=>by have:=(h.hl l hl).2 x hx;omega⟩⟩
theorem PackPut_con (l : List Int) (h : l.length≤1000) : Con Try.prog 41 [.c (.sl ((l.map u64N).map urow))] [] (.c (.osl 0)) [.arr 5 1 ((numsL l).map brow) false] :=
 pack_Put_con (l.map u64N) (by simp;omega) (fun n hn=>by obtain ⟨k,_,rfl⟩:=List.mem_map.1 hn;exact u64N_lt k)
theorem PackPut1_con (n : Int) : Con Try.prog 41 [.c (.sl [[.v (.int .u64 (u64N n))]])] [] (.c (.osl 0)) [.arr 5 1 ((putS [u64N n]).map brow) false]:=PackPut_con [n] (by simp)

theorem u64N_nat {n : Nat} (h : n < 18446744073709551616) : u64N (n : Int) = n:=by unfold u64N;omega
theorem u64N_int {n : Int} (h : 0≤n) (h2 : n < 18446744073709551616) : ((u64N n : Nat) : Int) = n:=by unfold u64N;omega
theorem PackPutN_con (n : Nat) (h : n < 18446744073709551616) : Con Try.prog 41 [.c (.sl [[.v (.int .u64 n)]])] [] (.c (.osl 0)) [.arr 5 1 ((putS [u64N n]).map brow) false]:=by
 have:=PackPut1_con n
 rw [u64N_nat h] at this ⊢
 exact this

theorem chunk_Put_con (c : CH) (ok : Csm c) : Con Try.prog 33 [.agg (chC c)] [] (.c (.osl 0)) [.arr 5 1 ((chB c).map brow) false]:=by
 obtain ⟨a1,a2⟩:=ok
 obtain ⟨P,hP⟩ : ∃ P,P = numsL [c.vol,c.chunk,c.count,c.size,c.mark,c.floor]:=⟨_,rfl⟩
 have cP:=PackPut_con [c.vol,c.chunk,c.count,c.size,c.mark,c.floor] (by simp)
 have hPl:=numsL_len [c.vol,c.chunk,c.count,c.size,c.mark,c.floor]
 rw [← hP] at cP hPl
 have hR : chB c = P ++ hsB c.hist:=by unfold chB;rw [← hP]
 rw [hR]
 simp only [List.length_cons,List.length_nil] at hPl
 refine C_chunk_Put nl nl ?_
 simp only [cz,A_chunk_Put,argL,objL,List.length_nil,zX]
 refine aS 16 (fun Q hQ=>by simp (disch:=intros;contradiction) only [zS,chC,chO,simprocAttr];exact hQ) ?_
 refine aBs 80 (fun Q hQ=>by simp (disch:=intros;contradiction) only [zS,u64N_wrap,simprocAttr];exact hQ) ?_
 refine RG.callo [] [368] (cP) (.mk (tr_cons (tr_view (by simp) rfl (by simp [isDRows,urow,C.isD])) tr_nil) (by trivial) (by simp) (by simp) (views1 rfl trivial) (by (simp [lkE_cons,lkE_nil];done)) (by (simp [Ent.pure];repeat' ((exact drows_brow _)))) (by simp) (by simp)) ?_
 refine aE ?_
 refine aS 448 (fun Q hQ=>by simp (disch:=intros;contradiction) only [zS,zW,simprocAttr];exact hQ) ?_
 refine aw_loopK (X:={ i : Nat // i≤c.hist.length }) [29,30] (fun i=>[(3,.c (.osl 5000)),(31,I i.1)]) [] (fun i=>[(5000,.arr 5 1 ((P ++ hsB (c.hist.take i.1)).map brow) false)]) (fun i=>c.hist.length - i.1) (⟨0,by omega⟩) ?_ ?_
 ·skip
  simp only [keepS,keepE,lk_cons,List.cons_append,List.nil_append,simprocAttr]
  refine Le.lit [] [(5000,384)] _ _ ?_ ?_ ?_ ?_
  ·simp only [zL,simprocAttr]
  ·simp only [zL,simprocAttr]
   all_goals (simp [hsB];(repeat' (((simp [brow,C.isD];done)))))
  ·simp [rlook]
  ·(simp;done)
 rintro ⟨i,hi⟩
 simp only [keepS,keepE,lk_cons,List.cons_append,List.nil_append,simprocAttr]
 simp only [zX]
 refine aR 544 ?_
 refine aw_cond _ rfl trivial (fun ht=>?_) (fun hf=>?_)
 ·skip
  try simp at ht
  simp only [zX]
  have hi' : i < c.hist.length:=by omega
  obtain ⟨g1,g2⟩:=a2 _ (List.getElem_mem hi')
  have e1:=hsB_len (c.hist.take i) (fun x hx=>a2 x (List.mem_of_mem_take hx))
  simp only [List.length_take] at e1
  have hsucc:=hsB_succ c.hist i hi'
  obtain ⟨h,hh⟩ : ∃ h,c.hist[i] = h:=⟨_,rfl⟩
  rw [hh] at g1 g2 hsucc
  have e2:=putS1_len h.length
  have e3 : (P ++ hsB (c.hist.take i)).map brow ++ (putS [u64N h.length]).map brow = (P ++ hsB (c.hist.take i) ++ putS [u64N h.length]).map brow:=by rw [← List.map_append]
  obtain ⟨P2,hP2⟩ : ∃ P2,P2 = P ++ hsB (c.hist.take i) ++ putS [u64N h.length]:=⟨_,rfl⟩
  have hP2l : P2.length≤30000000000:=by rw [hP2];simp only [List.length_append];omega
  have hP3 : P ++ hsB (c.hist.take (i + 1)) = P2 ++ itsB h:=by rw [hsucc,hP2];simp [itemsB]
  rw [← hP2] at e3
  refine aS 592 (fun Q hQ=>by simp (disch:=first | (intros;contradiction) | omega | (simp only [zN];omega)) only [zS,zW,hrow,hh,simprocAttr];repeat refine ⟨by (omega),?_⟩;exact hQ) ?_
  refine aBs 672 (fun Q hQ=>by simp (disch:=first | (intros;contradiction) | omega | (simp only [zN];omega)) only [zS,zW,simprocAttr];exact hQ) ?_
  refine rO [] [736] (PackPutN_con h.length (by omega)) ?_
  refine aEs (fun Q hQ=>by simp (disch:=intros;contradiction) only [zS,zW,e3,simprocAttr];repeat refine ⟨by (exact ⟨by (intro q hq;obtain ⟨_,_,rfl⟩:=List.mem_map.1 hq;rfl),by omega⟩),?_⟩;exact hQ) ?_
  refine aS 832 (fun Q hQ=>by simp (disch:=intros;contradiction) only [zS,zW,simprocAttr];exact hQ) ?_
  refine aw_loopK (X:={ k : Nat // k≤h.length }) [29,30,31,42,43] (fun k=>[(3,.c (.osl 5000)),(44,I k.1)]) [] (fun k=>[(5000,.arr 5 1 ((P2 ++ itsB (h.take k.1)).map brow) false)]) (fun k=>h.length - k.1) (⟨0,by omega⟩) ?_ ?_
  ·skip
   simp only [keepS,keepE,lk_cons,List.cons_append,List.nil_append,simprocAttr]
   refine Le.lit [] [(5000,768)] _ _ ?_ ?_ ?_ ?_
   ·simp only [zL,simprocAttr]
   ·simp only [zL,simprocAttr]
    all_goals (simp [itsB];(repeat' (((simp [brow,C.isD];done)))))
   ·simp [rlook]
   ·(simp;done)
  rintro ⟨k,hk⟩
  simp only [keepS,keepE,lk_cons,List.cons_append,List.nil_append,simprocAttr]
  simp only [zX]
  refine aR 912 ?_
  refine aw_cond _ rfl trivial (fun ht=>?_) (fun hf=>?_)
  ·skip
   try simp at ht
   simp only [zX]
   have hk' : k < h.length:=by omega
   have hx:=g2 _ (List.getElem_mem hk')
   have e4:=itsB_lim (h.take k) (fun x hx=>g2 x (List.mem_of_mem_take hx))
   simp only [List.length_take] at e4
   have hsucc2:=itsB_succ h k hk'
   obtain ⟨x,hxx⟩ : ∃ x,h[k] = x:=⟨_,rfl⟩
   rw [hxx] at hx hsucc2
   obtain ⟨A,hA⟩ : ∃ A,A = P2 ++ itsB (h.take k):=⟨_,rfl⟩
   have hAl : A.length≤60000000000:=by rw [hA];simp only [List.length_append];omega
   have e5:=putS1_len x.b
   have e6:=num7_len x.d.length (by omega)
   rw [← hA]
   have hfl : ([A,putS [u64N x.b],num7 x.d.length ++ x.d] : List (List Nat)).flatten = P2 ++ itsB (h.take (k + 1)):=by rw [hsucc2,hA];simp [itB]
   have cJ:=pack_Join_con [A,putS [u64N x.b],num7 x.d.length ++ x.d] (by simp;omega) (by simp)
   rw [hfl] at cJ
   refine aS 960 (fun Q hQ=>by simp (disch:=first | (intros;contradiction) | omega | (simp only [zN];omega)) only [zS,zW,irow,itC,hxx,simprocAttr];repeat refine ⟨by (omega),?_⟩;exact hQ) ?_
   refine awp_pre [(3,.c (.sl (A.map brow))),(7,.c (.bp 992 0)),(29,.c (.sl (c.hist.map hrow))),(30,I c.hist.length),(31,I i),(42,.c (.sl (h.map irow))),(43,I h.length),(44,I k)] [(992,.box [.v (.int .i64 x.b),.sl (x.d.map brow)])] ?_ ?_
   ·skip
    refine Le.lit [5000] [] _ _ ?_ ?_ ?_ ?_
    ·simp only [zL,simprocAttr]
     all_goals (exact ⟨⟨_,_,rfl⟩,drows_brow _⟩;skip)
    ·simp only [zL,simprocAttr]
    ·simp [rlook]
    ·(simp;done)
   refine aBDs 1056 (fun Q hQ=>by simp (disch:=intros;contradiction) only [zS,u64N_wrap,simprocAttr];exact hQ) ?_
   refine rO [] [1120] ((PackPut1_con x.b).rows (drows_brow _)) ?_
   refine aM ?_
   refine rO [] [] ((pack_Lump_con x.d (by omega)).rows (drows_brow _)) ?_
   refine aM ?_
   refine RG.callo [] [1200] (cJ) (.mk (tr_cons (tr_view (by simp) rfl (by simp [isDRows,prow,C.isD])) tr_nil) (by trivial) (by simp) (by simp) (views1 rfl trivial) (by (simp [lkE_cons,lkE_nil];done)) (by (simp [Ent.pure];repeat' (((rw [← List.map_append];first | exact drows_brow _ | exact drows_nrow _ | exact drows_irow _ | exact drows_wrow _))))) (by simp) (by simp)) ?_
   refine aED ?_
   refine aS 1280 (fun Q hQ=>by simp (disch:=first | (intros;contradiction) | omega | (simp only [zN];omega)) only [zS,zW,simprocAttr];exact hQ) ?_
   refine ⟨⟨k + 1,hk'⟩,?_,by first | omega | (simp only;omega)⟩
   refine Le.lit [] [(5000,1216)] _ _ ?_ ?_ ?_ ?_
   ·simp only [zL,simprocAttr]
    all_goals (try ((repeat' (rfl))))
   ·simp only [zL,simprocAttr]
    all_goals (try ((repeat' ((exact drows_brow _)))))
   ·simp [rlook]
   ·(simp;done)
  try simp at hf
  simp only [zX,↓reduceIte]
  obtain rfl : k = h.length:=by omega
  refine aS 1344 (fun Q hQ=>by simp (disch:=first | (intros;contradiction) | omega | (simp only [zN];omega)) only [zS,zW,simprocAttr];exact hQ) ?_
  refine ⟨⟨i + 1,hi'⟩,?_,by first | omega | (simp only;omega)⟩
  refine Le.lit [] [] _ _ ?_ ?_ ?_ ?_
  ·simp only [zL,simprocAttr]
   all_goals (try ((repeat' (rfl))))
  ·simp only [zL,simprocAttr]
   all_goals (rw [hP3];exact ⟨rfl,drows_brow _⟩;skip)
  ·simp [rlook]
  ·(simp;done)
 try simp at hf
 simp only [zX,↓reduceIte]
 obtain rfl : i = c.hist.length:=by omega
 rw [List.take_length]
 refine aR 1408 ?_
 refine Fin.objs [] [(0,5000)] (.inr rfl) rfl (by exact trivial) ?_ ?_ (by simp [objL,rlook]) (by (simp [objL,rlook];done))
 ·simp only [zL,simprocAttr]
 ·simp only [zL,simprocAttr]
  all_goals (try ((repeat' ((exact drows_brow _)))))

theorem mementoref13_Put_con (c : CH) (ok : Csm c) : Con Try.prog 32 [.agg (chC c)] [] (.c (.osl 0)) [.arr 5 1 ((chB c).map brow) false]:=by
 obtain ⟨a1,a2⟩:=ok
 obtain ⟨P,hP⟩ : ∃ P,P = numsL [c.vol,c.chunk,c.count,c.size,c.mark,c.floor]:=⟨_,rfl⟩
 have cP:=nums13_con [c.vol,c.chunk,c.count,c.size,c.mark,c.floor] (by simp)
 have hPl:=numsL_len [c.vol,c.chunk,c.count,c.size,c.mark,c.floor]
 rw [← hP] at cP hPl
 have hR : chB c = P ++ hsB c.hist:=by unfold chB;rw [← hP]
 rw [hR]
 simp only [List.length_cons,List.length_nil] at hPl
 refine C_mementoref13_Put nl nl ?_
 simp only [cz,A_mementoref13_Put,argL,objL,List.length_nil,zX]
 refine aS 16 (fun Q hQ=>by simp (disch:=intros;contradiction) only [zS,chC,chO,simprocAttr];exact hQ) ?_
 refine aB 80 ?_
 refine rO [] [272] (cP) ?_
 refine aE ?_
 refine aR 352 ?_
 refine aw_loopK (X:={ i : Nat // i≤c.hist.length }) [1] (fun i=>[(3,.c (.osl 5000)),(4,I i.1)]) [16] (fun i=>[(5000,.arr 5 1 ((P ++ hsB (c.hist.take i.1)).map brow) false)]) (fun i=>c.hist.length - i.1) (⟨0,by omega⟩) ?_ ?_
 ·skip
  simp only [keepS,keepE,Option.getD_some,lk_cons,lkE_cons,List.cons_append,List.nil_append,simprocAttr]
  refine Le.lit [] [(5000,288)] _ _ ?_ ?_ ?_ ?_
  ·simp only [zL,simprocAttr]
  ·simp only [zL,simprocAttr]
   all_goals (simp [hsB];(repeat' (((simp [brow,C.isD];done)))))
  ·simp [rlook]
  ·(simp;done)
 rintro ⟨i,hi⟩
 simp only [keepS,keepE,Option.getD_some,lk_cons,lkE_cons,List.cons_append,List.nil_append,simprocAttr]
 simp only [zX]
 refine aS 400 (fun Q hQ=>by simp (disch:=intros;contradiction) only [zS,zW,simprocAttr];exact hQ) ?_
 refine aw_cond _ rfl trivial (fun ht=>?_) (fun hf=>?_)
 ·skip
  try simp at ht
  simp only [zX]
  have hi' : i < c.hist.length:=by omega
  obtain ⟨g1,g2⟩:=a2 _ (List.getElem_mem hi')
  have e1:=hsB_len (c.hist.take i) (fun x hx=>a2 x (List.mem_of_mem_take hx))
  simp only [List.length_take] at e1
  have hsucc:=hsB_succ c.hist i hi'
  obtain ⟨h,hh⟩ : ∃ h,c.hist[i] = h:=⟨_,rfl⟩
  rw [hh] at g1 g2 hsucc
  have e2:=putS1_len h.length
  have e3 : (P ++ hsB (c.hist.take i)).map brow ++ (putS [u64N h.length]).map brow = (P ++ hsB (c.hist.take i) ++ putS [u64N h.length]).map brow:=by rw [← List.map_append]
  obtain ⟨P2,hP2⟩ : ∃ P2,P2 = P ++ hsB (c.hist.take i) ++ putS [u64N h.length]:=⟨_,rfl⟩
  have hP2l : P2.length≤30000000000:=by rw [hP2];simp only [List.length_append];omega
  have hP3 : P ++ hsB (c.hist.take (i + 1)) = P2 ++ itsB h:=by rw [hsucc,hP2];simp [itemsB]
  rw [← hP2] at e3
  refine aBs 512 (fun Q hQ=>by simp (disch:=first | (intros;contradiction) | omega | (simp only [zN];omega)) only [zS,zW,hrow,hh,simprocAttr];repeat refine ⟨by (omega),?_⟩;exact hQ) ?_
  refine rO [] [624] (num1_13 h.length) ?_
  refine aEs (fun Q hQ=>by simp (disch:=intros;contradiction) only [zS,zW,e3,simprocAttr];repeat refine ⟨by (exact ⟨by (intro q hq;obtain ⟨_,_,rfl⟩:=List.mem_map.1 hq;rfl),by omega⟩),?_⟩;exact hQ) ?_
  refine aR 720 ?_
  refine aw_loopK (X:={ k : Nat // k≤h.length }) [1,4] (fun k=>[(3,.c (.osl 5000)),(5,I k.1)]) [16] (fun k=>[(5000,.arr 5 1 ((P2 ++ itsB (h.take k.1)).map brow) false)]) (fun k=>h.length - k.1) (⟨0,by omega⟩) ?_ ?_
  ·skip
   simp only [keepS,keepE,Option.getD_some,lk_cons,lkE_cons,List.cons_append,List.nil_append,simprocAttr]
   refine Le.lit [] [(5000,656)] _ _ ?_ ?_ ?_ ?_
   ·simp only [zL,simprocAttr]
   ·simp only [zL,simprocAttr]
    all_goals (simp [itsB];(repeat' (((simp [brow,C.isD];done)))))
   ·simp [rlook]
   ·(simp;done)
  rintro ⟨k,hk⟩
  simp only [keepS,keepE,Option.getD_some,lk_cons,lkE_cons,List.cons_append,List.nil_append,simprocAttr]
  simp only [zX]
  refine aS 768 (fun Q hQ=>by simp (disch:=first | (intros;contradiction) | omega | (simp only [zN];omega)) only [zS,zW,hrow,hh,simprocAttr];repeat refine ⟨by (omega),?_⟩;exact hQ) ?_
  refine aw_cond _ rfl trivial (fun ht=>?_) (fun hf=>?_)
  ·skip
   try simp at ht
   simp only [zX]
   have hk' : k < h.length:=by omega
   have hx:=g2 _ (List.getElem_mem hk')
   have e4:=itsB_lim (h.take k) (fun x hx=>g2 x (List.mem_of_mem_take hx))
   simp only [List.length_take] at e4
   have hsucc2:=itsB_succ h k hk'
   obtain ⟨x,hxx⟩ : ∃ x,h[k] = x:=⟨_,rfl⟩
   rw [hxx] at hx hsucc2
   obtain ⟨A,hA⟩ : ∃ A,A = P2 ++ itsB (h.take k):=⟨_,rfl⟩
   have hAl : A.length≤60000000000:=by rw [hA];simp only [List.length_append];omega
   have e5:=putS1_len x.b
   have e6:=num7_len x.d.length (by omega)
   have e7 : A.map brow ++ (putS [u64N x.b]).map brow ++ (num7 x.d.length ++ x.d).map brow = (P2 ++ itsB (h.take (k + 1))).map brow:=by
    rw [hsucc2,hA,← List.map_append,← List.map_append];simp [itB]
   rw [← hA]
   refine aw_reg 928 (RG.go fun Q hQ=>?_)
   simp (disch:=first | (intros;contradiction) | omega | (simp only [zN];omega)) only [zS,zW,hrow,hh,irow,itC,hxx,simprocAttr]
   repeat refine ⟨by (omega),?_⟩
   refine hQ (RG.nil ?_)
   simp only [zX]
   refine aBD 1120 ?_
   refine rO [] [1168] (num1_13 x.b) ?_
   refine aMs (fun Q hQ=>by simp (disch:=intros;contradiction) only [zS,zW,simprocAttr];repeat refine ⟨by (exact ⟨by (intro q hq;obtain ⟨_,_,rfl⟩:=List.mem_map.1 hq;rfl),by omega⟩),?_⟩;exact hQ) ?_
   refine rO [] [] (mementoref1_Lump_con x.d (by omega)) ?_
   refine aEDs (fun Q hQ=>by simp (disch:=intros;contradiction) only [zS,zW,e7,simprocAttr];repeat refine ⟨by (exact ⟨by (intro q hq;obtain ⟨_,_,rfl⟩:=List.mem_map.1 hq;rfl),by omega⟩),?_⟩;exact hQ) ?_
   refine aS 1328 (fun Q hQ=>by simp (disch:=first | (intros;contradiction) | omega | (simp only [zN];omega)) only [zS,zW,simprocAttr];exact hQ) ?_
   refine ⟨⟨k + 1,hk'⟩,?_,by first | omega | (simp only;omega)⟩
   refine Le.lit [] [(5000,1264)] _ _ ?_ ?_ ?_ ?_
   ·simp only [zL,simprocAttr]
    all_goals (try ((repeat' (rfl))))
   ·simp only [zL,simprocAttr]
    all_goals (try ((repeat' ((exact drows_brow _)))))
   ·simp [rlook]
   ·(simp;done)
  try simp at hf
  simp only [zX,↓reduceIte]
  obtain rfl : k = h.length:=by omega
  refine aS 1408 (fun Q hQ=>by simp (disch:=first | (intros;contradiction) | omega | (simp only [zN];omega)) only [zS,zW,simprocAttr];exact hQ) ?_
  refine ⟨⟨i + 1,hi'⟩,?_,by first | omega | (simp only;omega)⟩
  refine Le.lit [] [] _ _ ?_ ?_ ?_ ?_
  ·simp only [zL,simprocAttr]
   all_goals (try ((repeat' (rfl))))
  ·simp only [zL,simprocAttr]
   all_goals (rw [hP3];exact ⟨rfl,drows_brow _⟩;skip)
  ·simp [rlook]
  ·(simp;done)
 try simp at hf
 simp only [zX,↓reduceIte]
 obtain rfl : i = c.hist.length:=by omega
 rw [List.take_length]
 refine aR 1488 ?_
 refine Fin.objs [] [(0,5000)] (.inr rfl) rfl (by exact trivial) ?_ ?_ (by simp [objL,rlook]) (by (simp [objL,rlook];done))
 ·simp only [zL,simprocAttr]
 ·simp only [zL,simprocAttr]
  all_goals (try ((repeat' ((exact drows_brow _)))))

theorem chunk_Same_con (a b : CH) (ha : Csm a) (hb : Csm b) (h1 : byH a.hist) (h2 : byH b.hist) : Con Try.prog 40 [.agg (chC a),.agg (chC b)] [] (B (decide (chB a = chB b) && decide (a.hist.length = b.hist.length))) []:=by
 have by8 : ∀ {c : CH},byH c.hist→∀ x ∈ chB c,x < 256:=by
  intro c hc x hx
  unfold chB at hx
  rcases List.mem_append.1 hx with hx | hx
  ·exact putS_by _ x hx
  ·obtain ⟨h,hh,hx⟩:=List.mem_flatMap.1 hx
   unfold itemsB at hx
   rcases List.mem_append.1 hx with hx | hx
   ·exact putS_by _ x hx
   ·obtain ⟨y,hy,hx⟩:=List.mem_flatMap.1 hx
    unfold itB at hx
    rcases List.mem_append.1 hx with hx | hx
    ·exact putS_by _ x hx
    ·rcases List.mem_append.1 hx with hx | hx
     ·exact num7_by _ x hx
     ·exact hc h hh y hy x hx
 have cA:=chunk_Put_con a ha
 have cB:=chunk_Put_con b hb
 refine C_chunk_Same nl nl ?_
 simp only [cz,A_chunk_Same,argL,objL,List.length_nil,Nat.zero_add,zX]
 refine aS 16 (fun Q hQ=>by simp (disch:=intros;contradiction) only [zS,chC,chO,simprocAttr];exact hQ) ?_
 refine aBD 96 ?_
 refine rO [] [] (cA.rows (drows_brow _)) ?_
 refine aM ?_
 refine rO [] [] (cB.rows (drows_brow _)) ?_
 refine aM ?_
 refine rC [] (bytes_Equal_con (chB a) (chB b) (by8 h1) (by8 h2)) ?_
 refine aEDs (fun Q hQ=>by simp (disch:=intros;contradiction) only [zS,zW,simprocAttr];exact hQ) ?_
 refine Fin.b (.inr rfl) rfl trivial ?_
 rw [Bool.eq_iff_iff];simp;omega

def wB (w : WR) : List Nat:=putS [u64N w.s] ++ itemsB w.its
def pwB (l : List WR) : List Nat:=l.flatMap wB
def pushB (p : PU) : List Nat:=numsL [p.vol,p.chunk,p.count,p.size,p.frm,p.to,p.floor,p.ws.length] ++ pwB p.ws
def putP (p : PU) : List Nat × Int:=if pushR p = true then (pushB p,0) else ([],23)
theorem pwB_succ (l : List WR) (i : Nat) (hi : i < l.length) : pwB (l.take (i + 1)) = pwB (l.take i) ++ wB l[i]:=by
 unfold pwB;rw [take_one l i hi,List.flatMap_append];simp
theorem wB_len {count size : Int} {w : WR} (h : itemsR count size w.its = true) (hs : size≤32) : (wB w).length≤8200:=by
 have h1:=putS1_len w.s
 have h2:=putS1_len w.its.length
 have h3:=itemsR_mem h
 have h4:=itemsR_len h
 have h5:=itsB_lim w.its (fun x hx=>by have:=(h3 x hx).2.2;omega)
 unfold wB itemsB;simp only [List.length_append];omega
theorem pwB_len {count size : Int} (hs : size≤32) : ∀ (l : List WR),(∀ w ∈ l,itemsR count size w.its = true)→(pwB l).length≤l.length * 8200
 | [],_=>by simp [pwB]
 | w :: l,h=>by
  have h1:=wB_len (h w (by simp)) hs
  have h2:=pwB_len hs l fun y hy=>h y (by simp [hy])
  have : pwB (w :: l) = wB w ++ pwB l:=rfl
  rw [this,List.length_append,List.length_cons];omega

theorem chunk_PutPush_con (p : PU) (ok : Pok p) : Con Try.prog 14 [.agg (pushC p)] [] (.tup [.c (.sl ((putP p).1.map brow)),I (putP p).2]) []:=by
 have cR:=chunk_PushRight_con p ok
 refine C_chunk_PutPush nl nl ?_
 simp only [cz,A_chunk_PutPush,argL,objL,List.length_nil,zX]
 refine aS 16 (fun Q hQ=>by simp (disch:=intros;contradiction) only [zS,pushC,puC,simprocAttr];exact hQ) ?_
 refine aB 96 ?_
 refine rC [] (cR) ?_
 refine aE ?_
 refine aw_cond _ rfl trivial (fun ht=>?_) (fun hf=>?_)
 ·skip
  try simp at ht
  simp only [zX]
  rw [show putP p = ([],23) by unfold putP;rw [if_neg (by simp [ht])]]
  refine aR 176 ?_
  refine Fin.data [] (.inr rfl) rfl (by (exact trivial)) ?_
  simp only [zL,simprocAttr]
  all_goals (simp)
 try simp at hf
 simp only [zX]
 have hpr : pushR p = true:=by simpa using hf
 obtain ⟨q1,q2,q3,q4,q5⟩:=pushR_facts hpr
 rw [show putP p = (pushB p,0) by unfold putP;rw [if_pos hpr]]
 obtain ⟨P,hP⟩ : ∃ P,P = numsL [p.vol,p.chunk,p.count,p.size,p.frm,p.to,p.floor,p.ws.length]:=⟨_,rfl⟩
 have cP:=PackPut_con [p.vol,p.chunk,p.count,p.size,p.frm,p.to,p.floor,p.ws.length] (by simp)
 have hPl:=numsL_len [p.vol,p.chunk,p.count,p.size,p.frm,p.to,p.floor,p.ws.length]
 rw [← hP] at cP hPl
 simp only [List.map_cons,List.map_nil,urow,u64N_nat (show p.ws.length < 18446744073709551616 by omega),u64N_int (show 0≤p.vol by omega) (by omega),u64N_int (show 0≤p.chunk by omega) (by omega),u64N_int (show 0≤p.count by omega) (by omega),u64N_int (show 0≤p.size by omega) (by omega),u64N_int (show 0≤p.frm by omega) (by omega),u64N_int (show 0≤p.to by omega) (by omega),u64N_int (show 0≤p.floor by omega) (by omega)] at cP
 have hR : pushB p = P ++ pwB p.ws:=by unfold pushB;rw [← hP]
 rw [hR]
 simp only [List.length_cons,List.length_nil] at hPl
 refine aBs 240 (fun Q hQ=>by simp (disch:=first | (intros;contradiction) | omega | (simp only [zN];omega)) only [zS,zW,simprocAttr];exact hQ) ?_
 refine rO [] [640] (cP) ?_
 refine aE ?_
 refine aS 720 (fun Q hQ=>by simp (disch:=intros;contradiction) only [zS,zW,simprocAttr];exact hQ) ?_
 refine aw_loopK (X:={ i : Nat // i≤p.ws.length }) [40,41] (fun i=>[(4,.c (.osl 5000)),(42,I i.1)]) [] (fun i=>[(5000,.arr 5 1 ((P ++ pwB (p.ws.take i.1)).map brow) false)]) (fun i=>p.ws.length - i.1) (⟨0,by omega⟩) ?_ ?_
 ·skip
  simp only [keepS,keepE,lk_cons,List.cons_append,List.nil_append,simprocAttr]
  refine Le.lit [] [(5000,656)] _ _ ?_ ?_ ?_ ?_
  ·simp only [zL,simprocAttr]
  ·simp only [zL,simprocAttr]
   all_goals (simp [pwB];(repeat' (((simp [brow,C.isD];done)))))
  ·simp [rlook]
  ·(simp;done)
 rintro ⟨i,hi⟩
 simp only [keepS,keepE,lk_cons,List.cons_append,List.nil_append,simprocAttr]
 simp only [zX]
 refine aR 816 ?_
 refine aw_cond _ rfl trivial (fun ht=>?_) (fun hf=>?_)
 ·skip
  try simp at ht
  simp only [zX]
  have hi' : i < p.ws.length:=by omega
  have hw1:=(q5 _ (List.getElem_mem hi')).2.2
  have e1:=pwB_len (count:=p.count) q1.2.2.2.2 (p.ws.take i) (fun x hx=>(q5 x (List.mem_of_mem_take hx)).2.2)
  simp only [List.length_take] at e1
  have hsucc:=pwB_succ p.ws i hi'
  obtain ⟨w,hww⟩ : ∃ w,p.ws[i] = w:=⟨_,rfl⟩
  rw [hww] at hw1 hsucc
  have g1:=itemsR_len hw1
  have g2:=itemsR_mem hw1
  have cW:=PackPut_con [w.s,w.its.length] (by simp)
  simp only [List.map_cons,u64N_nat (show w.its.length < 18446744073709551616 by omega)] at cW
  have e2:=numsL_len [w.s,w.its.length]
  simp only [List.length_cons,List.length_nil] at e2
  obtain ⟨P2,hP2⟩ : ∃ P2,P2 = P ++ pwB (p.ws.take i) ++ numsL [w.s,w.its.length]:=⟨_,rfl⟩
  have e3 : (P ++ pwB (p.ws.take i)).map brow ++ (numsL [w.s,w.its.length]).map brow = P2.map brow:=by rw [← List.map_append,hP2]
  have hP2l : P2.length≤1000000:=by rw [hP2];simp only [List.length_append];omega
  have hP3 : P ++ pwB (p.ws.take (i + 1)) = P2 ++ itsB w.its:=by rw [hsucc,hP2];simp [wB,itemsB,numsL,putS]
  refine aS 864 (fun Q hQ=>by simp (disch:=first | (intros;contradiction) | omega | (simp only [zN];omega)) only [zS,zW,wrow,wrC,hww,simprocAttr];repeat refine ⟨by (omega),?_⟩;exact hQ) ?_
  refine aBs 960 (fun Q hQ=>by simp (disch:=first | (intros;contradiction) | omega | (simp only [zN];omega)) only [zS,zW,u64N_wrap,simprocAttr];exact hQ) ?_
  refine RG.callo [] [1088] (cW) (.mk (tr_cons (tr_view (by simp) rfl (by simp [isDRows,urow,C.isD])) tr_nil) (by trivial) (by simp) (by simp) (views1 rfl trivial) (by (simp [lkE_cons,lkE_nil];done)) (by (simp [Ent.pure];repeat' ((exact drows_brow _)))) (by simp) (by simp)) ?_
  refine aEs (fun Q hQ=>by simp (disch:=intros;contradiction) only [zS,zW,e3,simprocAttr];repeat refine ⟨by (exact ⟨by (intro q hq;obtain ⟨_,_,rfl⟩:=List.mem_map.1 hq;rfl),by omega⟩),?_⟩;exact hQ) ?_
  refine aS 1184 (fun Q hQ=>by simp (disch:=intros;contradiction) only [zS,zW,simprocAttr];exact hQ) ?_
  refine aw_loopK (X:={ k : Nat // k≤w.its.length }) [40,41,42,58,59] (fun k=>[(4,.c (.osl 5000)),(60,I k.1)]) [] (fun k=>[(5000,.arr 5 1 ((P2 ++ itsB (w.its.take k.1)).map brow) false)]) (fun k=>w.its.length - k.1) (⟨0,by omega⟩) ?_ ?_
  ·skip
   simp only [keepS,keepE,lk_cons,List.cons_append,List.nil_append,simprocAttr]
   refine Le.lit [] [(5000,1120)] _ _ ?_ ?_ ?_ ?_
   ·simp only [zL,simprocAttr]
   ·simp only [zL,simprocAttr]
    all_goals (simp [itsB];(repeat' (((simp [brow,C.isD];done)))))
   ·simp [rlook]
   ·(simp;done)
  rintro ⟨k,hk⟩
  simp only [keepS,keepE,lk_cons,List.cons_append,List.nil_append,simprocAttr]
  simp only [zX]
  refine aR 1280 ?_
  refine aw_cond _ rfl trivial (fun ht=>?_) (fun hf=>?_)
  ·skip
   try simp at ht
   simp only [zX]
   have hk' : k < w.its.length:=by omega
   have hx:=(g2 _ (List.getElem_mem hk')).2.2
   have e4:=itsB_lim (w.its.take k) (fun x hx=>by have:=(g2 x (List.mem_of_mem_take hx)).2.2;omega)
   simp only [List.length_take] at e4
   have hsucc2:=itsB_succ w.its k hk'
   obtain ⟨x,hxx⟩ : ∃ x,w.its[k] = x:=⟨_,rfl⟩
   rw [hxx] at hx hsucc2
   obtain ⟨A,hA⟩ : ∃ A,A = P2 ++ itsB (w.its.take k):=⟨_,rfl⟩
   have hAl : A.length≤2000000:=by rw [hA];simp only [List.length_append];omega
   have e5:=putS1_len x.b
   have e6:=num7_len x.d.length (by omega)
   rw [← hA]
   have hfl : ([A,putS [u64N x.b],num7 x.d.length ++ x.d] : List (List Nat)).flatten = P2 ++ itsB (w.its.take (k + 1)):=by rw [hsucc2,hA];simp [itB]
   have cJ:=pack_Join_con [A,putS [u64N x.b],num7 x.d.length ++ x.d] (by simp;omega) (by simp)
   rw [hfl] at cJ
   refine aS 1328 (fun Q hQ=>by simp (disch:=first | (intros;contradiction) | omega | (simp only [zN];omega)) only [zS,zW,irow,itC,hxx,simprocAttr];repeat refine ⟨by (omega),?_⟩;exact hQ) ?_
   refine awp_pre [(4,.c (.sl (A.map brow))),(8,.c (.bp 1360 0)),(40,.c (.sl (p.ws.map wrow))),(41,I p.ws.length),(42,I i),(58,.c (.sl (w.its.map irow))),(59,I w.its.length),(60,I k)] [(1360,.box [.v (.int .i64 x.b),.sl (x.d.map brow)])] ?_ ?_
   ·skip
    refine Le.lit [5000] [] _ _ ?_ ?_ ?_ ?_
    ·simp only [zL,simprocAttr]
     all_goals (exact ⟨⟨_,_,rfl⟩,drows_brow _⟩;skip)
    ·simp only [zL,simprocAttr]
    ·simp [rlook]
    ·(simp;done)
   refine aBDs 1424 (fun Q hQ=>by simp (disch:=intros;contradiction) only [zS,u64N_wrap,simprocAttr];exact hQ) ?_
   refine rO [] [1488] ((PackPut1_con x.b).rows (drows_brow _)) ?_
   refine aM ?_
   refine rO [] [] ((pack_Lump_con x.d (by omega)).rows (drows_brow _)) ?_
   refine aM ?_
   refine RG.callo [] [1568] (cJ) (.mk (tr_cons (tr_view (by simp) rfl (by simp [isDRows,prow,C.isD])) tr_nil) (by trivial) (by simp) (by simp) (views1 rfl trivial) (by (simp [lkE_cons,lkE_nil];done)) (by (simp [Ent.pure];repeat' (((rw [← List.map_append];first | exact drows_brow _ | exact drows_nrow _ | exact drows_irow _ | exact drows_wrow _))))) (by simp) (by simp)) ?_
   refine aED ?_
   refine aS 1648 (fun Q hQ=>by simp (disch:=first | (intros;contradiction) | omega | (simp only [zN];omega)) only [zS,zW,simprocAttr];exact hQ) ?_
   refine ⟨⟨k + 1,hk'⟩,?_,by first | omega | (simp only;omega)⟩
   refine Le.lit [] [(5000,1584)] _ _ ?_ ?_ ?_ ?_
   ·simp only [zL,simprocAttr]
    all_goals (try ((repeat' (rfl))))
   ·simp only [zL,simprocAttr]
    all_goals (try ((repeat' ((exact drows_brow _)))))
   ·simp [rlook]
   ·(simp;done)
  try simp at hf
  simp only [zX,↓reduceIte]
  obtain rfl : k = w.its.length:=by omega
  refine aS 1712 (fun Q hQ=>by simp (disch:=first | (intros;contradiction) | omega | (simp only [zN];omega)) only [zS,zW,simprocAttr];exact hQ) ?_
  refine ⟨⟨i + 1,hi'⟩,?_,by first | omega | (simp only;omega)⟩
  refine Le.lit [] [] _ _ ?_ ?_ ?_ ?_
  ·simp only [zL,simprocAttr]
   all_goals (try ((repeat' (rfl))))
  ·simp only [zL,simprocAttr]
   all_goals (rw [hP3];exact ⟨rfl,drows_brow _⟩;skip)
  ·simp [rlook]
  ·(simp;done)
 try simp at hf
 simp only [zX,↓reduceIte]
 obtain rfl : i = p.ws.length:=by omega
 refine aS 1776 (fun Q hQ=>by simp (disch:=intros;contradiction) only [zS,zW,simprocAttr];exact hQ) ?_
 refine Fin.data [5000] (.inr rfl) rfl (by (exact trivial)) ?_
 simp only [zL,simprocAttr]
 all_goals ((try rw [List.take_length]);exact ⟨⟨_,_,rfl⟩,drows_brow _⟩)

theorem mementoref13_PutPush_con (p : PU) (ok : Pok p) : Con Try.prog 15 [.agg (pushC p)] [] (.tup [.c (.sl ((putP p).1.map brow)),I (putP p).2]) []:=by
 have cR:=mementoref13_PushRight_con p ok
 refine C_mementoref13_PutPush nl nl ?_
 simp only [cz,A_mementoref13_PutPush,argL,objL,List.length_nil,zX]
 refine aS 16 (fun Q hQ=>by simp (disch:=intros;contradiction) only [zS,pushC,puC,simprocAttr];exact hQ) ?_
 refine aB 96 ?_
 refine rC [] (cR) ?_
 refine aE ?_
 refine aw_cond _ rfl trivial (fun ht=>?_) (fun hf=>?_)
 ·skip
  try simp at ht
  simp only [zX]
  rw [show putP p = ([],23) by unfold putP;rw [if_neg (by simp [ht])]]
  refine aR 176 ?_
  refine Fin.data [] (.inr rfl) rfl (by (exact trivial)) ?_
  simp only [zL,simprocAttr]
  all_goals (simp)
 try simp at hf
 simp only [zX]
 have hpr : pushR p = true:=by simpa using hf
 obtain ⟨q1,q2,q3,q4,q5⟩:=pushR_facts hpr
 rw [show putP p = (pushB p,0) by unfold putP;rw [if_pos hpr]]
 obtain ⟨P,hP⟩ : ∃ P,P = numsL [p.vol,p.chunk,p.count,p.size,p.frm,p.to,p.floor,p.ws.length]:=⟨_,rfl⟩
 have cP:=nums13_con [p.vol,p.chunk,p.count,p.size,p.frm,p.to,p.floor,p.ws.length] (by simp)
 have hPl:=numsL_len [p.vol,p.chunk,p.count,p.size,p.frm,p.to,p.floor,p.ws.length]
 rw [← hP] at cP hPl
 have hR : pushB p = P ++ pwB p.ws:=by unfold pushB;rw [← hP]
 rw [hR]
 simp only [List.length_cons,List.length_nil] at hPl
 refine aBs 240 (fun Q hQ=>by simp (disch:=intros;contradiction) only [zS,zW,simprocAttr];exact hQ) ?_
 refine rO [] [512] (cP) ?_
 refine aE ?_
 refine aR 592 ?_
 refine aw_loopK (X:={ i : Nat // i≤p.ws.length }) [1] (fun i=>[(4,.c (.osl 5000)),(5,I i.1)]) [16] (fun i=>[(5000,.arr 5 1 ((P ++ pwB (p.ws.take i.1)).map brow) false)]) (fun i=>p.ws.length - i.1) (⟨0,by omega⟩) ?_ ?_
 ·skip
  simp only [keepS,keepE,Option.getD_some,lk_cons,lkE_cons,List.cons_append,List.nil_append,simprocAttr]
  refine Le.lit [] [(5000,528)] _ _ ?_ ?_ ?_ ?_
  ·simp only [zL,simprocAttr]
  ·simp only [zL,simprocAttr]
   all_goals (simp [pwB];(repeat' (((simp [brow,C.isD];done)))))
  ·simp [rlook]
  ·(simp;done)
 rintro ⟨i,hi⟩
 simp only [keepS,keepE,Option.getD_some,lk_cons,lkE_cons,List.cons_append,List.nil_append,simprocAttr]
 simp only [zX]
 refine aS 640 (fun Q hQ=>by simp (disch:=intros;contradiction) only [zS,zW,simprocAttr];exact hQ) ?_
 refine aw_cond _ rfl trivial (fun ht=>?_) (fun hf=>?_)
 ·skip
  try simp at ht
  simp only [zX]
  have hi' : i < p.ws.length:=by omega
  have hw1:=(q5 _ (List.getElem_mem hi')).2.2
  have e1:=pwB_len (count:=p.count) q1.2.2.2.2 (p.ws.take i) (fun x hx=>(q5 x (List.mem_of_mem_take hx)).2.2)
  simp only [List.length_take] at e1
  have hsucc:=pwB_succ p.ws i hi'
  obtain ⟨w,hww⟩ : ∃ w,p.ws[i] = w:=⟨_,rfl⟩
  rw [hww] at hw1 hsucc
  have g1:=itemsR_len hw1
  have g2:=itemsR_mem hw1
  have e2:=putS1_len w.s
  have e4:=putS1_len w.its.length
  have e5:=itsB_lim w.its (fun x hx=>by have:=(g2 x hx).2.2;omega)
  have e6 : (itemsB w.its).length≤9000:=by unfold itemsB;rw [List.length_append];omega
  have e3 : (P ++ pwB (p.ws.take i)).map brow ++ (putS [u64N w.s]).map brow ++ (itemsB w.its).map brow = (P ++ pwB (p.ws.take (i + 1))).map brow:=by rw [← List.map_append,← List.map_append,hsucc];simp [wB]
  refine aBDs 752 (fun Q hQ=>by simp (disch:=first | (intros;contradiction) | omega | (simp only [zN];omega)) only [zS,zW,wrow,wrC,hww,simprocAttr];repeat refine ⟨by (omega),?_⟩;exact hQ) ?_
  refine rO [] [864] (num1_13 w.s) ?_
  refine RG.go fun Q hQ=>?_
  simp (disch:=first | (intros;contradiction) | omega | (simp only [zN];omega)) only [zS,zW,wrow,wrC,hww,simprocAttr]
  repeat refine ⟨by (first | omega | exact ⟨by (intro q hq;obtain ⟨_,_,rfl⟩:=List.mem_map.1 hq;rfl),by omega⟩),?_⟩
  refine hQ ?_
  refine rO [] [] (PutItems_con w.its (by omega) (fun x hx=>by have:=(g2 x hx).2.2;omega)) ?_
  refine aEDs (fun Q hQ=>by simp (disch:=intros;contradiction) only [zS,zW,e3,simprocAttr];repeat refine ⟨by (exact ⟨by (intro q hq;obtain ⟨_,_,rfl⟩:=List.mem_map.1 hq;rfl),by omega⟩),?_⟩;exact hQ) ?_
  refine aS 1088 (fun Q hQ=>by simp (disch:=first | (intros;contradiction) | omega | (simp only [zN];omega)) only [zS,zW,simprocAttr];exact hQ) ?_
  refine ⟨⟨i + 1,hi'⟩,?_,by first | omega | (simp only;omega)⟩
  refine Le.lit [] [(5000,1024)] _ _ ?_ ?_ ?_ ?_
  ·simp only [zL,simprocAttr]
   all_goals (try ((repeat' (rfl))))
  ·simp only [zL,simprocAttr]
   all_goals (try ((repeat' ((exact drows_brow _)))))
  ·simp [rlook]
  ·(simp;done)
 try simp at hf
 simp only [zX,↓reduceIte]
 obtain rfl : i = p.ws.length:=by omega
 refine aS 1168 (fun Q hQ=>by simp (disch:=intros;contradiction) only [zS,zW,simprocAttr];exact hQ) ?_
 refine Fin.data [5000] (.inr rfl) rfl (by (exact trivial)) ?_
 simp only [zL,simprocAttr]
 all_goals ((try rw [List.take_length]);exact ⟨⟨_,_,rfl⟩,drows_brow _⟩)

end Go.Abs

namespace Go.Abs
open Go Go.Proofs
set_option maxRecDepth 100000
set_option linter.unusedSimpArgs false

theorem rdN_num7 (r : List Nat) : ∀ (n i acc : Nat),n * 128 ^ i < 18446744073709551616→(i = 0∨0 < n)→rdN i acc (num7 n ++ r) = (acc + n * 128 ^ i,i + (num7 n).length,0):=by
 intro n
 induction n using Nat.strongRecOn with
 | ind n ih =>
  intro i acc hb hi
  have h9 : i = 9→n < 2:=by
   intro h
   subst h
   rcases Nat.lt_or_ge n 2 with h | h
   ·exact h
   ·have:=Nat.mul_le_mul_right (128 ^ 9) h
    omega
  by_cases hn : n < 128
  ·have e : num7 n = [n]:=by rw [num7,if_pos hn]
   rw [e,List.singleton_append,rdN,if_neg (by omega),if_neg (by omega),if_neg (by omega),Nat.mod_eq_of_lt hn]
   rfl
  ·have e : num7 n = (n % 128 + 128) :: num7 (n / 128):=by rw [num7,if_neg hn]
   rw [e,List.cons_append,rdN,if_neg (by omega),if_pos (by omega)]
   have hmul : n * 128 ^ i = n % 128 * 128 ^ i + n / 128 * 128 ^ (i + 1):=by
    have h1 : n / 128 * 128 ^ (i + 1) = 128 * (n / 128) * 128 ^ i:=by rw [Nat.pow_succ,Nat.mul_comm (128 ^ i) 128,← Nat.mul_assoc,Nat.mul_comm (n / 128) 128]
    rw [h1,← Nat.add_mul]
    congr 1
    omega
   rw [ih (n / 128) (by omega) (i + 1) _ (by omega) (.inr (by omega))]
   simp only [Nat.add_mod_right,Nat.mod_mod,List.length_cons,Prod.mk.injEq,and_true]
   constructor
   ·omega
   ·omega

theorem numR_num7 {most n : Nat} (r : List Nat) (h : n≤most) (hb : n < 18446744073709551616) : numR most (num7 n ++ r) 0 = (n,r,0):=by
 have hr:=rdN_num7 r n 0 0 (by simpa using hb) (.inl rfl)
 unfold numR
 rw [hr]
 simp [Nat.not_lt.2 h]

theorem lumpR_lump {most : Nat} (d r : List Nat) (h : d.length≤most) (hb : d.length < 18446744073709551616) : lumpR most (num7 d.length ++ d ++ r) 0 = (d,r,0):=by
 unfold lumpR
 rw [List.append_assoc,numR_num7 _ h hb]
 simp


end Go.Abs

namespace Go.Abs
open Go Go.Proofs
set_option maxRecDepth 100000
set_option linter.unusedSimpArgs false
set_option maxHeartbeats 8000000

def jI : Nat→List IT→List Nat→Nat→List IT × List Nat × Nat
 | 0,acc,l,e=>(acc,l,e)
 | k + 1,acc,l,e=>jI k (acc ++ [⟨((numR 1099511627776 l e).1 : Int),(lumpR 32 (numR 1099511627776 l e).2.1 (numR 1099511627776 l e).2.2).1⟩]) (lumpR 32 (numR 1099511627776 l e).2.1 (numR 1099511627776 l e).2.2).2.1 (lumpR 32 (numR 1099511627776 l e).2.1 (numR 1099511627776 l e).2.2).2.2
def jW3 (s : Nat) (q : List IT × List Nat × Nat) : WR × List Nat × Nat:=(⟨s,q.1⟩,q.2)
def jW2 (s : Nat) (q : NR) : WR × List Nat × Nat:=jW3 s (jI q.1 [] q.2.1 q.2.2)
def jW1 (q : NR) : WR × List Nat × Nat:=jW2 q.1 (numR 8 q.2.1 q.2.2)
def jW (l : List Nat) (e : Nat) : WR × List Nat × Nat:=jW1 (numR 1099511627776 l e)
def jWs : Nat→List WR→List Nat→Nat→List WR × List Nat × Nat
 | 0,acc,l,e=>(acc,l,e)
 | k + 1,acc,l,e=>jWs k (acc ++ [(jW l e).1]) (jW l e).2.1 (jW l e).2.2
def jp9 (a b c d f g h : Nat) (q : List WR × List Nat × Nat) : PU:=⟨a,b,c,d,f,g,h,q.1⟩
def jp8 (a b c d f g h : Nat) (q : NR) : PU:=jp9 a b c d f g h (jWs q.1 [] q.2.1 q.2.2)
def jp7 (a b c d f g : Nat) (q : NR) : PU:=jp8 a b c d f g q.1 (numR 4 q.2.1 q.2.2)
def jp6 (a b c d f : Nat) (q : NR) : PU:=jp7 a b c d f q.1 (numR 1099511627776 q.2.1 q.2.2)
def jp5 (a b c d : Nat) (q : NR) : PU:=jp6 a b c d q.1 (numR 1099511627776 q.2.1 q.2.2)
def jp4 (a b c : Nat) (q : NR) : PU:=jp5 a b c q.1 (numR 1099511627776 q.2.1 q.2.2)
def jp3 (a b : Nat) (q : NR) : PU:=jp4 a b q.1 (numR 1099511627776 q.2.1 q.2.2)
def jp2 (a : Nat) (q : NR) : PU:=jp3 a q.1 (numR 1099511627776 q.2.1 q.2.2)
def jp1 (q : NR) : PU:=jp2 q.1 (numR 1099511627776 q.2.1 q.2.2)
def jP (l : List Nat) : PU:=jp1 (numR 1099511627776 l 0)
def zeroP : PU:=⟨0,0,0,0,0,0,0,[]⟩
def readP (l : List Nat) : PU × Int:=if pushR (jP l) = true∧pushB (jP l) = l then (jP l,0) else (zeroP,20)

def GI (n k : Nat) (l : List IT) : Prop:=l.length≤k∧byI l∧∀ x ∈ l,x.d.length≤n
theorem GI.snoc {n k : Nat} {l : List IT} {x : IT} (h : GI n k l) (h1 : ∀ c ∈ x.d,c < 256) (h2 : x.d.length≤n) : GI n (k + 1) (l ++ [x]) :=
  ⟨by simp;exact h.1,fun y hy=>by rcases List.mem_append.1 hy with hy | hy;exact h.2.1 y hy;simp only [List.mem_singleton] at hy;subst hy;exact h1,
   fun y hy=>by rcases List.mem_append.1 hy with hy | hy;exact h.2.2 y hy;simp only [List.mem_singleton] at hy;subst hy;exact h2⟩
def GW (n k : Nat) (l : List WR) : Prop:=l.length≤k∧∀ w ∈ l,GI n 8 w.its
theorem GW.snoc {n k : Nat} {l : List WR} {w : WR} (h : GW n k l) (h1 : GI n 8 w.its) : GW n (k + 1) (l ++ [w]) :=
 ⟨by simp;exact h.1,fun y hy=>by rcases List.mem_append.1 hy with hy | hy;exact h.2 y hy;simp only [List.mem_singleton] at hy;subst hy;exact h1⟩
theorem GW.pok {n : Nat} {p : PU} (hn : n≤1000000) (h : GW n 4 p.ws) : Pok p∧byW p.ws :=
 ⟨⟨by have:=h.1;omega,fun w hw=>⟨by have:=(h.2 w hw).1;omega,fun x hx=>by have:=(h.2 w hw).2.2 x hx;omega⟩⟩,fun w hw=>(h.2 w hw).2.1⟩

theorem pushB_by (p : PU) (h : byW p.ws) : ∀ x ∈ pushB p,x < 256:=by
 intro x hx
 unfold pushB at hx
 rcases List.mem_append.1 hx with hx | hx
 ·exact putS_by _ x hx
 ·obtain ⟨w,hw,hx⟩:=List.mem_flatMap.1 hx
  unfold wB itemsB at hx
  rcases List.mem_append.1 hx with hx | hx
  ·exact putS_by _ x hx
  ·rcases List.mem_append.1 hx with hx | hx
   ·exact putS_by _ x hx
   ·obtain ⟨y,hy,hx⟩:=List.mem_flatMap.1 hx
    unfold itB at hx
    rcases List.mem_append.1 hx with hx | hx
    ·exact putS_by _ x hx
    ·rcases List.mem_append.1 hx with hx | hx
     ·exact num7_by _ x hx
     ·exact h w hw y hy x hx
theorem putP_by (p : PU) (h : byW p.ws) : ∀ x ∈ (putP p).1,x < 256:=by
 unfold putP
 split
 ·exact pushB_by p h
 ·intro x hx;cases hx

theorem chunk_ReadPush_1_con (l : List Nat) (e : Nat) (hl : ∀ c ∈ l,c < 256) (hb : l.length≤140737488355328) :
  Con Try.prog 57 [.c (.bp 0 0)] [.box [.bp 1 0],Rd l e] (I (numR 1099511627776 l e).1) [.box [.bp 1 0],Rd (numR 1099511627776 l e).2.1 (numR 1099511627776 l e).2.2]:=by
 have hm : (numR 1099511627776 l e).1≤1099511627776:=numR_le
 have cN:=pack_Reader_Num_con l e 1099511627776 hl hb
 generalize numR 1099511627776 l e = q at hm cN
 obtain ⟨v,l1,e1⟩:=q
 simp only at hm cN
 refine C_chunk_ReadPush_1 nl nl ?_
 simp only [cz,A_chunk_ReadPush_1,argL,objL,List.length_nil,List.length_cons,Nat.zero_add,zX,simprocAttr]
 refine aR 16 ?_
 refine aB 64 ?_
 refine rO [1] [] (cN) ?_
 refine aEs (fun Q hQ=>by simp (disch:=first | (intros;contradiction) | omega | (simp only [zN];omega)) only [zS,zW,simprocAttr];exact hQ) ?_
 refine Fin.objs [] [] (.inr rfl) rfl (by exact trivial) ?_ ?_ (by simp [objL,rlook]) (by (intro k hk;simp [objL,rlook];omega))
 ·simp only [zL,simprocAttr]
 ·simp only [zL,simprocAttr]

theorem chunk_ReadPush_con (l : List Nat) (h8 : ∀ c ∈ l,c < 256) (hn : l.length≤1000000) :
  Con Try.prog 21 [.c (.sl (l.map brow))] [] (.tup [.agg (pushC (readP l).1),I (readP l).2]) []:=by
 have hr : RestOk 1000000 l:=⟨h8,hn⟩
 obtain ⟨R,hR⟩ : ∃ R,R = jP l:=⟨_,rfl⟩
 unfold readP
 rw [← hR]
 unfold jP at hR
 have c1:=chunk_ReadPush_1_con l 0 hr.b8 (by have:=hr.len;omega)
 have g1:=hr.num 1099511627776 0
 have k1 : (numR 1099511627776 l 0).1≤1099511627776:=numR_le
 generalize numR 1099511627776 l 0 = q at hR c1 g1 k1
 obtain ⟨a1,l1,e1⟩:=q
 simp only at c1 g1 k1
 unfold jp1 at hR
 simp only at hR
 have c2:=chunk_ReadPush_1_con l1 e1 g1.b8 (by have:=g1.len;omega)
 have g2:=g1.num 1099511627776 e1
 have k2 : (numR 1099511627776 l1 e1).1≤1099511627776:=numR_le
 generalize numR 1099511627776 l1 e1 = q at hR c2 g2 k2
 obtain ⟨a2,l2,e2⟩:=q
 simp only at c2 g2 k2
 unfold jp2 at hR
 simp only at hR
 have c3:=chunk_ReadPush_1_con l2 e2 g2.b8 (by have:=g2.len;omega)
 have g3:=g2.num 1099511627776 e2
 have k3 : (numR 1099511627776 l2 e2).1≤1099511627776:=numR_le
 generalize numR 1099511627776 l2 e2 = q at hR c3 g3 k3
 obtain ⟨a3,l3,e3⟩:=q
 simp only at c3 g3 k3
 unfold jp3 at hR
 simp only at hR
 have c4:=chunk_ReadPush_1_con l3 e3 g3.b8 (by have:=g3.len;omega)
 have g4:=g3.num 1099511627776 e3
 have k4 : (numR 1099511627776 l3 e3).1≤1099511627776:=numR_le
 generalize numR 1099511627776 l3 e3 = q at hR c4 g4 k4
 obtain ⟨a4,l4,e4⟩:=q
 simp only at c4 g4 k4
 unfold jp4 at hR
 simp only at hR
 have c5:=chunk_ReadPush_1_con l4 e4 g4.b8 (by have:=g4.len;omega)
 have g5:=g4.num 1099511627776 e4
 have k5 : (numR 1099511627776 l4 e4).1≤1099511627776:=numR_le
 generalize numR 1099511627776 l4 e4 = q at hR c5 g5 k5
 obtain ⟨a5,l5,e5⟩:=q
 simp only at c5 g5 k5
 unfold jp5 at hR
 simp only at hR
 have c6:=chunk_ReadPush_1_con l5 e5 g5.b8 (by have:=g5.len;omega)
 have g6:=g5.num 1099511627776 e5
 have k6 : (numR 1099511627776 l5 e5).1≤1099511627776:=numR_le
 generalize numR 1099511627776 l5 e5 = q at hR c6 g6 k6
 obtain ⟨a6,l6,e6⟩:=q
 simp only at c6 g6 k6
 unfold jp6 at hR
 simp only at hR
 have c7:=chunk_ReadPush_1_con l6 e6 g6.b8 (by have:=g6.len;omega)
 have g7:=g6.num 1099511627776 e6
 have k7 : (numR 1099511627776 l6 e6).1≤1099511627776:=numR_le
 generalize numR 1099511627776 l6 e6 = q at hR c7 g7 k7
 obtain ⟨a7,l7,e7⟩:=q
 simp only at c7 g7 k7
 unfold jp7 at hR
 simp only at hR
 have c8:=pack_Reader_Num_con l7 e7 4 g7.b8 (by have:=g7.len;omega)
 have g8:=g7.num 4 e7
 have k8 : (numR 4 l7 e7).1≤4:=numR_le
 generalize numR 4 l7 e7 = q at hR c8 g8 k8
 obtain ⟨m,l8,e8⟩:=q
 simp only at c8 g8 k8
 unfold jp8 at hR
 simp only at hR
 obtain ⟨RW,hRW⟩ : ∃ x,x = jWs m [] l8 e8:=⟨_,rfl⟩
 rw [← hRW] at hR
 refine C_chunk_ReadPush nl nl ?_
 simp only [cz,A_chunk_ReadPush,argL,objL,List.length_nil,zX]
 refine aR 16 ?_
 refine aB 80 ?_
 refine rO [] [] (pack_New_con (l.map brow) (drows_brow l) (brow_len l) (by simp;omega)) ?_
 refine aE ?_
 refine aS 176 (fun Q hQ=>by simp (disch:=intros;contradiction) only [zS,simprocAttr];repeat refine ⟨by ((simp;done)),?_⟩;exact hQ) ?_
 refine aB 240 ?_
 refine RG.callvo [112,96] [] rfl trivial (c1) (.mk (by (repeat' (first | exact tr_nil | refine tr_cons ?_ ?_ | exact tr_bp rfl))) (by (simp only [zT,simprocAttr];done)) (by simp) (by simp) (trivial) (by (simp [lkE_cons,lkE_nil];done)) (by (simp [Ent.pure];done)) (by simp) (by simp)) ?_
 refine aM ?_
 refine RG.callvo [112,96] [] rfl trivial (c2) (.mk (by (repeat' (first | exact tr_nil | refine tr_cons ?_ ?_ | exact tr_bp rfl))) (by (simp only [zT,simprocAttr];done)) (by simp) (by simp) (trivial) (by (simp [lkE_cons,lkE_nil];done)) (by (simp [Ent.pure];done)) (by simp) (by simp)) ?_
 refine aM ?_
 refine RG.callvo [112,96] [] rfl trivial (c3) (.mk (by (repeat' (first | exact tr_nil | refine tr_cons ?_ ?_ | exact tr_bp rfl))) (by (simp only [zT,simprocAttr];done)) (by simp) (by simp) (trivial) (by (simp [lkE_cons,lkE_nil];done)) (by (simp [Ent.pure];done)) (by simp) (by simp)) ?_
 refine aM ?_
 refine RG.callvo [112,96] [] rfl trivial (c4) (.mk (by (repeat' (first | exact tr_nil | refine tr_cons ?_ ?_ | exact tr_bp rfl))) (by (simp only [zT,simprocAttr];done)) (by simp) (by simp) (trivial) (by (simp [lkE_cons,lkE_nil];done)) (by (simp [Ent.pure];done)) (by simp) (by simp)) ?_
 refine aM ?_
 refine RG.callvo [112,96] [] rfl trivial (c5) (.mk (by (repeat' (first | exact tr_nil | refine tr_cons ?_ ?_ | exact tr_bp rfl))) (by (simp only [zT,simprocAttr];done)) (by simp) (by simp) (trivial) (by (simp [lkE_cons,lkE_nil];done)) (by (simp [Ent.pure];done)) (by simp) (by simp)) ?_
 refine aM ?_
 refine RG.callvo [112,96] [] rfl trivial (c6) (.mk (by (repeat' (first | exact tr_nil | refine tr_cons ?_ ?_ | exact tr_bp rfl))) (by (simp only [zT,simprocAttr];done)) (by simp) (by simp) (trivial) (by (simp [lkE_cons,lkE_nil];done)) (by (simp [Ent.pure];done)) (by simp) (by simp)) ?_
 refine aM ?_
 refine RG.callvo [112,96] [] rfl trivial (c7) (.mk (by (repeat' (first | exact tr_nil | refine tr_cons ?_ ?_ | exact tr_bp rfl))) (by (simp only [zT,simprocAttr];done)) (by simp) (by simp) (trivial) (by (simp [lkE_cons,lkE_nil];done)) (by (simp [Ent.pure];done)) (by simp) (by simp)) ?_
 refine aE ?_
 refine aB 544 ?_
 refine rO [96] [] (c8) ?_
 refine aE ?_
 refine aw_loopK (X:={ x : Nat × List WR × List Nat × Nat // x.1≤m∧GW 1000000 x.1 x.2.1∧RestOk 1000000 x.2.2.1∧jWs (m - x.1) x.2.1 x.2.2.1 x.2.2.2 = RW }) [0,2,4,5,6,29] (fun x=>[(30,.c (.v (.int .u64 x.1.1)))]) [16,112] (fun x=>[(96,Rd x.1.2.2.1 x.1.2.2.2),(480,.box [.v (.int .i64 a1),.v (.int .i64 a2),.v (.int .i64 a3),.v (.int .i64 a4),.v (.int .i64 a5),.v (.int .i64 a6),.v (.int .i64 a7),.osl 5000]),(5000,.arr 30 2 (x.1.2.1.map wrow) false)]) (fun x=>m - x.1.1) (⟨(0,[],l8,e8),by simp only;omega,⟨Nat.le_refl _,fun w hw=>by cases hw⟩,g8,hRW.symm⟩) ?_ ?_
 ·skip
  simp only [keepS,keepE,Option.getD_some,lk_cons,lkE_cons,List.cons_append,List.nil_append,simprocAttr]
  refine (Le.ownB 480 7 5000 _ 30 2 rfl rfl rfl (by decide)).trans ?_
  simp only [List.set_cons_succ,List.set_cons_zero,setE_cons,setE_nil,simprocAttr]
  refine Le.lit [] [] _ _ ?_ ?_ ?_ ?_
  ·simp only [zL,simprocAttr]
  ·simp only [zL,simprocAttr]
   all_goals (try ((repeat' (((simp [C.isD];done))))))
  ·simp [rlook]
  ·(simp;done)
 rintro ⟨⟨i,acc,la,ea⟩,u1,u2,u3,u4⟩
 simp only [keepS,keepE,Option.getD_some,lk_cons,lkE_cons,List.cons_append,List.nil_append,simprocAttr]
 simp only [zX]
 simp only at u1 u2 u3 u4
 refine aR 624 ?_
 refine aw_cond _ rfl trivial (fun ht=>?_) (fun hf=>?_)
 ·skip
  try simp at ht
  simp only [zX]
  obtain ⟨d,hd⟩ : ∃ d,m - i = d + 1:=⟨m - i - 1,by omega⟩
  rw [hd] at u4
  unfold jWs at u4
  have v0:=u3.len
  have cS:=chunk_ReadPush_1_con la ea u3.b8 (by omega)
  have v1:=u3.num 1099511627776 ea
  have v2 : (numR 1099511627776 la ea).1≤1099511627776:=numR_le
  obtain ⟨W,hW⟩ : ∃ W,W = jW la ea:=⟨_,rfl⟩
  rw [← hW] at u4
  unfold jW at hW
  generalize numR 1099511627776 la ea = q at hW cS v1 v2
  obtain ⟨s,lb,eb⟩:=q
  simp only at cS v1 v2
  unfold jW1 at hW
  simp only at hW
  have v3:=v1.len
  have cM:=pack_Reader_Num_con lb eb 8 v1.b8 (by omega)
  have v4:=v1.num 8 eb
  have v5 : (numR 8 lb eb).1≤8:=numR_le
  generalize numR 8 lb eb = q at hW cM v4 v5
  obtain ⟨m2,lc,ec⟩:=q
  simp only at cM v4 v5
  unfold jW2 at hW
  simp only at hW
  obtain ⟨RI,hRI⟩ : ∃ x,x = jI m2 [] lc ec:=⟨_,rfl⟩
  rw [← hRI] at hW
  refine aB 672 ?_
  refine RG.callvo [112,96] [] rfl trivial (cS) (.mk (by (repeat' (first | exact tr_nil | refine tr_cons ?_ ?_ | exact tr_bp rfl))) (by (simp only [zT,simprocAttr];done)) (by simp) (by simp) (trivial) (by (simp [lkE_cons,lkE_nil];done)) (by (simp [Ent.pure];done)) (by simp) (by simp)) ?_
  refine aE ?_
  refine aB 784 ?_
  refine rO [96] [] (cM) ?_
  refine aE ?_
  refine aw_loopK (X:={ x : Nat × List IT × List Nat × Nat // x.1≤m2∧GI 1000000 x.1 x.2.1∧RestOk 1000000 x.2.2.1∧jI (m2 - x.1) x.2.1 x.2.2.1 x.2.2.2 = RI }) [0,2,4,5,6,7,29,30,36] (fun x=>[(37,.c (.v (.int .u64 x.1.1)))]) [16,112,480,5000] (fun x=>[(96,Rd x.1.2.2.1 x.1.2.2.2),(720,.box [.v (.int .i64 s),.osl 5001]),(5001,.arr 89 2 (x.1.2.1.map irow) false)]) (fun x=>m2 - x.1.1) (⟨(0,[],lc,ec),by simp only;omega,⟨Nat.le_refl _,fun w hw=>(by cases hw),fun w hw=>(by cases hw)⟩,v4,hRI.symm⟩) ?_ ?_
  ·skip
   simp only [keepS,keepE,Option.getD_some,lk_cons,lkE_cons,List.cons_append,List.nil_append,simprocAttr]
   refine (Le.ownB 720 1 5001 _ 89 2 rfl rfl rfl (by decide)).trans ?_
   simp only [List.set_cons_succ,List.set_cons_zero,setE_cons,setE_nil,simprocAttr]
   refine Le.lit [] [] _ _ ?_ ?_ ?_ ?_
   ·simp only [zL,simprocAttr]
   ·simp only [zL,simprocAttr]
    all_goals (try ((repeat' (first | (first | exact drows_wrow _ | (simp [C.isD];done)) | refine ⟨?_,?_⟩))))
   ·simp [rlook]
   ·(simp;done)
  rintro ⟨⟨k,its,ld,ed⟩,x1,x2,x3,x4⟩
  simp only [keepS,keepE,Option.getD_some,lk_cons,lkE_cons,List.cons_append,List.nil_append,simprocAttr]
  simp only [zX]
  simp only at x1 x2 x3 x4
  refine aR 864 ?_
  refine aw_cond _ rfl trivial (fun ht=>?_) (fun hf=>?_)
  ·skip
   try simp at ht
   simp only [zX]
   obtain ⟨d2,hd2⟩ : ∃ d,m2 - k = d + 1:=⟨m2 - k - 1,by omega⟩
   rw [hd2] at x4
   unfold jI at x4
   have y0:=x3.len
   have y1:=x3.num 1099511627776 ed
   have y2 : (numR 1099511627776 ld ed).1≤1099511627776:=numR_le
   have cB:=chunk_ReadPush_1_con ld ed x3.b8 (by omega)
   generalize numR 1099511627776 ld ed = q at x4 y1 y2 cB
   obtain ⟨b,lf,ef⟩:=q
   simp only at x4 y1 y2 cB
   have y3:=y1.len
   have y4:=y1.lump 32 ef
   have y5:=(lumpR_mem (most:=32) (e:=ef) y1.b8).1
   have y6:=(lumpR_len (most:=32) (l:=lf) (e:=ef)).1
   have cL:=pack_Reader_Lump_con lf ef 32 y1.b8 (by omega) (by omega)
   generalize lumpR 32 lf ef = q at x4 y4 y5 y6 cL
   obtain ⟨bs,lg,eg⟩:=q
   simp only at x4 y4 y5 y6 cL
   have x2l:=x2.1
   have e2 : its.map irow ++ [[.v (.int .i64 b),.sl (bs.map brow)]] = (its ++ [(⟨(b : Int),bs⟩ : IT)]).map irow:=by rw [List.map_append];rfl
   refine aBD 912 ?_
   refine RG.callvk 0 112 [112,96] [] rfl trivial (cB) (.mk (by (repeat' (first | exact tr_nil | refine tr_cons ?_ ?_ | exact tr_bp rfl))) (by (simp only [zT,simprocAttr];done)) (by simp) (by simp) (trivial) (by (simp [lkE_cons,lkE_nil];done)) (by (simp [Ent.pure];done)) (by simp) (by simp)) rfl rfl rfl ?_
   refine aMs (fun Q hQ=>by simp (disch:=intros;contradiction) only [zS,dropId,simprocAttr];exact hQ) ?_
   refine rO [96] [] (cL) ?_
   refine aEDs (fun Q hQ=>by simp (disch:=intros;contradiction) only [zS,zW,e2,simprocAttr];repeat refine ⟨by ((simp;omega)),?_⟩;exact hQ) ?_
   refine aS 1120 (fun Q hQ=>by simp (disch:=first | (intros;contradiction) | omega | (simp only [zN];omega)) only [zS,zW,simprocAttr];exact hQ) ?_
   refine ⟨⟨(k + 1,its ++ [⟨(b : Int),bs⟩],lg,eg),by simp only;omega,x2.snoc y5 (by simp only;omega),y4,by simp only;rw [show m2 - (k + 1) = d2 by omega];exact x4⟩,?_,by first | omega | (simp only;omega)⟩
   refine Le.lit [] [(5001,1040)] _ _ ?_ ?_ ?_ ?_
   ·simp only [zL,simprocAttr]
    all_goals (try ((repeat' (rfl))))
   ·simp only [zL,simprocAttr]
    all_goals (try ((repeat' (first | (first | exact drows_irow _ | exact drows_wrow _) | refine ⟨?_,?_⟩))))
   ·simp [rlook]
   ·(simp;done)
  try simp at hf
  simp only [zX,↓reduceIte]
  have hk : k = m2:=by omega
  subst hk
  rw [Nat.sub_self] at x4
  have x4 : (its,ld,ed) = RI:=x4
  subst x4
  have hW2 : W = (⟨s,its⟩,ld,ed):=hW
  rw [hW2] at u4
  have u2l:=u2.1
  have x2' : GI 1000000 8 its:=⟨by have:=x2.1;omega,x2.2⟩
  refine aS 1184 (fun Q hQ=>by simp (disch:=intros;contradiction) only [zS,zW,simprocAttr];repeat refine ⟨by ((simp;omega)),?_⟩;exact hQ) ?_
  refine aS 1328 (fun Q hQ=>by simp (disch:=first | (intros;contradiction) | omega | (simp only [zN];omega)) only [zS,zW,simprocAttr];exact hQ) ?_
  refine ⟨⟨(i + 1,acc ++ [(⟨s,its⟩ : WR)],ld,ed),by simp only;omega,u2.snoc x2',x3,by simp only;rw [show m - (i + 1) = d by omega];exact u4⟩,?_,by first | omega | (simp only;omega)⟩
  refine (Le.tell [5001] 1248 30 2 _ ((acc ++ [(⟨(s : Int),its⟩ : WR)]).map wrow) false rfl (by rw [List.map_append];refine tell_app ?_ _;exact ⟨⟨.inl rfl,.inr (.inr ⟨_,_,_,_,rfl,rfl,rfl,drows_irow _⟩),trivial⟩,trivial⟩)).trans ?_
  refine Le.lit [] [(5000,1248)] _ _ ?_ ?_ ?_ ?_
  ·simp only [zL,simprocAttr]
   all_goals (try ((repeat' (rfl))))
  ·simp only [zL,simprocAttr]
   all_goals (try ((repeat' ((exact drows_wrow _)))))
  ·simp [rlook]
  ·(simp;done)
 try simp at hf
 simp only [zX,↓reduceIte]
 have hi : i = m:=by omega
 subst hi
 rw [Nat.sub_self] at u4
 have u4 : (acc,la,ea) = RW:=u4
 subst u4
 have hR2 : R = ⟨a1,a2,a3,a4,a5,a6,a7,acc⟩:=hR
 have u2' : GW 1000000 4 acc:=⟨by have:=u2.1;omega,u2.2⟩
 have hok : Pok R∧byW R.ws:=by rw [hR2];exact GW.pok (Nat.le_refl _) u2'
 have cP:=chunk_PutPush_con R hok.1
 have hby:=putP_by R hok.2
 rw [hR2] at cP hby ⊢
 have hE:=bytes_Equal_con (putP ⟨a1,a2,a3,a4,a5,a6,a7,acc⟩).1 l hby h8
 generalize hpp : putP ⟨a1,a2,a3,a4,a5,a6,a7,acc⟩ = pp at cP hE
 obtain ⟨pb,pe⟩:=pp
 have hacc : pushR ⟨a1,a2,a3,a4,a5,a6,a7,acc⟩ = true∧pushB ⟨a1,a2,a3,a4,a5,a6,a7,acc⟩ = l ↔ pe = 0∧pb = l:=by
  unfold putP at hpp
  split at hpp
  ·rename_i h;cases hpp;simp [h]
  ·rename_i h;cases hpp;simp [h]
 simp only at cP hE
 refine aB 1392 ?_
 refine rO [] [5000] (cP) ?_
 refine aE ?_
 refine aB 1536 ?_
 refine rG _ _ (hE) ?_
 refine aEs (fun Q hQ=>by simp (disch:=intros;contradiction) only [zS,simprocAttr];repeat refine ⟨by ((simp;done)),?_⟩;exact hQ) ?_
 refine aw_cond _ rfl trivial (fun ht=>?_) (fun hf=>?_)
 ·skip
  try simp at ht
  simp only [zX]
  rw [if_neg (by rw [hacc];intro h;simp [h] at ht)]
  refine aR 1696 ?_
  refine Fin.data [] (.inr rfl) rfl (by (exact ⟨trivial,trivial⟩)) ?_
  simp only [zL,simprocAttr]
  all_goals ((repeat' (first | exact trivial | rfl | refine ⟨?_,?_⟩)))
 try simp at hf
 simp only [zX]
 rw [if_pos (by rw [hacc];first | exact hf | omega | (constructor <;> (fail)))]
 refine aR 1776 ?_
 refine Fin.data [5000] (.inr rfl) rfl (by (exact ⟨trivial,trivial⟩)) ?_
 simp only [zL,simprocAttr]
 all_goals ((repeat' (first | exact trivial | rfl | (refine ⟨⟨_,_,rfl⟩,?_⟩;(exact drows_wrow _)) | refine ⟨?_,?_⟩)))

end Go.Abs

namespace Go.Abs
open Go Go.Proofs
set_option maxRecDepth 100000
set_option linter.unusedSimpArgs false
set_option maxHeartbeats 8000000

theorem numR_pos1 (n : Nat) (r : List Nat) {most : Nat} (h : n≤most) (hb : n < 18446744073709551616) : numR most (putS [n] ++ r) 0 = (n,r,0):=by
 have : putS [n] = num7 n:=by simp [putS]
 rw [this];exact numR_num7 r h hb
theorem u64N_to {n : Int} (h : 0≤n) (h2 : n < 18446744073709551616) : u64N n = n.toNat:=by unfold u64N;omega
theorem numR_put {n : Int} {most : Nat} (r : List Nat) (h0 : 0≤n) (h : n≤most) (hb : n < 18446744073709551616) : numR most (putS [u64N n] ++ r) 0 = (n.toNat,r,0):=by
 rw [u64N_to h0 hb];exact numR_pos1 _ r (by omega) (by omega)
theorem numsL_cons (n : Int) (l : List Int) : numsL (n :: l) = putS [u64N n] ++ numsL l:=by simp [numsL,putS]
theorem itsB_cons (x : IT) (l : List IT) : itsB (x :: l) = itB x ++ itsB l:=rfl
theorem pwB_cons (w : WR) (l : List WR) : pwB (w :: l) = wB w ++ pwB l:=rfl

def IOk (l : List IT) : Prop:=∀ x ∈ l,0≤x.b∧x.b≤256∧x.d.length≤32
theorem jI_put : ∀ (l acc : List IT) (r : List Nat),IOk l→jI l.length acc (itsB l ++ r) 0 = (acc ++ l,r,0)
 | [],acc,r,_=>by simp [jI,itsB]
 | x :: l,acc,r,h=>by
  obtain ⟨h1,h2,h3⟩:=h x (by simp)
  rw [itsB_cons,List.append_assoc,List.length_cons,jI]
  unfold itB
  rw [List.append_assoc,numR_put (most:=1099511627776) _ h1 (by omega) (by omega)]
  simp only
  rw [lumpR_lump (most:=32) x.d _ h3 (by omega)]
  simp only
  rw [jI_put l _ r fun y hy=>h y (by simp [hy])]
  have : (⟨(x.b.toNat : Int),x.d⟩ : IT) = x:=by rw [it_eq];exact ⟨by simp only;omega,rfl⟩
  rw [this];simp
theorem tkI_put : ∀ (l acc : List IT) (r : List Nat),IOk l→tkI l.length acc (itsB l ++ r) 0 = (acc ++ l,r,0)
 | [],acc,r,_=>by simp [tkI,itsB]
 | x :: l,acc,r,h=>by
  obtain ⟨h1,h2,h3⟩:=h x (by simp)
  rw [itsB_cons,List.append_assoc,List.length_cons,tkI,if_pos rfl]
  unfold itB
  rw [List.append_assoc,numR_put (most:=256) _ h1 (by omega) (by omega)]
  simp only
  rw [lumpR_lump (most:=32) x.d _ h3 (by omega)]
  simp only
  rw [tkI_put l _ r fun y hy=>h y (by simp [hy])]
  have : (⟨(x.b.toNat : Int),x.d⟩ : IT) = x:=by rw [it_eq];exact ⟨by simp only;omega,rfl⟩
  rw [this];simp
theorem takeI_put {l : List IT} (r : List Nat) (h : IOk l) (hl : l.length≤8) : takeI (itemsB l ++ r) 0 = (l,r,0):=by
 unfold takeI itemsB
 rw [List.append_assoc,numR_put (most:=8) _ (by omega) (by omega) (by omega)]
 simp only [Int.toNat_natCast]
 rw [tkI_put l [] r h];simp
def WOk (l : List WR) : Prop:=∀ w ∈ l,0≤w.s∧w.s≤1099511627776∧w.its.length≤8∧IOk w.its
theorem jW_put {w : WR} (r : List Nat) (h1 : 0≤w.s) (h2 : w.s≤1099511627776) (h3 : w.its.length≤8) (h4 : IOk w.its) : jW (wB w ++ r) 0 = (w,r,0):=by
 unfold jW wB itemsB
 rw [List.append_assoc,List.append_assoc,numR_put (most:=1099511627776) _ h1 (by omega) (by omega)]
 unfold jW1
 simp only
 rw [numR_put (most:=8) _ (by omega) (by omega) (by omega)]
 unfold jW2
 simp only [Int.toNat_natCast]
 rw [jI_put w.its [] r h4]
 unfold jW3
 have : (⟨(w.s.toNat : Int),w.its⟩ : WR) = w:=by rw [wr_eq];exact ⟨by simp only;omega,rfl⟩
 simp only [List.nil_append]
 rw [this]
theorem jWs_put : ∀ (l acc : List WR) (r : List Nat),WOk l→jWs l.length acc (pwB l ++ r) 0 = (acc ++ l,r,0)
 | [],acc,r,_=>by simp [jWs,pwB]
 | w :: l,acc,r,h=>by
  obtain ⟨h1,h2,h3,h4⟩:=h w (by simp)
  rw [pwB_cons,List.append_assoc,List.length_cons,jWs,jW_put _ h1 h2 h3 h4]
  simp only
  rw [jWs_put l _ r fun y hy=>h y (by simp [hy])]
  simp

def tW2 (s : Nat) (q : List IT × List Nat × Nat) : WR × List Nat × Nat:=(⟨s,q.1⟩,q.2)
def tW1 (q : NR) : WR × List Nat × Nat:=tW2 q.1 (takeI q.2.1 q.2.2)
def tW (l : List Nat) (e : Nat) : WR × List Nat × Nat:=tW1 (numR 1099511627776 l e)
def tWs : Nat→List WR→List Nat→Nat→List WR × List Nat × Nat
 | 0,acc,l,e=>(acc,l,e)
 | k + 1,acc,l,e=>if e = 0 then tWs k (acc ++ [(tW l e).1]) (tW l e).2.1 (tW l e).2.2 else (acc,l,e)
theorem tW_put {w : WR} (r : List Nat) (h1 : 0≤w.s) (h2 : w.s≤1099511627776) (h3 : w.its.length≤8) (h4 : IOk w.its) : tW (wB w ++ r) 0 = (w,r,0):=by
 unfold tW wB
 rw [List.append_assoc,numR_put (most:=1099511627776) _ h1 (by omega) (by omega)]
 unfold tW1
 simp only
 rw [takeI_put r h4 h3]
 unfold tW2
 have : (⟨(w.s.toNat : Int),w.its⟩ : WR) = w:=by rw [wr_eq];exact ⟨by simp only;omega,rfl⟩
 simp only []
 rw [this]
theorem tWs_put : ∀ (l acc : List WR) (r : List Nat),WOk l→tWs l.length acc (pwB l ++ r) 0 = (acc ++ l,r,0)
 | [],acc,r,_=>by simp [tWs,pwB]
 | w :: l,acc,r,h=>by
  obtain ⟨h1,h2,h3,h4⟩:=h w (by simp)
  rw [pwB_cons,List.append_assoc,List.length_cons,tWs,if_pos rfl,tW_put _ h1 h2 h3 h4]
  simp only
  rw [tWs_put l _ r fun y hy=>h y (by simp [hy])]
  simp
def tp9 (a b c d f g h : Nat) (q : List WR × List Nat × Nat) : PU × Nat:=(⟨a,b,c,d,f,g,h,q.1⟩,q.2.2)
def tp8 (a b c d f g h : Nat) (q : NR) : PU × Nat:=tp9 a b c d f g h (tWs q.1 [] q.2.1 q.2.2)
def tp7 (a b c d f g : Nat) (q : NR) : PU × Nat:=tp8 a b c d f g q.1 (numR 4 q.2.1 q.2.2)
def tp6 (a b c d f : Nat) (q : NR) : PU × Nat:=tp7 a b c d f q.1 (numR 1099511627776 q.2.1 q.2.2)
def tp5 (a b c d : Nat) (q : NR) : PU × Nat:=tp6 a b c d q.1 (numR 1099511627776 q.2.1 q.2.2)
def tp4 (a b c : Nat) (q : NR) : PU × Nat:=tp5 a b c q.1 (numR 1099511627776 q.2.1 q.2.2)
def tp3 (a b : Nat) (q : NR) : PU × Nat:=tp4 a b q.1 (numR 32 q.2.1 q.2.2)
def tp2 (a : Nat) (q : NR) : PU × Nat:=tp3 a q.1 (numR 256 q.2.1 q.2.2)
def tp1 (q : NR) : PU × Nat:=tp2  q.1 (numR 256 q.2.1 q.2.2)
def tP (l : List Nat) : PU × Nat:=tp1 (numR 8 l 0)

theorem push_ok {p : PU} (h : pushR p = true) : WOk p.ws:=by
 obtain ⟨q1,q2,q3,q4,q5⟩:=pushR_facts h
 intro w hw
 obtain ⟨a1,a2,a3⟩:=q5 w hw
 have b1:=itemsR_len a3
 have b2:=itemsR_mem a3
 exact ⟨by omega,by omega,b1.2,fun x hx=>by have:=b2 x hx;omega⟩
theorem pu_eq {p : PU} {a b c d f g h : Int} (h1 : a = p.vol) (h2 : b = p.chunk) (h3 : c = p.count) (h4 : d = p.size) (h5 : f = p.frm) (h6 : g = p.to) (h7 : h = p.floor) : (⟨a,b,c,d,f,g,h,p.ws⟩ : PU) = p:=by
 subst h1 h2 h3 h4 h5 h6 h7;rfl
theorem jP_put {p : PU} (h : pushR p = true) : jP (pushB p) = p:=by
 have hw:=push_ok h
 obtain ⟨⟨⟨a1,a2⟩,⟨b1,b2⟩,⟨c1,c2⟩,d1,d2⟩,⟨f1,f2,f3⟩,⟨g1,g2⟩,q4,q5⟩:=pushR_facts h
 have hB : pushB p = putS [u64N p.vol] ++ (putS [u64N p.chunk] ++ (putS [u64N p.count] ++ (putS [u64N p.size] ++ (putS [u64N p.frm] ++ (putS [u64N p.to] ++ (putS [u64N p.floor] ++ (putS [u64N p.ws.length] ++ (pwB p.ws ++ [])))))))):=by
  unfold pushB;simp only [numsL_cons];simp [numsL,putS]
 rw [hB]
 unfold jP
 rw [numR_put (most:=1099511627776) _ a1 (by omega) (by omega)]
 unfold jp1
 simp only
 rw [numR_put (most:=1099511627776) _ b1 (by omega) (by omega)]
 unfold jp2
 simp only
 rw [numR_put (most:=1099511627776) _ (by omega) (by omega) (by omega)]
 unfold jp3
 simp only
 rw [numR_put (most:=1099511627776) _ (by omega) (by omega) (by omega)]
 unfold jp4
 simp only
 rw [numR_put (most:=1099511627776) _ (by omega) (by omega) (by omega)]
 unfold jp5
 simp only
 rw [numR_put (most:=1099511627776) _ (by omega) (by omega) (by omega)]
 unfold jp6
 simp only
 rw [numR_put (most:=1099511627776) _ (by omega) (by omega) (by omega)]
 unfold jp7
 simp only
 rw [numR_put (most:=4) _ (by omega) (by omega) (by omega)]
 unfold jp8
 simp only [Int.toNat_natCast]
 rw [jWs_put p.ws [] [] hw]
 unfold jp9
 simp only [List.nil_append]
 exact pu_eq (by omega) (by omega) (by omega) (by omega) (by omega) (by omega) (by omega)
theorem tP_put {p : PU} (h : pushR p = true) : tP (pushB p) = (p,0):=by
 have hw:=push_ok h
 obtain ⟨⟨⟨a1,a2⟩,⟨b1,b2⟩,⟨c1,c2⟩,d1,d2⟩,⟨f1,f2,f3⟩,⟨g1,g2⟩,q4,q5⟩:=pushR_facts h
 have hB : pushB p = putS [u64N p.vol] ++ (putS [u64N p.chunk] ++ (putS [u64N p.count] ++ (putS [u64N p.size] ++ (putS [u64N p.frm] ++ (putS [u64N p.to] ++ (putS [u64N p.floor] ++ (putS [u64N p.ws.length] ++ (pwB p.ws ++ [])))))))):=by
  unfold pushB;simp only [numsL_cons];simp [numsL,putS]
 rw [hB]
 unfold tP
 rw [numR_put (most:=8) _ (by omega) (by omega) (by omega)]
 unfold tp1
 simp only
 rw [numR_put (most:=256) _ (by omega) (by omega) (by omega)]
 unfold tp2
 simp only
 rw [numR_put (most:=256) _ (by omega) (by omega) (by omega)]
 unfold tp3
 simp only
 rw [numR_put (most:=32) _ (by omega) (by omega) (by omega)]
 unfold tp4
 simp only
 rw [numR_put (most:=1099511627776) _ (by omega) (by omega) (by omega)]
 unfold tp5
 simp only
 rw [numR_put (most:=1099511627776) _ (by omega) (by omega) (by omega)]
 unfold tp6
 simp only
 rw [numR_put (most:=1099511627776) _ (by omega) (by omega) (by omega)]
 unfold tp7
 simp only
 rw [numR_put (most:=4) _ (by omega) (by omega) (by omega)]
 unfold tp8
 simp only [Int.toNat_natCast]
 rw [tWs_put p.ws [] [] hw]
 unfold tp9
 simp only [List.nil_append]
 rw [pu_eq (p:=p) (by omega) (by omega) (by omega) (by omega) (by omega) (by omega) (by omega)]

theorem readP_yes {p : PU} {l : List Nat} (h : pushR p = true) (hb : pushB p = l) : readP l = (p,0):=by
 subst hb
 unfold readP
 rw [jP_put h,if_pos ⟨h,rfl⟩]
theorem readP_no {l : List Nat} (h : ∀ p,pushR p = true→pushB p≠l) : readP l = (zeroP,20):=by
 unfold readP
 rw [if_neg fun hh=>h _ hh.1 hh.2]
theorem readP_tP {l : List Nat} : readP l = if (tP l).2 = 0∧pushR (tP l).1 = true∧pushB (tP l).1 = l then ((tP l).1,0) else (zeroP,20):=by
 split
 ·rename_i h;exact readP_yes h.2.1 h.2.2
 ·rename_i h
  refine readP_no fun p h1 h2=>h ?_
  subst h2
  rw [tP_put h1]
  exact ⟨rfl,h1,rfl⟩

theorem mementoref13_ReadPush_con (l : List Nat) (h8 : ∀ c ∈ l,c < 256) (hn : l.length≤1000000) :
  Con Try.prog 34 [.c (.sl (l.map brow))] [] (.tup [.agg (pushC (readP l).1),I (readP l).2]) []:=by
 have hr : RestOk 1000000 l:=⟨h8,hn⟩
 rw [readP_tP]
 obtain ⟨R,hR⟩ : ∃ R,R = tP l:=⟨_,rfl⟩
 rw [← hR]
 unfold tP at hR
 have c1:=mementoref1_Reader_Num_con l 0 8 hr.b8 (by have:=hr.len;omega)
 have g1:=hr.num 8 0
 have k1 : (numR 8 l 0).1≤8:=numR_le
 generalize numR 8 l 0 = q at hR c1 g1 k1
 obtain ⟨a1,l1,e1⟩:=q
 simp only at c1 g1 k1
 unfold tp1 at hR
 simp only at hR
 have c2:=mementoref1_Reader_Num_con l1 e1 256 g1.b8 (by have:=g1.len;omega)
 have g2:=g1.num 256 e1
 have k2 : (numR 256 l1 e1).1≤256:=numR_le
 generalize numR 256 l1 e1 = q at hR c2 g2 k2
 obtain ⟨a2,l2,e2⟩:=q
 simp only at c2 g2 k2
 unfold tp2 at hR
 simp only at hR
 have c3:=mementoref1_Reader_Num_con l2 e2 256 g2.b8 (by have:=g2.len;omega)
 have g3:=g2.num 256 e2
 have k3 : (numR 256 l2 e2).1≤256:=numR_le
 generalize numR 256 l2 e2 = q at hR c3 g3 k3
 obtain ⟨a3,l3,e3⟩:=q
 simp only at c3 g3 k3
 unfold tp3 at hR
 simp only at hR
 have c4:=mementoref1_Reader_Num_con l3 e3 32 g3.b8 (by have:=g3.len;omega)
 have g4:=g3.num 32 e3
 have k4 : (numR 32 l3 e3).1≤32:=numR_le
 generalize numR 32 l3 e3 = q at hR c4 g4 k4
 obtain ⟨a4,l4,e4⟩:=q
 simp only at c4 g4 k4
 unfold tp4 at hR
 simp only at hR
 have c5:=mementoref1_Reader_Num_con l4 e4 1099511627776 g4.b8 (by have:=g4.len;omega)
 have g5:=g4.num 1099511627776 e4
 have k5 : (numR 1099511627776 l4 e4).1≤1099511627776:=numR_le
 generalize numR 1099511627776 l4 e4 = q at hR c5 g5 k5
 obtain ⟨a5,l5,e5⟩:=q
 simp only at c5 g5 k5
 unfold tp5 at hR
 simp only at hR
 have c6:=mementoref1_Reader_Num_con l5 e5 1099511627776 g5.b8 (by have:=g5.len;omega)
 have g6:=g5.num 1099511627776 e5
 have k6 : (numR 1099511627776 l5 e5).1≤1099511627776:=numR_le
 generalize numR 1099511627776 l5 e5 = q at hR c6 g6 k6
 obtain ⟨a6,l6,e6⟩:=q
 simp only at c6 g6 k6
 unfold tp6 at hR
 simp only at hR
 have c7:=mementoref1_Reader_Num_con l6 e6 1099511627776 g6.b8 (by have:=g6.len;omega)
 have g7:=g6.num 1099511627776 e6
 have k7 : (numR 1099511627776 l6 e6).1≤1099511627776:=numR_le
 generalize numR 1099511627776 l6 e6 = q at hR c7 g7 k7
 obtain ⟨a7,l7,e7⟩:=q
 simp only at c7 g7 k7
 unfold tp7 at hR
 simp only at hR
 have c8:=mementoref1_Reader_Num_con l7 e7 4 g7.b8 (by have:=g7.len;omega)
 have g8:=g7.num 4 e7
 have k8 : (numR 4 l7 e7).1≤4:=numR_le
 generalize numR 4 l7 e7 = q at hR c8 g8 k8
 obtain ⟨a8,l8,e8⟩:=q
 simp only at c8 g8 k8
 unfold tp8 at hR
 simp only at hR
 obtain ⟨RW,hRW⟩ : ∃ x,x = tWs a8 [] l8 e8:=⟨_,rfl⟩
 rw [← hRW] at hR
 generalize a8 = m at *
 refine C_mementoref13_ReadPush nl nl ?_
 simp only [cz,A_mementoref13_ReadPush,argL,objL,List.length_nil,zX]
 refine aR 16 ?_
 refine aR 80 ?_
 refine aR 176 ?_
 refine aB 224 ?_
 refine rO [112] [] (c1) ?_
 refine aEs (fun Q hQ=>by simp (disch:=first | (intros;contradiction) | omega | (simp only [zN];omega)) only [zS,zW,simprocAttr];exact hQ) ?_
 refine aB 336 ?_
 refine rO [112] [] (c2) ?_
 refine aEs (fun Q hQ=>by simp (disch:=first | (intros;contradiction) | omega | (simp only [zN];omega)) only [zS,zW,simprocAttr];exact hQ) ?_
 refine aB 448 ?_
 refine rO [112] [] (c3) ?_
 refine aEs (fun Q hQ=>by simp (disch:=first | (intros;contradiction) | omega | (simp only [zN];omega)) only [zS,zW,simprocAttr];exact hQ) ?_
 refine aB 560 ?_
 refine rO [112] [] (c4) ?_
 refine aEs (fun Q hQ=>by simp (disch:=first | (intros;contradiction) | omega | (simp only [zN];omega)) only [zS,zW,simprocAttr];exact hQ) ?_
 refine aB 672 ?_
 refine rO [112] [] (c5) ?_
 refine aEs (fun Q hQ=>by simp (disch:=first | (intros;contradiction) | omega | (simp only [zN];omega)) only [zS,zW,simprocAttr];exact hQ) ?_
 refine aB 784 ?_
 refine rO [112] [] (c6) ?_
 refine aEs (fun Q hQ=>by simp (disch:=first | (intros;contradiction) | omega | (simp only [zN];omega)) only [zS,zW,simprocAttr];exact hQ) ?_
 refine aB 896 ?_
 refine rO [112] [] (c7) ?_
 refine aEs (fun Q hQ=>by simp (disch:=first | (intros;contradiction) | omega | (simp only [zN];omega)) only [zS,zW,simprocAttr];exact hQ) ?_
 refine aB 1008 ?_
 refine rO [112] [] (c8) ?_
 refine aE ?_
 refine aR 1088 ?_
 refine aw_loopK (X:={ x : Nat × List WR × List Nat × Nat // x.1≤m∧GW 1000000 x.1 x.2.1∧RestOk 1000000 x.2.2.1∧tWs (m - x.1) x.2.1 x.2.2.1 x.2.2.2 = RW }) [0,2,4,5,6] (fun x=>[(7,.c (.v (.int .u64 x.1.1)))]) [16] (fun x=>[(112,Rd x.1.2.2.1 x.1.2.2.2),(176,.box [.v (.int .i64 a1),.v (.int .i64 a2),.v (.int .i64 a3),.v (.int .i64 a4),.v (.int .i64 a5),.v (.int .i64 a6),.v (.int .i64 a7),.osl 5000]),(5000,.arr 30 2 (x.1.2.1.map wrow) false)]) (fun x=>m - x.1.1) (⟨(0,[],l8,e8),by simp only;omega,⟨Nat.le_refl _,fun w hw=>by cases hw⟩,g8,hRW.symm⟩) ?_ ?_
 ·skip
  simp only [keepS,keepE,Option.getD_some,lk_cons,lkE_cons,List.cons_append,List.nil_append,simprocAttr]
  refine (Le.ownB 176 7 5000 _ 30 2 rfl rfl rfl (by decide)).trans ?_
  simp only [List.set_cons_succ,List.set_cons_zero,setE_cons,setE_nil,simprocAttr]
  refine Le.lit [] [] _ _ ?_ ?_ ?_ ?_
  ·simp only [zL,simprocAttr]
  ·simp only [zL,simprocAttr]
   all_goals (try ((repeat' (((simp [C.isD];done))))))
  ·simp [rlook]
  ·(simp;done)
 rintro ⟨⟨i,acc,la,ea⟩,u1,u2,u3,u4⟩
 simp only [keepS,keepE,Option.getD_some,lk_cons,lkE_cons,List.cons_append,List.nil_append,simprocAttr]
 simp only [zX]
 simp only at u1 u2 u3 u4
 refine aR 1136 ?_
 refine aw_cond _ rfl trivial (fun ht=>?_) (fun hf=>?_)
 ·skip
  try simp at ht
  simp only [zX]
  obtain ⟨d,hd⟩ : ∃ d,m - i = d + 1:=⟨m - i - 1,by omega⟩
  obtain rfl : ea = 0:=by omega
  rw [hd] at u4
  unfold tWs at u4
  rw [if_pos rfl] at u4
  have v0:=u3.len
  have cS:=mementoref1_Reader_Num_con la 0 1099511627776 u3.b8 (by omega)
  have v1:=u3.num 1099511627776 0
  have v2 : (numR 1099511627776 la 0).1≤1099511627776:=numR_le
  obtain ⟨W,hW⟩ : ∃ W,W = tW la 0:=⟨_,rfl⟩
  rw [← hW] at u4
  unfold tW at hW
  generalize numR 1099511627776 la 0 = q at hW cS v1 v2
  obtain ⟨s,lb,eb⟩:=q
  simp only at cS v1 v2
  unfold tW1 at hW
  simp only at hW
  have cI:=TakeItems_con lb eb 1000000 v1 (by omega)
  have gI:=takeI_ok eb v1
  generalize takeI lb eb = q at hW cI gI
  obtain ⟨its,lc,ec⟩:=q
  simp only at cI gI
  have hW2 : W = (⟨s,its⟩,lc,ec):=hW
  rw [hW2] at u4
  have u2l:=u2.1
  refine aB 1328 ?_
  refine rO [112] [] (cS) ?_
  refine aEs (fun Q hQ=>by simp (disch:=first | (intros;contradiction) | omega | (simp only [zN];omega)) only [zS,zW,simprocAttr];exact hQ) ?_
  refine aBD 1424 ?_
  refine rO [112] [] (cI) ?_
  refine aEDs (fun Q hQ=>by simp (disch:=intros;contradiction) only [zS,zW,simprocAttr];repeat refine ⟨by ((simp;omega)),?_⟩;exact hQ) ?_
  refine aS 1616 (fun Q hQ=>by simp (disch:=first | (intros;contradiction) | omega | (simp only [zN];omega)) only [zS,zW,simprocAttr];exact hQ) ?_
  refine ⟨⟨(i + 1,acc ++ [(⟨s,its⟩ : WR)],lc,ec),by simp only;omega,u2.snoc ⟨gI.1.len,gI.1.b8,gI.1.d⟩,gI.2,by simp only;rw [show m - (i + 1) = d by omega];exact u4⟩,?_,by first | omega | (simp only;omega)⟩
  refine (Le.tell [1488] 1536 30 2 _ ((acc ++ [(⟨(s : Int),its⟩ : WR)]).map wrow) false rfl (by rw [List.map_append];refine tell_app ?_ _;exact ⟨⟨.inl rfl,.inr (.inr ⟨_,_,_,_,rfl,rfl,rfl,drows_irow _⟩),trivial⟩,trivial⟩)).trans ?_
  refine Le.lit [] [(5000,1536)] _ _ ?_ ?_ ?_ ?_
  ·simp only [zL,simprocAttr]
   all_goals (try ((repeat' (rfl))))
  ·simp only [zL,simprocAttr]
   all_goals (try ((repeat' ((exact drows_wrow _)))))
  ·simp [rlook]
  ·(simp;done)
 try simp at hf
 simp only [zX,↓reduceIte]
 have u4 : (acc,la,ea) = RW:=by
  rw [← u4]
  cases hmi : m - i with
  | zero=>rfl
  | succ d=>unfold tWs;rw [if_neg (by omega)]
 subst u4
 have hR2 : R = (⟨a1,a2,a3,a4,a5,a6,a7,acc⟩,ea):=hR
 rw [hR2]
 have u2' : GW 1000000 4 acc:=⟨by have:=u2.1;omega,u2.2⟩
 have hok:=GW.pok (p:=⟨a1,a2,a3,a4,a5,a6,a7,acc⟩) (Nat.le_refl _) u2'
 have cP:=mementoref13_PutPush_con ⟨a1,a2,a3,a4,a5,a6,a7,acc⟩ hok.1
 have hby:=putP_by ⟨a1,a2,a3,a4,a5,a6,a7,acc⟩ hok.2
 have hs:=str_eq (putP ⟨a1,a2,a3,a4,a5,a6,a7,acc⟩).1 l hby h8
 generalize hpp : putP ⟨a1,a2,a3,a4,a5,a6,a7,acc⟩ = pp at cP hs
 obtain ⟨pb,pe⟩:=pp
 have hacc : (pushR ⟨a1,a2,a3,a4,a5,a6,a7,acc⟩ = true∧pushB ⟨a1,a2,a3,a4,a5,a6,a7,acc⟩ = l) ↔ pe = 0∧pb = l:=by
  unfold putP at hpp
  split at hpp
  ·rename_i h;cases hpp;simp [h]
  ·rename_i h;cases hpp;simp [h]
 simp only at cP hs ⊢
 refine aB 1696 ?_
 refine rO [] [5000] (cP) ?_
 refine aE ?_
 refine aw_reg 1840 (RG.go fun Q hQ=>?_)
 simp (disch:=intros;contradiction) only [zS,hs,simprocAttr]
 repeat refine ⟨by (first | exact fun h=>⟨isByteRow_brow _,h⟩ | (simp;done)),?_⟩
 refine hQ (RG.nil ?_)
 simp only [zX]
 refine aw_cond _ rfl trivial (fun ht=>?_) (fun hf=>?_)
 ·skip
  try simp at ht
  simp only [zX]
  rw [if_neg (by rw [hacc];intro h;simp [h] at ht)]
  refine aR 2128 ?_
  refine Fin.data [] (.inr rfl) rfl (by (exact ⟨trivial,trivial⟩)) ?_
  simp only [zL,simprocAttr]
  all_goals ((repeat' (first | exact trivial | rfl | refine ⟨?_,?_⟩)))
 try simp at hf
 simp only [zX]
 rw [if_pos (by rw [hacc];first | exact hf | (simp at hf;exact hf) | omega | (refine ⟨?_,?_,?_⟩ <;> first | omega | exact hf.2))]
 refine aR 2208 ?_
 refine Fin.data [5000] (.inr rfl) rfl (by (exact ⟨trivial,trivial⟩)) ?_
 simp only [zL,simprocAttr]
 all_goals ((repeat' (first | exact trivial | rfl | (refine ⟨⟨_,_,rfl⟩,?_⟩;(exact drows_wrow _)) | refine ⟨?_,?_⟩)))

end Go.Abs

namespace Go.Abs
open Go Go.Proofs
set_option maxRecDepth 100000
set_option linter.unusedSimpArgs false
set_option maxHeartbeats 8000000

theorem rdN_ge : ∀ (l : List Nat) (i acc : Nat),(rdN i acc l).2.2 = 0→i + 1≤(rdN i acc l).2.1:=by
 intro l
 induction l with
 | nil=>intro i acc h;simp [rdN] at h
 | cons c l ih =>
  intro i acc h
  unfold rdN at h ⊢
  split at h
  ·simp at h
  ·rename_i h1
   rw [if_neg h1]
   split at h
   ·rename_i h2
    rw [if_pos h2]
    have:=ih _ _ h
    omega
   ·rename_i h2
    rw [if_neg h2]
    split at h
    ·simp at h
    ·rename_i h3
     rw [if_neg h3]
     simp
theorem numR_less {most : Nat} {l : List Nat} : ((numR most l 0).2.2 = 0∧(numR most l 0).2.1.length + 1≤l.length)∨((numR most l 0).2.2≠0∧(numR most l 0).2.1 = []):=by
 unfold numR
 rw [if_neg (by simp)]
 split
 ·rename_i h;exact .inr ⟨h,rfl⟩
 ·rename_i h
  have h0 : (rdN 0 0 l).2.2 = 0:=by omega
  have h1:=rdN_ge l 0 0 h0
  have h2:=rdN_size l 0 0 h0
  split
  ·exact .inr ⟨by simp,rfl⟩
  ·exact .inl ⟨rfl,by simp;omega⟩
theorem numR_bad {most : Nat} {l : List Nat} {e : Nat} (h : e≠0) : numR most l e = (0,l,e):=by unfold numR;rw [if_pos h]
theorem lumpR_bad {most : Nat} {l : List Nat} {e : Nat} (h : e≠0) : lumpR most l e = ([],l,e):=by unfold lumpR;rw [numR_bad h];simp [h]

def jV : Nat→List IT→List Nat→Nat→List IT × List Nat × Nat
 | 0,acc,l,e=>(acc,l,e)
 | k + 1,acc,l,e =>
  if e = 0 then jV k (acc ++ [⟨((numR 1099511627776 l e).1 : Int),(lumpR 32 (numR 1099511627776 l e).2.1 (numR 1099511627776 l e).2.2).1⟩]) (lumpR 32 (numR 1099511627776 l e).2.1 (numR 1099511627776 l e).2.2).2.1 (lumpR 32 (numR 1099511627776 l e).2.1 (numR 1099511627776 l e).2.2).2.2
  else (acc,l,e)
def jH1 (q : NR) : List IT × List Nat × Nat:=jV q.1 [] q.2.1 q.2.2
def jH (most : Nat) (l : List Nat) (e : Nat) : List IT × List Nat × Nat:=jH1 (numR most l e)
def jHs : Nat→List (List IT)→List Nat→Nat→List (List IT) × List Nat × Nat
 | 0,acc,l,e=>(acc,l,e)
 | k + 1,acc,l,e=>jHs k (acc ++ [(jH 1099511627776 l e).1]) (jH 1099511627776 l e).2.1 (jH 1099511627776 l e).2.2
def zeroCH : CH:=⟨0,0,0,0,0,0,[]⟩
abbrev TC:=(CH × Bool) × List Nat × Nat
def jc8 (a b c d f g : Nat) (q : List (List IT) × List Nat × Nat) : TC:=if q.2.2≠0∨rightC ⟨a,b,c,d,f,g,q.1⟩ = false then ((zeroCH,false),q.2) else ((⟨a,b,c,d,f,g,q.1⟩,true),q.2)
def jc7 (a b c d f g : Nat) (l : List Nat) (e : Nat) : TC:=if e≠0∨shapeC a b c d = false then ((zeroCH,false),l,e) else jc8 a b c d f g (jHs c [] l e)
def jc6 (a b c d f : Nat) (q : NR) : TC:=jc7 a b c d f q.1 q.2.1 q.2.2
def jc5 (a b c d : Nat) (q : NR) : TC:=jc6 a b c d q.1 (numR 1099511627776 q.2.1 q.2.2)
def jc4 (a b c : Nat) (q : NR) : TC:=jc5 a b c q.1 (numR 1099511627776 q.2.1 q.2.2)
def jc3 (a b : Nat) (q : NR) : TC:=jc4 a b q.1 (numR 1099511627776 q.2.1 q.2.2)
def jc2 (a : Nat) (q : NR) : TC:=jc3 a q.1 (numR 1099511627776 q.2.1 q.2.2)
def jc1 (q : NR) : TC:=jc2  q.1 (numR 1099511627776 q.2.1 q.2.2)
def takeC (l : List Nat) (e : Nat) : TC:=jc1 (numR 1099511627776 l e)

def GH (n k : Nat) (H : List (List IT)) : Prop:=H.length≤k∧∀ h ∈ H,GI n (n + 1) h
theorem GH.snoc {n k : Nat} {H : List (List IT)} {h : List IT} (hH : GH n k H) (h1 : GI n (n + 1) h) : GH n (k + 1) (H ++ [h]) :=
 ⟨by simp;exact hH.1,fun y hy=>by rcases List.mem_append.1 hy with hy | hy;exact hH.2 y hy;simp only [List.mem_singleton] at hy;subst hy;exact h1⟩
theorem GH.cin {n k : Nat} {c : CH} (hn : n≤500000) (hk : k≤1000) (h : GH n k c.hist) : Cin c :=
 ⟨by have:=h.1;omega,fun l hl=>⟨by have:=(h.2 l hl).1;omega,fun x hx=>by have:=(h.2 l hl).2.2 x hx;omega⟩⟩

theorem chunk_Take_1_con (l : List Nat) (e : Nat) (hl : ∀ c ∈ l,c < 256) (hb : l.length≤140737488355328) :
  Con Try.prog 76 [.c (.bp 0 0)] [.box [.bp 1 0],Rd l e] (I (numR 1099511627776 l e).1) [.box [.bp 1 0],Rd (numR 1099511627776 l e).2.1 (numR 1099511627776 l e).2.2]:=by
 have hm : (numR 1099511627776 l e).1≤1099511627776:=numR_le
 have cN:=pack_Reader_Num_con l e 1099511627776 hl hb
 generalize numR 1099511627776 l e = q at hm cN
 obtain ⟨v,l1,e1⟩:=q
 simp only at hm cN
 refine C_chunk_Take_1 nl nl ?_
 simp only [cz,A_chunk_Take_1,argL,objL,List.length_nil,List.length_cons,Nat.zero_add,zX,simprocAttr]
 refine aR 16 ?_
 refine aB 64 ?_
 refine rO [1] [] (cN) ?_
 refine aEs (fun Q hQ=>by simp (disch:=first | (intros;contradiction) | omega | (simp only [zN];omega)) only [zS,zW,simprocAttr];exact hQ) ?_
 refine Fin.objs [] [] (.inr rfl) rfl (by exact trivial) ?_ ?_ (by simp [objL,rlook]) (by (intro k hk;simp [objL,rlook];omega))
 ·simp only [zL,simprocAttr]
 ·simp only [zL,simprocAttr]

theorem chunk_Take_con (l : List Nat) (e : Nat) (hr : RestOk 500000 l) :
  Con Try.prog 36 [.c (.bp 0 0)] [Rd l e] (.tup [.agg (chC (takeC l e).1.1),B (takeC l e).1.2]) [Rd (takeC l e).2.1 (takeC l e).2.2]:=by
 obtain ⟨R,hR⟩ : ∃ R,R = takeC l e:=⟨_,rfl⟩
 rw [← hR]
 unfold takeC at hR
 have c1:=chunk_Take_1_con l e hr.b8 (by have:=hr.len;omega)
 have g1:=hr.num 1099511627776 e
 have k1 : (numR 1099511627776 l e).1≤1099511627776:=numR_le
 generalize numR 1099511627776 l e = q at hR c1 g1 k1
 obtain ⟨a1,l1,e1⟩:=q
 simp only at c1 g1 k1
 unfold jc1 at hR
 simp only at hR
 have c2:=chunk_Take_1_con l1 e1 g1.b8 (by have:=g1.len;omega)
 have g2:=g1.num 1099511627776 e1
 have k2 : (numR 1099511627776 l1 e1).1≤1099511627776:=numR_le
 generalize numR 1099511627776 l1 e1 = q at hR c2 g2 k2
 obtain ⟨a2,l2,e2⟩:=q
 simp only at c2 g2 k2
 unfold jc2 at hR
 simp only at hR
 have c3:=chunk_Take_1_con l2 e2 g2.b8 (by have:=g2.len;omega)
 have g3:=g2.num 1099511627776 e2
 have k3 : (numR 1099511627776 l2 e2).1≤1099511627776:=numR_le
 generalize numR 1099511627776 l2 e2 = q at hR c3 g3 k3
 obtain ⟨a3,l3,e3⟩:=q
 simp only at c3 g3 k3
 unfold jc3 at hR
 simp only at hR
 have c4:=chunk_Take_1_con l3 e3 g3.b8 (by have:=g3.len;omega)
 have g4:=g3.num 1099511627776 e3
 have k4 : (numR 1099511627776 l3 e3).1≤1099511627776:=numR_le
 generalize numR 1099511627776 l3 e3 = q at hR c4 g4 k4
 obtain ⟨a4,l4,e4⟩:=q
 simp only at c4 g4 k4
 unfold jc4 at hR
 simp only at hR
 have c5:=chunk_Take_1_con l4 e4 g4.b8 (by have:=g4.len;omega)
 have g5:=g4.num 1099511627776 e4
 have k5 : (numR 1099511627776 l4 e4).1≤1099511627776:=numR_le
 generalize numR 1099511627776 l4 e4 = q at hR c5 g5 k5
 obtain ⟨a5,l5,e5⟩:=q
 simp only at c5 g5 k5
 unfold jc5 at hR
 simp only at hR
 have c6:=chunk_Take_1_con l5 e5 g5.b8 (by have:=g5.len;omega)
 have g6:=g5.num 1099511627776 e5
 have k6 : (numR 1099511627776 l5 e5).1≤1099511627776:=numR_le
 generalize numR 1099511627776 l5 e5 = q at hR c6 g6 k6
 obtain ⟨a6,l6,e6⟩:=q
 simp only at c6 g6 k6
 unfold jc6 at hR
 simp only at hR
 unfold jc7 at hR
 refine C_chunk_Take nl nl ?_
 simp only [cz,A_chunk_Take,argL,objL,List.length_nil,List.length_cons,Nat.zero_add,zX]
 refine aR 16 ?_
 refine aR 96 ?_
 refine aF ?_
 refine aS 160 (fun Q hQ=>by simp (disch:=intros;contradiction) only [zS,simprocAttr];repeat refine ⟨by ((simp;done)),?_⟩;exact hQ) ?_
 refine aB 224 ?_
 refine RG.callvo [16,0] [] rfl trivial (c1) (.mk (by (repeat' (first | exact tr_nil | refine tr_cons ?_ ?_ | exact tr_bp rfl))) (by (simp only [zT,simprocAttr];done)) (by simp) (by simp) (trivial) (by (simp [lkE_cons,lkE_nil];done)) (by (simp [Ent.pure];done)) (by simp) (by simp)) ?_
 refine aM ?_
 refine RG.callvo [16,0] [] rfl trivial (c2) (.mk (by (repeat' (first | exact tr_nil | refine tr_cons ?_ ?_ | exact tr_bp rfl))) (by (simp only [zT,simprocAttr];done)) (by simp) (by simp) (trivial) (by (simp [lkE_cons,lkE_nil];done)) (by (simp [Ent.pure];done)) (by simp) (by simp)) ?_
 refine aM ?_
 refine RG.callvo [16,0] [] rfl trivial (c3) (.mk (by (repeat' (first | exact tr_nil | refine tr_cons ?_ ?_ | exact tr_bp rfl))) (by (simp only [zT,simprocAttr];done)) (by simp) (by simp) (trivial) (by (simp [lkE_cons,lkE_nil];done)) (by (simp [Ent.pure];done)) (by simp) (by simp)) ?_
 refine aM ?_
 refine RG.callvo [16,0] [] rfl trivial (c4) (.mk (by (repeat' (first | exact tr_nil | refine tr_cons ?_ ?_ | exact tr_bp rfl))) (by (simp only [zT,simprocAttr];done)) (by simp) (by simp) (trivial) (by (simp [lkE_cons,lkE_nil];done)) (by (simp [Ent.pure];done)) (by simp) (by simp)) ?_
 refine aM ?_
 refine RG.callvo [16,0] [] rfl trivial (c5) (.mk (by (repeat' (first | exact tr_nil | refine tr_cons ?_ ?_ | exact tr_bp rfl))) (by (simp only [zT,simprocAttr];done)) (by simp) (by simp) (trivial) (by (simp [lkE_cons,lkE_nil];done)) (by (simp [Ent.pure];done)) (by simp) (by simp)) ?_
 refine aM ?_
 refine RG.callvo [16,0] [] rfl trivial (c6) (.mk (by (repeat' (first | exact tr_nil | refine tr_cons ?_ ?_ | exact tr_bp rfl))) (by (simp only [zT,simprocAttr];done)) (by simp) (by simp) (trivial) (by (simp [lkE_cons,lkE_nil];done)) (by (simp [Ent.pure];done)) (by simp) (by simp)) ?_
 refine aE ?_
 refine aB 496 ?_
 refine rO [0] [] (pack_rest_Err_con (l6.map brow) e6) ?_
 refine aM ?_
 refine rG _ _ (chunk_shape_con a1 a2 a3 a4) ?_
 refine aEs (fun Q hQ=>by simp (disch:=intros;contradiction) only [zS,simprocAttr];repeat refine ⟨by ((simp;done)),?_⟩;exact hQ) ?_
 refine aw_cond _ rfl trivial (fun ht=>?_) (fun hf=>?_)
 ·skip
  try simp at ht
  simp only [zX]
  have h : e6≠0∨shapeC a1 a2 a3 a4 = false:=by
   rcases ht with ht | ht
   ·exact .inl (by omega)
   ·exact .inr (by simpa using ht)
  rw [if_pos h] at hR
  rw [hR]
  refine aR 800 ?_
  refine Fin.objs [] [] (.inr rfl) rfl (by exact ⟨trivial,trivial⟩) ?_ ?_ (by simp [objL,rlook]) (by (simp [objL,rlook];done))
  ·simp only [zL,simprocAttr]
   all_goals ((repeat' (first | exact trivial | rfl | refine ⟨?_,?_⟩)))
  ·simp only [zL,↓reduceIte]
 try simp at hf
 simp only [zX]
 have hsh : e6 = 0∧shapeC a1 a2 a3 a4 = true:=by
  refine ⟨by omega,?_⟩
  cases hc : shapeC a1 a2 a3 a4 with
  | true=>rfl
  | false=>simp [hc] at hf
 obtain ⟨he6,hsh⟩:=hsh
 subst he6
 rw [if_neg (by simp [hsh])] at hR
 have hcnt : a3≤256:=by
  simp only [shapeC,Bool.and_eq_true,inR_iff] at hsh
  omega
 obtain ⟨RH,hRH⟩ : ∃ x,x = jHs a3 [] l6 0:=⟨_,rfl⟩
 rw [← hRH] at hR
 refine aR 880 ?_
 refine aw_loopK (X:={ x : Nat × List (List IT) × List Nat × Nat // x.1≤a3∧GH 500000 x.1 x.2.1∧RestOk 500000 x.2.2.1∧jHs (a3 - x.1) x.2.1 x.2.2.1 x.2.2.2 = RH }) [1,2,4,5,44] (fun x=>[(45,I x.1.1)]) [16,32] (fun x=>[(0,Rd x.1.2.2.1 x.1.2.2.2),(432,.box [.v (.int .i64 a1),.v (.int .i64 a2),.v (.int .i64 a3),.v (.int .i64 a4),.v (.int .i64 a5),.v (.int .i64 a6),.osl 5000]),(5000,.arr 101 1 (x.1.2.1.map hrow) false)]) (fun x=>a3 - x.1.1) (⟨(0,[],l6,0),by simp only;omega,⟨Nat.le_refl _,fun w hw=>by cases hw⟩,g6,hRH.symm⟩) ?_ ?_
 ·skip
  simp only [keepS,keepE,Option.getD_some,lk_cons,lkE_cons,List.cons_append,List.nil_append,simprocAttr]
  refine (Le.ownB 432 6 5000 _ 101 1 rfl rfl rfl (by decide)).trans ?_
  simp only [List.set_cons_succ,List.set_cons_zero,setE_cons,setE_nil,simprocAttr]
  refine Le.lit [] [] _ _ ?_ ?_ ?_ ?_
  ·simp only [zL,simprocAttr]
  ·simp only [zL,simprocAttr]
   all_goals (try ((repeat' (((simp [C.isD];done))))))
  ·simp [rlook]
  ·(intro k hk;simp [rlook];omega)
 rintro ⟨⟨i,acc,la,ea⟩,u1,u2,u3,u4⟩
 simp only [keepS,keepE,Option.getD_some,lk_cons,lkE_cons,List.cons_append,List.nil_append,simprocAttr]
 simp only [zX]
 simp only at u1 u2 u3 u4
 refine aR 960 ?_
 refine aw_cond _ rfl trivial (fun ht=>?_) (fun hf=>?_)
 ·skip
  try simp at ht
  simp only [zX]
  obtain ⟨d,hd⟩ : ∃ d,a3 - i = d + 1:=⟨a3 - i - 1,by omega⟩
  rw [hd] at u4
  unfold jHs at u4
  have v0:=u3.len
  have cM:=pack_Reader_Num_con la ea 1099511627776 u3.b8 (by omega)
  have v1:=u3.num 1099511627776 ea
  have v2 : (numR 1099511627776 la ea).1≤1099511627776:=numR_le
  obtain ⟨W,hW⟩ : ∃ W,W = jH 1099511627776 la ea:=⟨_,rfl⟩
  rw [← hW] at u4
  unfold jH at hW
  generalize numR 1099511627776 la ea = q at hW cM v1 v2
  obtain ⟨m,lc,ec⟩:=q
  simp only at cM v1 v2
  unfold jH1 at hW
  simp only at hW
  have v3:=v1.len
  refine aR 1008 ?_
  refine aB 1056 ?_
  refine rO [0] [] (cM) ?_
  refine aE ?_
  refine aw_loopK (X:={ x : Nat × List IT × List Nat × Nat // x.1≤m∧GI 500000 500001 x.2.1∧RestOk 500000 x.2.2.1∧x.2.1.length + x.2.2.1.length≤lc.length + (if x.2.2.2 = 0 then 0 else 1)∧jV x.1 x.2.1 x.2.2.1 x.2.2.2 = W }) [1,2,4,5,44,45] (fun x=>[(6,.c (.osl 5001)),(7,.c (.v (.int .u64 x.1.1)))]) [16,32,432,5000] (fun x=>[(0,Rd x.1.2.2.1 x.1.2.2.2),(5001,.arr 111 2 (x.1.2.1.map irow) false)]) (fun x=>x.1.1) (⟨(m,[],lc,ec),by simp only;omega,⟨by simp,fun w hw=>(by cases hw),fun w hw=>(by cases hw)⟩,v1,by simp,hW.symm⟩) ?_ ?_
  ·skip
   simp only [keepS,keepE,Option.getD_some,lk_cons,lkE_cons,List.cons_append,List.nil_append,simprocAttr]
   refine (Le.own 6 5001 111 2 rfl rfl (by decide)).trans ?_
   simp only [setS_cons,setE_cons,setE_nil,simprocAttr]
   refine Le.lit [] [] _ _ ?_ ?_ ?_ ?_
   ·simp only [zL,simprocAttr]
   ·simp only [zL,simprocAttr]
    all_goals (try ((repeat' (first | (first | exact drows_hrow _ | (simp [C.isD];done)) | refine ⟨?_,?_⟩))))
   ·simp [rlook]
   ·(intro k hk;simp [rlook];omega)
  rintro ⟨⟨k,its,ld,ed⟩,x1,x2,x3,xb,x4⟩
  simp only [keepS,keepE,Option.getD_some,lk_cons,lkE_cons,List.cons_append,List.nil_append,simprocAttr]
  simp only [zX]
  simp only at x1 x2 x3 xb x4
  have u2l:=u2.1
  have xbl : its.length≤500001:=x2.1
  by_cases hk0 : k = 0
  ·skip
   subst hk0
   have x4 : (its,ld,ed) = W:=x4
   rw [← x4] at u4
   simp only at u4
   refine aB 1136 ?_
   refine RG.callg (res:=.c (.v (.int .i64 0))) _ _ [] rfl (fun hg=>by simp at hg) ?_
   refine aE ?_
   refine aw_cond _ rfl trivial (fun ht=>by cases ht) (fun hf=>?_)
   simp only [zX,↓reduceIte]
   refine aS 1312 (fun Q hQ=>by simp (disch:=intros;contradiction) only [zS,zW,simprocAttr];repeat refine ⟨by ((simp;omega)),?_⟩;exact hQ) ?_
   refine aS 1456 (fun Q hQ=>by simp (disch:=first | (intros;contradiction) | omega | (simp only [zN];omega)) only [zS,zW,simprocAttr];exact hQ) ?_
   refine ⟨⟨(i + 1,acc ++ [its],ld,ed),by simp only;omega,u2.snoc ⟨by omega,x2.2⟩,x3,by simp only;rw [show a3 - (i + 1) = d by omega];exact u4⟩,?_,by first | omega | (simp only;omega)⟩
   refine (Le.tell [5001] 1376 101 1 _ ((acc ++ [its]).map hrow) false rfl (by rw [List.map_append];refine tell_app ?_ _;exact ⟨⟨.inr (.inr ⟨_,_,_,_,rfl,rfl,rfl,drows_irow _⟩),trivial⟩,trivial⟩)).trans ?_
   refine Le.lit [] [(5000,1376)] _ _ ?_ ?_ ?_ ?_
   ·simp only [zL,simprocAttr]
    all_goals (try ((repeat' (rfl))))
   ·simp only [zL,simprocAttr]
    all_goals (try ((repeat' ((exact drows_hrow _)))))
   ·simp [rlook]
   ·(intro k hk;simp [rlook];omega)
  obtain ⟨j,hj⟩ : ∃ j,k = j + 1:=⟨k - 1,by omega⟩
  have hkt : decide ((0 : Int) < (k : Int)) = true:=by simp;omega
  rw [hj] at x4
  unfold jV at x4
  refine aBs 1520 (fun Q hQ=>by simp (disch:=intros;contradiction) only [zS,hkt,simprocAttr];exact hQ) ?_
  refine RG.callgo true true [0] [] rfl rfl (pack_rest_Err_con (ld.map brow) ed) (.mk (tr_cons (tr_opt rfl (tr_bp rfl)) tr_nil) (by (simp only [zT,↓reduceIte];done)) (by simp) (by simp) (trivial) (by (simp [lkE_cons,lkE_nil];done)) (by (simp [Ent.pure];done)) (by simp) (by simp)) ?_
  refine aE ?_
  refine aw_cond _ rfl trivial (fun ht=>?_) (fun hf=>?_)
  ·skip
   try simp at ht
   simp only [zX]
   obtain rfl : ed = 0:=by omega
   rw [if_pos rfl] at x4
   have y0:=x3.len
   have y1:=x3.num 1099511627776 0
   have y2 : (numR 1099511627776 ld 0).1≤1099511627776:=numR_le
   have y7:=numR_less (most:=1099511627776) (l:=ld)
   have cB:=chunk_Take_1_con ld 0 x3.b8 (by omega)
   generalize numR 1099511627776 ld 0 = q at x4 y1 y2 y7 cB
   obtain ⟨b,lf,ef⟩:=q
   simp only at x4 y1 y2 y7 cB
   have y3:=y1.len
   have y4:=y1.lump 32 ef
   have y5:=(lumpR_mem (most:=32) (e:=ef) y1.b8).1
   have y6:=lumpR_len (most:=32) (l:=lf) (e:=ef)
   have y8 : ef≠0→(lumpR 32 lf ef).2.2≠0:=fun h=>by rw [lumpR_bad h];exact h
   have cL:=pack_Reader_Lump_con lf ef 32 y1.b8 (by omega) (by omega)
   generalize lumpR 32 lf ef = q at x4 y4 y5 y6 y8 cL
   obtain ⟨bs,lg,eg⟩:=q
   simp only at x4 y4 y5 y6 y8 cL
   have e2 : its.map irow ++ [[.v (.int .i64 b),.sl (bs.map brow)]] = (its ++ [(⟨(b : Int),bs⟩ : IT)]).map irow:=by rw [List.map_append];rfl
   have hwk : IntKind.u64.wrap ((k : Int) - 1) = (j : Int):=by rw [w_u64];omega
   rw [if_pos rfl] at xb
   have hb2 : its.length + 1 + lg.length≤lc.length + (if eg = 0 then 0 else 1):=by
    rcases y7 with ⟨h1,h2⟩ | ⟨h1,h2⟩
    ·split <;> omega
    ·rw [if_neg (y8 h1)]
     have : lf.length = 0:=by rw [h2];rfl
     omega
   have hb3 : its.length≤500000:=by omega
   refine aBD 1696 ?_
   refine RG.callvk 0 16 [16,0] [] rfl trivial (cB) (.mk (by (repeat' (first | exact tr_nil | refine tr_cons ?_ ?_ | exact tr_bp rfl))) (by (simp only [zT,simprocAttr];done)) (by simp) (by simp) (trivial) (by (simp [lkE_cons,lkE_nil];done)) (by (simp [Ent.pure];done)) (by simp) (by simp)) rfl rfl rfl ?_
   refine aMs (fun Q hQ=>by simp (disch:=intros;contradiction) only [zS,dropId,simprocAttr];exact hQ) ?_
   refine rO [0] [] (cL) ?_
   refine aEDs (fun Q hQ=>by simp (disch:=intros;contradiction) only [zS,zW,e2,simprocAttr];repeat refine ⟨by ((simp;omega)),?_⟩;exact hQ) ?_
   refine aS 1872 (fun Q hQ=>by simp (disch:=intros;contradiction) only [zS,hwk,simprocAttr];exact hQ) ?_
   refine ⟨⟨(j,its ++ [⟨(b : Int),bs⟩],lg,eg),by simp only;omega,⟨by simp;omega,(x2.snoc (x:=⟨(b : Int),bs⟩) y5 (by simp only;omega)).2⟩,y4,by simp only [List.length_append,List.length_singleton];exact hb2,x4⟩,?_,by first | omega | (simp only;omega)⟩
   refine Le.lit [] [(5001,1808)] _ _ ?_ ?_ ?_ ?_
   ·simp only [zL,simprocAttr]
   ·simp only [zL,simprocAttr]
    all_goals (try ((repeat' (first | (first | exact drows_hrow _ | exact drows_irow _) | refine ⟨?_,?_⟩))))
   ·simp [rlook]
   ·(intro k hk;simp [rlook];omega)
  try simp at hf
  simp only [zX,↓reduceIte]
  have x4 : (its,ld,ed) = W:=by rw [if_neg hf] at x4;exact x4
  rw [← x4] at u4
  simp only at u4
  refine aS 1952 (fun Q hQ=>by simp (disch:=intros;contradiction) only [zS,zW,simprocAttr];repeat refine ⟨by ((simp;omega)),?_⟩;exact hQ) ?_
  refine aS 2096 (fun Q hQ=>by simp (disch:=first | (intros;contradiction) | omega | (simp only [zN];omega)) only [zS,zW,simprocAttr];exact hQ) ?_
  refine ⟨⟨(i + 1,acc ++ [its],ld,ed),by simp only;omega,u2.snoc ⟨by omega,x2.2⟩,x3,by simp only;rw [show a3 - (i + 1) = d by omega];exact u4⟩,?_,by first | omega | (simp only;omega)⟩
  refine (Le.tell [5001] 2016 101 1 _ ((acc ++ [its]).map hrow) false rfl (by rw [List.map_append];refine tell_app ?_ _;exact ⟨⟨.inr (.inr ⟨_,_,_,_,rfl,rfl,rfl,drows_irow _⟩),trivial⟩,trivial⟩)).trans ?_
  refine Le.lit [] [(5000,2016)] _ _ ?_ ?_ ?_ ?_
  ·simp only [zL,simprocAttr]
   all_goals (try ((repeat' (rfl))))
  ·simp only [zL,simprocAttr]
   all_goals (try ((repeat' ((exact drows_hrow _)))))
  ·simp [rlook]
  ·(intro k hk;simp [rlook];omega)
 try simp at hf
 simp only [zX,↓reduceIte]
 have hi : i = a3:=by omega
 subst hi
 rw [Nat.sub_self] at u4
 have u4 : (acc,la,ea) = RH:=u4
 subst u4
 have hcin : Cin ⟨a1,a2,i,a4,a5,a6,acc⟩:=GH.cin (n:=500000) (k:=1000) (Nat.le_refl _) (Nat.le_refl _) ⟨by have:=u2.1;simp only;omega,u2.2⟩
 have cR:=chunk_Right_con ⟨a1,a2,i,a4,a5,a6,acc⟩ hcin
 unfold jc8 at hR
 simp only at hR
 refine aB 2160 ?_
 refine rO [0] [] (pack_rest_Err_con (la.map brow) ea) ?_
 refine aM ?_
 refine RG.callg _ _ [5000] rfl (fun hg=>⟨_,cR,tr_cons (tr_opt (by simpa using hg) (tr_agg (by (repeat' (first | exact trivial | rfl | (refine ⟨by simp,_,_,_,rfl,?_⟩;(exact drows_hrow _)) | refine ⟨?_,?_⟩))))) tr_nil,views1 rfl trivial,by exact .inl trivial⟩) ?_
 refine aEs (fun Q hQ=>by simp (disch:=intros;contradiction) only [zS,simprocAttr];repeat refine ⟨by ((simp;done)),?_⟩;exact hQ) ?_
 refine aw_cond _ rfl trivial (fun ht=>?_) (fun hf=>?_)
 ·skip
  try simp at ht
  simp only [zX]
  rw [if_pos (by
   rcases ht with ht | ht
   ·exact .inl (by omega)
   ·exact .inr (by simpa using ht))] at hR
  rw [hR]
  refine aR 2352 ?_
  refine Fin.objs [] [] (.inr rfl) rfl (by exact ⟨trivial,trivial⟩) ?_ ?_ (by simp [objL,rlook]) (by (simp [objL,rlook];done))
  ·simp only [zL,simprocAttr]
   all_goals ((repeat' (first | exact trivial | rfl | refine ⟨?_,?_⟩)))
  ·simp only [zL,↓reduceIte]
 try simp at hf
 simp only [zX]
 rw [if_neg (by
  intro h
  rcases h with h | h
  ·simp [h] at hf
  ·simp [h] at hf)] at hR
 rw [hR]
 refine aR 2432 ?_
 refine Fin.objs [5000] [] (.inr rfl) rfl (by exact ⟨trivial,trivial⟩) ?_ ?_ (by simp [objL,rlook]) (by (simp [objL,rlook];done))
 ·simp only [zL,simprocAttr]
  all_goals ((repeat' (first | exact trivial | rfl | (refine ⟨⟨_,_,rfl⟩,?_⟩;(exact drows_hrow _)) | refine ⟨?_,?_⟩)))
 ·simp only [zL,simprocAttr]

end Go.Abs

