/- What the functions that the law comes to do, part 3. No condition. -/
import Derived.Test.YtpmnjikihmpobaaConb
set_option linter.unusedVariables false
set_option linter.unusedSimpArgs false
set_option linter.unnecessarySimpa false
namespace Go.Abs
open Go Go.Proofs
set_option maxRecDepth 100000
set_option linter.unusedSimpArgs false
set_option maxHeartbeats 8000000

def jI : Nat→List IT→List Nat→Nat→List IT × List Nat × Nat
 | 0,acc,l,e=>(acc,l,e)
 | k + 1,acc,l,e=>jI k (acc ++ [⟨((numR 1099511627776 l e).1 : Int),(lumpR 32 (numR 1099511627776 l e).2.1 (numR 1099511627776 l e).2.2).1⟩]) (lumpR 32 (numR 1099511627776 l e).2.1 (numR 1099511627776 l e).2.2).2.1 (lumpR 32 (numR 1099511627776 l e).2.1 (numR 1099511627776 l e).2.2).2.2
def jW3 (s : Nat) (q : List IT × List Nat × Nat) : WR × List Nat × Nat:=(⟨s,q.1⟩,q.2)
def jW2 (s : Nat) (q : NR) : WR × List Nat × Nat:=jW3 s (jI q.1 [] q.2.1 q.2.2)
def jW1 (q : NR) : WR × List Nat × Nat:=jW2 q.1 (numR 8 q.2.1 q.2.2)
def jW (l : List Nat) (e : Nat) : WR × List Nat × Nat:=jW1 (numR 1099511627776 l e)
def jWs : Nat→List WR→List Nat→Nat→List WR × List Nat × Nat
 | 0,acc,l,e=>(acc,l,e)
 | k + 1,acc,l,e=>jWs k (acc ++ [(jW l e).1]) (jW l e).2.1 (jW l e).2.2
def jp9 (a b c d f g h : Nat) (q : List WR × List Nat × Nat) : PU:=⟨a,b,c,d,f,g,h,q.1⟩
def jp8 (a b c d f g h : Nat) (q : NR) : PU:=jp9 a b c d f g h (jWs q.1 [] q.2.1 q.2.2)
def jp7 (a b c d f g : Nat) (q : NR) : PU:=jp8 a b c d f g q.1 (numR 4 q.2.1 q.2.2)
def jp6 (a b c d f : Nat) (q : NR) : PU:=jp7 a b c d f q.1 (numR 1099511627776 q.2.1 q.2.2)
def jp5 (a b c d : Nat) (q : NR) : PU:=jp6 a b c d q.1 (numR 1099511627776 q.2.1 q.2.2)
def jp4 (a b c : Nat) (q : NR) : PU:=jp5 a b c q.1 (numR 1099511627776 q.2.1 q.2.2)
def jp3 (a b : Nat) (q : NR) : PU:=jp4 a b q.1 (numR 1099511627776 q.2.1 q.2.2)
def jp2 (a : Nat) (q : NR) : PU:=jp3 a q.1 (numR 1099511627776 q.2.1 q.2.2)
def jp1 (q : NR) : PU:=jp2 q.1 (numR 1099511627776 q.2.1 q.2.2)
def jP (l : List Nat) : PU:=jp1 (numR 1099511627776 l 0)
def zeroP : PU:=⟨0,0,0,0,0,0,0,[]⟩
def readP (l : List Nat) : PU × Int:=if pushR (jP l) = true∧pushB (jP l) = l then (jP l,0) else (zeroP,20)

def GI (n k : Nat) (l : List IT) : Prop:=l.length≤k∧byI l∧∀ x ∈ l,x.d.length≤n
theorem GI.snoc {n k : Nat} {l : List IT} {x : IT} (h : GI n k l) (h1 : ∀ c ∈ x.d,c < 256) (h2 : x.d.length≤n) : GI n (k + 1) (l ++ [x]) :=
  ⟨by simp;exact h.1,fun y hy=>by rcases List.mem_append.1 hy with hy | hy;exact h.2.1 y hy;simp only [List.mem_singleton] at hy;subst hy;exact h1,
   fun y hy=>by rcases List.mem_append.1 hy with hy | hy;exact h.2.2 y hy;simp only [List.mem_singleton] at hy;subst hy;exact h2⟩
def GW (n k : Nat) (l : List WR) : Prop:=l.length≤k∧∀ w ∈ l,GI n 8 w.its
theorem GW.snoc {n k : Nat} {l : List WR} {w : WR} (h : GW n k l) (h1 : GI n 8 w.its) : GW n (k + 1) (l ++ [w]) :=
 ⟨by simp;exact h.1,fun y hy=>by rcases List.mem_append.1 hy with hy | hy;exact h.2 y hy;simp only [List.mem_singleton] at hy;subst hy;exact h1⟩
theorem GW.pok {n : Nat} {p : PU} (hn : n≤1000000) (h : GW n 4 p.ws) : Pok p∧byW p.ws :=
 ⟨⟨by have:=h.1;omega,fun w hw=>⟨by have:=(h.2 w hw).1;omega,fun x hx=>by have:=(h.2 w hw).2.2 x hx;omega⟩⟩,fun w hw=>(h.2 w hw).2.1⟩

theorem pushB_by (p : PU) (h : byW p.ws) : ∀ x ∈ pushB p,x < 256:=by
 intro x hx
 unfold pushB at hx
 rcases List.mem_append.1 hx with hx | hx
 ·exact putS_by _ x hx
 ·obtain ⟨w,hw,hx⟩:=List.mem_flatMap.1 hx
  unfold wB itemsB at hx
  rcases List.mem_append.1 hx with hx | hx
  ·exact putS_by _ x hx
  ·rcases List.mem_append.1 hx with hx | hx
   ·exact putS_by _ x hx
   ·obtain ⟨y,hy,hx⟩:=List.mem_flatMap.1 hx
    unfold itB at hx
    rcases List.mem_append.1 hx with hx | hx
    ·exact putS_by _ x hx
    ·rcases List.mem_append.1 hx with hx | hx
     ·exact num7_by _ x hx
     ·exact h w hw y hy x hx
theorem putP_by (p : PU) (h : byW p.ws) : ∀ x ∈ (putP p).1,x < 256:=by
 unfold putP
 split
 ·exact pushB_by p h
 ·intro x hx;cases hx

theorem chunk_ReadPush_1_con (l : List Nat) (e : Nat) (hl : ∀ c ∈ l,c < 256) (hb : l.length≤140737488355328) :
  Con Try.prog 57 [.c (.bp 0 0)] [.box [.bp 1 0],Rd l e] (I (numR 1099511627776 l e).1) [.box [.bp 1 0],Rd (numR 1099511627776 l e).2.1 (numR 1099511627776 l e).2.2]:=by
 have hm : (numR 1099511627776 l e).1≤1099511627776:=numR_le
 have cN:=pack_Reader_Num_con l e 1099511627776 hl hb
 generalize numR 1099511627776 l e = q at hm cN
 obtain ⟨v,l1,e1⟩:=q
 simp only at hm cN
 refine C_chunk_ReadPush_1 nl nl ?_
 simp only [cz,A_chunk_ReadPush_1,argL,objL,List.length_nil,List.length_cons,Nat.zero_add,zX,simprocAttr]
 refine aR 16 ?_
 refine aB 64 ?_
 refine rO [1] [] (cN) ?_
 refine aEs (fun Q hQ=>by simp (disch:=first | (intros;contradiction) | omega | (simp only [zN];omega)) only [zS,zW,simprocAttr];exact hQ) ?_
 refine Fin.objs [] [] (.inr rfl) rfl (by exact trivial) ?_ ?_ (by simp [objL,rlook]) (by (intro k hk;simp [objL,rlook];omega))
 ·simp only [zL,simprocAttr]
 ·simp only [zL,simprocAttr]

theorem chunk_ReadPush_con (l : List Nat) (h8 : ∀ c ∈ l,c < 256) (hn : l.length≤1000000) :
  Con Try.prog 21 [.c (.sl (l.map brow))] [] (.tup [.agg (pushC (readP l).1),I (readP l).2]) []:=by
 have hr : RestOk 1000000 l:=⟨h8,hn⟩
 obtain ⟨R,hR⟩ : ∃ R,R = jP l:=⟨_,rfl⟩
 unfold readP
 rw [← hR]
 unfold jP at hR
 have c1:=chunk_ReadPush_1_con l 0 hr.b8 (by have:=hr.len;omega)
 have g1:=hr.num 1099511627776 0
 have k1 : (numR 1099511627776 l 0).1≤1099511627776:=numR_le
 generalize numR 1099511627776 l 0 = q at hR c1 g1 k1
 obtain ⟨a1,l1,e1⟩:=q
 simp only at c1 g1 k1
 unfold jp1 at hR
 simp only at hR
 have c2:=chunk_ReadPush_1_con l1 e1 g1.b8 (by have:=g1.len;omega)
 have g2:=g1.num 1099511627776 e1
 have k2 : (numR 1099511627776 l1 e1).1≤1099511627776:=numR_le
 generalize numR 1099511627776 l1 e1 = q at hR c2 g2 k2
 obtain ⟨a2,l2,e2⟩:=q
 simp only at c2 g2 k2
 unfold jp2 at hR
 simp only at hR
 have c3:=chunk_ReadPush_1_con l2 e2 g2.b8 (by have:=g2.len;omega)
 have g3:=g2.num 1099511627776 e2
 have k3 : (numR 1099511627776 l2 e2).1≤1099511627776:=numR_le
 generalize numR 1099511627776 l2 e2 = q at hR c3 g3 k3
 obtain ⟨a3,l3,e3⟩:=q
 simp only at c3 g3 k3
 unfold jp3 at hR
 simp only at hR
 have c4:=chunk_ReadPush_1_con l3 e3 g3.b8 (by have:=g3.len;omega)
 have g4:=g3.num 1099511627776 e3
 have k4 : (numR 1099511627776 l3 e3).1≤1099511627776:=numR_le
 generalize numR 1099511627776 l3 e3 = q at hR c4 g4 k4
 obtain ⟨a4,l4,e4⟩:=q
 simp only at c4 g4 k4
 unfold jp4 at hR
 simp only at hR
 have c5:=chunk_ReadPush_1_con l4 e4 g4.b8 (by have:=g4.len;omega)
 have g5:=g4.num 1099511627776 e4
 have k5 : (numR 1099511627776 l4 e4).1≤1099511627776:=numR_le
 generalize numR 1099511627776 l4 e4 = q at hR c5 g5 k5
 obtain ⟨a5,l5,e5⟩:=q
 simp only at c5 g5 k5
 unfold jp5 at hR
 simp only at hR
 have c6:=chunk_ReadPush_1_con l5 e5 g5.b8 (by have:=g5.len;omega)
 have g6:=g5.num 1099511627776 e5
 have k6 : (numR 1099511627776 l5 e5).1≤1099511627776:=numR_le
 generalize numR 1099511627776 l5 e5 = q at hR c6 g6 k6
 obtain ⟨a6,l6,e6⟩:=q
 simp only at c6 g6 k6
 unfold jp6 at hR
 simp only at hR
 have c7:=chunk_ReadPush_1_con l6 e6 g6.b8 (by have:=g6.len;omega)
 have g7:=g6.num 1099511627776 e6
 have k7 : (numR 1099511627776 l6 e6).1≤1099511627776:=numR_le
 generalize numR 1099511627776 l6 e6 = q at hR c7 g7 k7
 obtain ⟨a7,l7,e7⟩:=q
 simp only at c7 g7 k7
 unfold jp7 at hR
 simp only at hR
 have c8:=pack_Reader_Num_con l7 e7 4 g7.b8 (by have:=g7.len;omega)
 have g8:=g7.num 4 e7
 have k8 : (numR 4 l7 e7).1≤4:=numR_le
 generalize numR 4 l7 e7 = q at hR c8 g8 k8
 obtain ⟨m,l8,e8⟩:=q
 simp only at c8 g8 k8
 unfold jp8 at hR
 simp only at hR
 obtain ⟨RW,hRW⟩ : ∃ x,x = jWs m [] l8 e8:=⟨_,rfl⟩
 rw [← hRW] at hR
 refine C_chunk_ReadPush nl nl ?_
 simp only [cz,A_chunk_ReadPush,argL,objL,List.length_nil,zX]
 refine aR 16 ?_
 refine aB 80 ?_
 refine rO [] [] (pack_New_con (l.map brow) (drows_brow l) (brow_len l) (by simp;omega)) ?_
 refine aE ?_
 refine aS 176 (fun Q hQ=>by simp (disch:=intros;contradiction) only [zS,simprocAttr];repeat refine ⟨by ((simp;done)),?_⟩;exact hQ) ?_
 refine aB 240 ?_
 refine RG.callvo [112,96] [] rfl trivial (c1) (.mk (by (repeat' (first | exact tr_nil | refine tr_cons ?_ ?_ | exact tr_bp rfl))) (by (simp only [zT,simprocAttr];done)) (by simp) (by simp) (trivial) (by (simp [lkE_cons,lkE_nil];done)) (by (simp [Ent.pure];done)) (by simp) (by simp)) ?_
 refine aM ?_
 refine RG.callvo [112,96] [] rfl trivial (c2) (.mk (by (repeat' (first | exact tr_nil | refine tr_cons ?_ ?_ | exact tr_bp rfl))) (by (simp only [zT,simprocAttr];done)) (by simp) (by simp) (trivial) (by (simp [lkE_cons,lkE_nil];done)) (by (simp [Ent.pure];done)) (by simp) (by simp)) ?_
 refine aM ?_
 refine RG.callvo [112,96] [] rfl trivial (c3) (.mk (by (repeat' (first | exact tr_nil | refine tr_cons ?_ ?_ | exact tr_bp rfl))) (by (simp only [zT,simprocAttr];done)) (by simp) (by simp) (trivial) (by (simp [lkE_cons,lkE_nil];done)) (by (simp [Ent.pure];done)) (by simp) (by simp)) ?_
 refine aM ?_
 refine RG.callvo [112,96] [] rfl trivial (c4) (.mk (by (repeat' (first | exact tr_nil | refine tr_cons ?_ ?_ | exact tr_bp rfl))) (by (simp only [zT,simprocAttr];done)) (by simp) (by simp) (trivial) (by (simp [lkE_cons,lkE_nil];done)) (by (simp [Ent.pure];done)) (by simp) (by simp)) ?_
 refine aM ?_
 refine RG.callvo [112,96] [] rfl trivial (c5) (.mk (by (repeat' (first | exact tr_nil | refine tr_cons ?_ ?_ | exact tr_bp rfl))) (by (simp only [zT,simprocAttr];done)) (by simp) (by simp) (trivial) (by (simp [lkE_cons,lkE_nil];done)) (by (simp [Ent.pure];done)) (by simp) (by simp)) ?_
 refine aM ?_
 refine RG.callvo [112,96] [] rfl trivial (c6) (.mk (by (repeat' (first | exact tr_nil | refine tr_cons ?_ ?_ | exact tr_bp rfl))) (by (simp only [zT,simprocAttr];done)) (by simp) (by simp) (trivial) (by (simp [lkE_cons,lkE_nil];done)) (by (simp [Ent.pure];done)) (by simp) (by simp)) ?_
 refine aM ?_
 refine RG.callvo [112,96] [] rfl trivial (c7) (.mk (by (repeat' (first | exact tr_nil | refine tr_cons ?_ ?_ | exact tr_bp rfl))) (by (simp only [zT,simprocAttr];done)) (by simp) (by simp) (trivial) (by (simp [lkE_cons,lkE_nil];done)) (by (simp [Ent.pure];done)) (by simp) (by simp)) ?_
 refine aE ?_
 refine aB 544 ?_
 refine rO [96] [] (c8) ?_
 refine aE ?_
 refine aw_loopK (X:={ x : Nat × List WR × List Nat × Nat // x.1≤m∧GW 1000000 x.1 x.2.1∧RestOk 1000000 x.2.2.1∧jWs (m - x.1) x.2.1 x.2.2.1 x.2.2.2 = RW }) [0,2,4,5,6,29] (fun x=>[(30,.c (.v (.int .u64 x.1.1)))]) [16,112] (fun x=>[(96,Rd x.1.2.2.1 x.1.2.2.2),(480,.box [.v (.int .i64 a1),.v (.int .i64 a2),.v (.int .i64 a3),.v (.int .i64 a4),.v (.int .i64 a5),.v (.int .i64 a6),.v (.int .i64 a7),.osl 5000]),(5000,.arr 30 2 (x.1.2.1.map wrow) false)]) (fun x=>m - x.1.1) (⟨(0,[],l8,e8),by simp only;omega,⟨Nat.le_refl _,fun w hw=>by cases hw⟩,g8,hRW.symm⟩) ?_ ?_
 ·skip
  simp only [keepS,keepE,Option.getD_some,lk_cons,lkE_cons,List.cons_append,List.nil_append,simprocAttr]
  refine (Le.ownB 480 7 5000 _ 30 2 rfl rfl rfl (by decide)).trans ?_
  simp only [List.set_cons_succ,List.set_cons_zero,setE_cons,setE_nil,simprocAttr]
  refine Le.lit [] [] _ _ ?_ ?_ ?_ ?_
  ·simp only [zL,simprocAttr]
  ·simp only [zL,simprocAttr]
   all_goals (try ((repeat' (((simp [C.isD];done))))))
  ·simp [rlook]
  ·(simp;done)
 rintro ⟨⟨i,acc,la,ea⟩,u1,u2,u3,u4⟩
 simp only [keepS,keepE,Option.getD_some,lk_cons,lkE_cons,List.cons_append,List.nil_append,simprocAttr]
 simp only [zX]
 simp only at u1 u2 u3 u4
 refine aR 624 ?_
 refine aw_cond _ rfl trivial (fun ht=>?_) (fun hf=>?_)
 ·skip
  try simp at ht
  simp only [zX]
  obtain ⟨d,hd⟩ : ∃ d,m - i = d + 1:=⟨m - i - 1,by omega⟩
  rw [hd] at u4
  unfold jWs at u4
  have v0:=u3.len
  have cS:=chunk_ReadPush_1_con la ea u3.b8 (by omega)
  have v1:=u3.num 1099511627776 ea
  have v2 : (numR 1099511627776 la ea).1≤1099511627776:=numR_le
  obtain ⟨W,hW⟩ : ∃ W,W = jW la ea:=⟨_,rfl⟩
  rw [← hW] at u4
  unfold jW at hW
  generalize numR 1099511627776 la ea = q at hW cS v1 v2
  obtain ⟨s,lb,eb⟩:=q
  simp only at cS v1 v2
  unfold jW1 at hW
  simp only at hW
  have v3:=v1.len
  have cM:=pack_Reader_Num_con lb eb 8 v1.b8 (by omega)
  have v4:=v1.num 8 eb
  have v5 : (numR 8 lb eb).1≤8:=numR_le
  generalize numR 8 lb eb = q at hW cM v4 v5
  obtain ⟨m2,lc,ec⟩:=q
  simp only at cM v4 v5
  unfold jW2 at hW
  simp only at hW
  obtain ⟨RI,hRI⟩ : ∃ x,x = jI m2 [] lc ec:=⟨_,rfl⟩
  rw [← hRI] at hW
  refine aB 672 ?_
  refine RG.callvo [112,96] [] rfl trivial (cS) (.mk (by (repeat' (first | exact tr_nil | refine tr_cons ?_ ?_ | exact tr_bp rfl))) (by (simp only [zT,simprocAttr];done)) (by simp) (by simp) (trivial) (by (simp [lkE_cons,lkE_nil];done)) (by (simp [Ent.pure];done)) (by simp) (by simp)) ?_
  refine aE ?_
  refine aB 784 ?_
  refine rO [96] [] (cM) ?_
  refine aE ?_
  refine aw_loopK (X:={ x : Nat × List IT × List Nat × Nat // x.1≤m2∧GI 1000000 x.1 x.2.1∧RestOk 1000000 x.2.2.1∧jI (m2 - x.1) x.2.1 x.2.2.1 x.2.2.2 = RI }) [0,2,4,5,6,7,29,30,36] (fun x=>[(37,.c (.v (.int .u64 x.1.1)))]) [16,112,480,5000] (fun x=>[(96,Rd x.1.2.2.1 x.1.2.2.2),(720,.box [.v (.int .i64 s),.osl 5001]),(5001,.arr 89 2 (x.1.2.1.map irow) false)]) (fun x=>m2 - x.1.1) (⟨(0,[],lc,ec),by simp only;omega,⟨Nat.le_refl _,fun w hw=>(by cases hw),fun w hw=>(by cases hw)⟩,v4,hRI.symm⟩) ?_ ?_
  ·skip
   simp only [keepS,keepE,Option.getD_some,lk_cons,lkE_cons,List.cons_append,List.nil_append,simprocAttr]
   refine (Le.ownB 720 1 5001 _ 89 2 rfl rfl rfl (by decide)).trans ?_
   simp only [List.set_cons_succ,List.set_cons_zero,setE_cons,setE_nil,simprocAttr]
   refine Le.lit [] [] _ _ ?_ ?_ ?_ ?_
   ·simp only [zL,simprocAttr]
   ·simp only [zL,simprocAttr]
    all_goals (try ((repeat' (first | (first | exact drows_wrow _ | (simp [C.isD];done)) | refine ⟨?_,?_⟩))))
   ·simp [rlook]
   ·(simp;done)
  rintro ⟨⟨k,its,ld,ed⟩,x1,x2,x3,x4⟩
  simp only [keepS,keepE,Option.getD_some,lk_cons,lkE_cons,List.cons_append,List.nil_append,simprocAttr]
  simp only [zX]
  simp only at x1 x2 x3 x4
  refine aR 864 ?_
  refine aw_cond _ rfl trivial (fun ht=>?_) (fun hf=>?_)
  ·skip
   try simp at ht
   simp only [zX]
   obtain ⟨d2,hd2⟩ : ∃ d,m2 - k = d + 1:=⟨m2 - k - 1,by omega⟩
   rw [hd2] at x4
   unfold jI at x4
   have y0:=x3.len
   have y1:=x3.num 1099511627776 ed
   have y2 : (numR 1099511627776 ld ed).1≤1099511627776:=numR_le
   have cB:=chunk_ReadPush_1_con ld ed x3.b8 (by omega)
   generalize numR 1099511627776 ld ed = q at x4 y1 y2 cB
   obtain ⟨b,lf,ef⟩:=q
   simp only at x4 y1 y2 cB
   have y3:=y1.len
   have y4:=y1.lump 32 ef
   have y5:=(lumpR_mem (most:=32) (e:=ef) y1.b8).1
   have y6:=(lumpR_len (most:=32) (l:=lf) (e:=ef)).1
   have cL:=pack_Reader_Lump_con lf ef 32 y1.b8 (by omega) (by omega)
   generalize lumpR 32 lf ef = q at x4 y4 y5 y6 cL
   obtain ⟨bs,lg,eg⟩:=q
   simp only at x4 y4 y5 y6 cL
   have x2l:=x2.1
   have e2 : its.map irow ++ [[.v (.int .i64 b),.sl (bs.map brow)]] = (its ++ [(⟨(b : Int),bs⟩ : IT)]).map irow:=by rw [List.map_append];rfl
   refine aBD 912 ?_
   refine RG.callvk 0 112 [112,96] [] rfl trivial (cB) (.mk (by (repeat' (first | exact tr_nil | refine tr_cons ?_ ?_ | exact tr_bp rfl))) (by (simp only [zT,simprocAttr];done)) (by simp) (by simp) (trivial) (by (simp [lkE_cons,lkE_nil];done)) (by (simp [Ent.pure];done)) (by simp) (by simp)) rfl rfl rfl ?_
   refine aMs (fun Q hQ=>by simp (disch:=intros;contradiction) only [zS,dropId,simprocAttr];exact hQ) ?_
   refine rO [96] [] (cL) ?_
   refine aEDs (fun Q hQ=>by simp (disch:=intros;contradiction) only [zS,zW,e2,simprocAttr];repeat refine ⟨by ((simp;omega)),?_⟩;exact hQ) ?_
   refine aS 1120 (fun Q hQ=>by simp (disch:=first | (intros;contradiction) | omega | (simp only [zN];omega)) only [zS,zW,simprocAttr];exact hQ) ?_
   refine ⟨⟨(k + 1,its ++ [⟨(b : Int),bs⟩],lg,eg),by simp only;omega,x2.snoc y5 (by simp only;omega),y4,by simp only;rw [show m2 - (k + 1) = d2 by omega];exact x4⟩,?_,by first | omega | (simp only;omega)⟩
   refine Le.lit [] [(5001,1040)] _ _ ?_ ?_ ?_ ?_
   ·simp only [zL,simprocAttr]
    all_goals (try ((repeat' (rfl))))
   ·simp only [zL,simprocAttr]
    all_goals (try ((repeat' (first | (first | exact drows_irow _ | exact drows_wrow _) | refine ⟨?_,?_⟩))))
   ·simp [rlook]
   ·(simp;done)
  try simp at hf
  simp only [zX,↓reduceIte]
  have hk : k = m2:=by omega
  subst hk
  rw [Nat.sub_self] at x4
  have x4 : (its,ld,ed) = RI:=x4
  subst x4
  have hW2 : W = (⟨s,its⟩,ld,ed):=hW
  rw [hW2] at u4
  have u2l:=u2.1
  have x2' : GI 1000000 8 its:=⟨by have:=x2.1;omega,x2.2⟩
  refine aS 1184 (fun Q hQ=>by simp (disch:=intros;contradiction) only [zS,zW,simprocAttr];repeat refine ⟨by ((simp;omega)),?_⟩;exact hQ) ?_
  refine aS 1328 (fun Q hQ=>by simp (disch:=first | (intros;contradiction) | omega | (simp only [zN];omega)) only [zS,zW,simprocAttr];exact hQ) ?_
  refine ⟨⟨(i + 1,acc ++ [(⟨s,its⟩ : WR)],ld,ed),by simp only;omega,u2.snoc x2',x3,by simp only;rw [show m - (i + 1) = d by omega];exact u4⟩,?_,by first | omega | (simp only;omega)⟩
  refine (Le.tell [5001] 1248 30 2 _ ((acc ++ [(⟨(s : Int),its⟩ : WR)]).map wrow) false rfl (by rw [List.map_append];refine tell_app ?_ _;exact ⟨⟨.inl rfl,.inr (.inr ⟨_,_,_,_,rfl,rfl,rfl,drows_irow _⟩),trivial⟩,trivial⟩)).trans ?_
  refine Le.lit [] [(5000,1248)] _ _ ?_ ?_ ?_ ?_
  ·simp only [zL,simprocAttr]
   all_goals (try ((repeat' (rfl))))
  ·simp only [zL,simprocAttr]
   all_goals (try ((repeat' ((exact drows_wrow _)))))
  ·simp [rlook]
  ·(simp;done)
 try simp at hf
 simp only [zX,↓reduceIte]
 have hi : i = m:=by omega
 subst hi
 rw [Nat.sub_self] at u4
 have u4 : (acc,la,ea) = RW:=u4
 subst u4
 have hR2 : R = ⟨a1,a2,a3,a4,a5,a6,a7,acc⟩:=hR
 have u2' : GW 1000000 4 acc:=⟨by have:=u2.1;omega,u2.2⟩
 have hok : Pok R∧byW R.ws:=by rw [hR2];exact GW.pok (Nat.le_refl _) u2'
 have cP:=chunk_PutPush_con R hok.1
 have hby:=putP_by R hok.2
 rw [hR2] at cP hby ⊢
 have hE:=bytes_Equal_con (putP ⟨a1,a2,a3,a4,a5,a6,a7,acc⟩).1 l hby h8
 generalize hpp : putP ⟨a1,a2,a3,a4,a5,a6,a7,acc⟩ = pp at cP hE
 obtain ⟨pb,pe⟩:=pp
 have hacc : pushR ⟨a1,a2,a3,a4,a5,a6,a7,acc⟩ = true∧pushB ⟨a1,a2,a3,a4,a5,a6,a7,acc⟩ = l ↔ pe = 0∧pb = l:=by
  unfold putP at hpp
  split at hpp
  ·rename_i h;cases hpp;simp [h]
  ·rename_i h;cases hpp;simp [h]
 simp only at cP hE
 refine aB 1392 ?_
 refine rO [] [5000] (cP) ?_
 refine aE ?_
 refine aB 1536 ?_
 refine rG _ _ (hE) ?_
 refine aEs (fun Q hQ=>by simp (disch:=intros;contradiction) only [zS,simprocAttr];repeat refine ⟨by ((simp;done)),?_⟩;exact hQ) ?_
 refine aw_cond _ rfl trivial (fun ht=>?_) (fun hf=>?_)
 ·skip
  try simp at ht
  simp only [zX]
  rw [if_neg (by rw [hacc];intro h;simp [h] at ht)]
  refine aR 1696 ?_
  refine Fin.data [] (.inr rfl) rfl (by (exact ⟨trivial,trivial⟩)) ?_
  simp only [zL,simprocAttr]
  all_goals ((repeat' (first | exact trivial | rfl | refine ⟨?_,?_⟩)))
 try simp at hf
 simp only [zX]
 rw [if_pos (by rw [hacc];first | exact hf | omega | (constructor <;> (fail)))]
 refine aR 1776 ?_
 refine Fin.data [5000] (.inr rfl) rfl (by (exact ⟨trivial,trivial⟩)) ?_
 simp only [zL,simprocAttr]
 all_goals ((repeat' (first | exact trivial | rfl | (refine ⟨⟨_,_,rfl⟩,?_⟩;(exact drows_wrow _)) | refine ⟨?_,?_⟩)))

end Go.Abs

namespace Go.Abs
open Go Go.Proofs
set_option maxRecDepth 100000
set_option linter.unusedSimpArgs false
set_option maxHeartbeats 8000000

theorem numR_pos1 (n : Nat) (r : List Nat) {most : Nat} (h : n≤most) (hb : n < 18446744073709551616) : numR most (putS [n] ++ r) 0 = (n,r,0):=by
 have : putS [n] = num7 n:=by simp [putS]
 rw [this];exact numR_num7 r h hb
theorem u64N_to {n : Int} (h : 0≤n) (h2 : n < 18446744073709551616) : u64N n = n.toNat:=by unfold u64N;omega
theorem numR_put {n : Int} {most : Nat} (r : List Nat) (h0 : 0≤n) (h : n≤most) (hb : n < 18446744073709551616) : numR most (putS [u64N n] ++ r) 0 = (n.toNat,r,0):=by
 rw [u64N_to h0 hb];exact numR_pos1 _ r (by omega) (by omega)
theorem numsL_cons (n : Int) (l : List Int) : numsL (n :: l) = putS [u64N n] ++ numsL l:=by simp [numsL,putS]
theorem itsB_cons (x : IT) (l : List IT) : itsB (x :: l) = itB x ++ itsB l:=rfl
theorem pwB_cons (w : WR) (l : List WR) : pwB (w :: l) = wB w ++ pwB l:=rfl

def IOk (l : List IT) : Prop:=∀ x ∈ l,0≤x.b∧x.b≤256∧x.d.length≤32
theorem jI_put : ∀ (l acc : List IT) (r : List Nat),IOk l→jI l.length acc (itsB l ++ r) 0 = (acc ++ l,r,0)
 | [],acc,r,_=>by simp [jI,itsB]
 | x :: l,acc,r,h=>by
  obtain ⟨h1,h2,h3⟩:=h x (by simp)
  rw [itsB_cons,List.append_assoc,List.length_cons,jI]
  unfold itB
  rw [List.append_assoc,numR_put (most:=1099511627776) _ h1 (by omega) (by omega)]
  simp only
  rw [lumpR_lump (most:=32) x.d _ h3 (by omega)]
  simp only
  rw [jI_put l _ r fun y hy=>h y (by simp [hy])]
  have : (⟨(x.b.toNat : Int),x.d⟩ : IT) = x:=by rw [it_eq];exact ⟨by simp only;omega,rfl⟩
  rw [this];simp
def WOk (l : List WR) : Prop:=∀ w ∈ l,0≤w.s∧w.s≤1099511627776∧w.its.length≤8∧IOk w.its
theorem jW_put {w : WR} (r : List Nat) (h1 : 0≤w.s) (h2 : w.s≤1099511627776) (h3 : w.its.length≤8) (h4 : IOk w.its) : jW (wB w ++ r) 0 = (w,r,0):=by
 unfold jW wB itemsB
 rw [List.append_assoc,List.append_assoc,numR_put (most:=1099511627776) _ h1 (by omega) (by omega)]
 unfold jW1
 simp only
 rw [numR_put (most:=8) _ (by omega) (by omega) (by omega)]
 unfold jW2
 simp only [Int.toNat_natCast]
 rw [jI_put w.its [] r h4]
 unfold jW3
 have : (⟨(w.s.toNat : Int),w.its⟩ : WR) = w:=by rw [wr_eq];exact ⟨by simp only;omega,rfl⟩
 simp only [List.nil_append]
 rw [this]
theorem jWs_put : ∀ (l acc : List WR) (r : List Nat),WOk l→jWs l.length acc (pwB l ++ r) 0 = (acc ++ l,r,0)
 | [],acc,r,_=>by simp [jWs,pwB]
 | w :: l,acc,r,h=>by
  obtain ⟨h1,h2,h3,h4⟩:=h w (by simp)
  rw [pwB_cons,List.append_assoc,List.length_cons,jWs,jW_put _ h1 h2 h3 h4]
  simp only
  rw [jWs_put l _ r fun y hy=>h y (by simp [hy])]
  simp

theorem push_ok {p : PU} (h : pushR p = true) : WOk p.ws:=by
 obtain ⟨q1,q2,q3,q4,q5⟩:=pushR_facts h
 intro w hw
 obtain ⟨a1,a2,a3⟩:=q5 w hw
 have b1:=itemsR_len a3
 have b2:=itemsR_mem a3
 exact ⟨by omega,by omega,b1.2,fun x hx=>by have:=b2 x hx;omega⟩
theorem pu_eq {p : PU} {a b c d f g h : Int} (h1 : a = p.vol) (h2 : b = p.chunk) (h3 : c = p.count) (h4 : d = p.size) (h5 : f = p.frm) (h6 : g = p.to) (h7 : h = p.floor) : (⟨a,b,c,d,f,g,h,p.ws⟩ : PU) = p:=by
 subst h1 h2 h3 h4 h5 h6 h7;rfl
theorem jP_put {p : PU} (h : pushR p = true) : jP (pushB p) = p:=by
 have hw:=push_ok h
 obtain ⟨⟨⟨a1,a2⟩,⟨b1,b2⟩,⟨c1,c2⟩,d1,d2⟩,⟨f1,f2,f3⟩,⟨g1,g2⟩,q4,q5⟩:=pushR_facts h
 have hB : pushB p = putS [u64N p.vol] ++ (putS [u64N p.chunk] ++ (putS [u64N p.count] ++ (putS [u64N p.size] ++ (putS [u64N p.frm] ++ (putS [u64N p.to] ++ (putS [u64N p.floor] ++ (putS [u64N p.ws.length] ++ (pwB p.ws ++ [])))))))):=by
  unfold pushB;simp only [numsL_cons];simp [numsL,putS]
 rw [hB]
 unfold jP
 rw [numR_put (most:=1099511627776) _ a1 (by omega) (by omega)]
 unfold jp1
 simp only
 rw [numR_put (most:=1099511627776) _ b1 (by omega) (by omega)]
 unfold jp2
 simp only
 rw [numR_put (most:=1099511627776) _ (by omega) (by omega) (by omega)]
 unfold jp3
 simp only
 rw [numR_put (most:=1099511627776) _ (by omega) (by omega) (by omega)]
 unfold jp4
 simp only
 rw [numR_put (most:=1099511627776) _ (by omega) (by omega) (by omega)]
 unfold jp5
 simp only
 rw [numR_put (most:=1099511627776) _ (by omega) (by omega) (by omega)]
 unfold jp6
 simp only
 rw [numR_put (most:=1099511627776) _ (by omega) (by omega) (by omega)]
 unfold jp7
 simp only
 rw [numR_put (most:=4) _ (by omega) (by omega) (by omega)]
 unfold jp8
 simp only [Int.toNat_natCast]
 rw [jWs_put p.ws [] [] hw]
 unfold jp9
 simp only [List.nil_append]
 exact pu_eq (by omega) (by omega) (by omega) (by omega) (by omega) (by omega) (by omega)
theorem readP_yes {p : PU} {l : List Nat} (h : pushR p = true) (hb : pushB p = l) : readP l = (p,0):=by
 subst hb
 unfold readP
 rw [jP_put h,if_pos ⟨h,rfl⟩]
end Go.Abs

namespace Go.Abs
open Go Go.Proofs
set_option maxRecDepth 100000
set_option linter.unusedSimpArgs false
set_option maxHeartbeats 8000000

theorem rdN_ge : ∀ (l : List Nat) (i acc : Nat),(rdN i acc l).2.2 = 0→i + 1≤(rdN i acc l).2.1:=by
 intro l
 induction l with
 | nil=>intro i acc h;simp [rdN] at h
 | cons c l ih =>
  intro i acc h
  unfold rdN at h ⊢
  split at h
  ·simp at h
  ·rename_i h1
   rw [if_neg h1]
   split at h
   ·rename_i h2
    rw [if_pos h2]
    have:=ih _ _ h
    omega
   ·rename_i h2
    rw [if_neg h2]
    split at h
    ·simp at h
    ·rename_i h3
     rw [if_neg h3]
     simp
theorem numR_less {most : Nat} {l : List Nat} : ((numR most l 0).2.2 = 0∧(numR most l 0).2.1.length + 1≤l.length)∨((numR most l 0).2.2≠0∧(numR most l 0).2.1 = []):=by
 unfold numR
 rw [if_neg (by simp)]
 split
 ·rename_i h;exact .inr ⟨h,rfl⟩
 ·rename_i h
  have h0 : (rdN 0 0 l).2.2 = 0:=by omega
  have h1:=rdN_ge l 0 0 h0
  have h2:=rdN_size l 0 0 h0
  split
  ·exact .inr ⟨by simp,rfl⟩
  ·exact .inl ⟨rfl,by simp;omega⟩
theorem numR_bad {most : Nat} {l : List Nat} {e : Nat} (h : e≠0) : numR most l e = (0,l,e):=by unfold numR;rw [if_pos h]
theorem lumpR_bad {most : Nat} {l : List Nat} {e : Nat} (h : e≠0) : lumpR most l e = ([],l,e):=by unfold lumpR;rw [numR_bad h];simp [h]

def jV : Nat→List IT→List Nat→Nat→List IT × List Nat × Nat
 | 0,acc,l,e=>(acc,l,e)
 | k + 1,acc,l,e =>
  if e = 0 then jV k (acc ++ [⟨((numR 1099511627776 l e).1 : Int),(lumpR 32 (numR 1099511627776 l e).2.1 (numR 1099511627776 l e).2.2).1⟩]) (lumpR 32 (numR 1099511627776 l e).2.1 (numR 1099511627776 l e).2.2).2.1 (lumpR 32 (numR 1099511627776 l e).2.1 (numR 1099511627776 l e).2.2).2.2
  else (acc,l,e)
def jH1 (q : NR) : List IT × List Nat × Nat:=jV q.1 [] q.2.1 q.2.2
def jH (most : Nat) (l : List Nat) (e : Nat) : List IT × List Nat × Nat:=jH1 (numR most l e)
def jHs : Nat→List (List IT)→List Nat→Nat→List (List IT) × List Nat × Nat
 | 0,acc,l,e=>(acc,l,e)
 | k + 1,acc,l,e=>jHs k (acc ++ [(jH 1099511627776 l e).1]) (jH 1099511627776 l e).2.1 (jH 1099511627776 l e).2.2
def zeroCH : CH:=⟨0,0,0,0,0,0,[]⟩
abbrev TC:=(CH × Bool) × List Nat × Nat
def jc8 (a b c d f g : Nat) (q : List (List IT) × List Nat × Nat) : TC:=if q.2.2≠0∨rightC ⟨a,b,c,d,f,g,q.1⟩ = false then ((zeroCH,false),q.2) else ((⟨a,b,c,d,f,g,q.1⟩,true),q.2)
def jc7 (a b c d f g : Nat) (l : List Nat) (e : Nat) : TC:=if e≠0∨shapeC a b c d = false then ((zeroCH,false),l,e) else jc8 a b c d f g (jHs c [] l e)
def jc6 (a b c d f : Nat) (q : NR) : TC:=jc7 a b c d f q.1 q.2.1 q.2.2
def jc5 (a b c d : Nat) (q : NR) : TC:=jc6 a b c d q.1 (numR 1099511627776 q.2.1 q.2.2)
def jc4 (a b c : Nat) (q : NR) : TC:=jc5 a b c q.1 (numR 1099511627776 q.2.1 q.2.2)
def jc3 (a b : Nat) (q : NR) : TC:=jc4 a b q.1 (numR 1099511627776 q.2.1 q.2.2)
def jc2 (a : Nat) (q : NR) : TC:=jc3 a q.1 (numR 1099511627776 q.2.1 q.2.2)
def jc1 (q : NR) : TC:=jc2  q.1 (numR 1099511627776 q.2.1 q.2.2)
def takeC (l : List Nat) (e : Nat) : TC:=jc1 (numR 1099511627776 l e)

def GH (n k : Nat) (H : List (List IT)) : Prop:=H.length≤k∧∀ h ∈ H,GI n (n + 1) h
theorem GH.snoc {n k : Nat} {H : List (List IT)} {h : List IT} (hH : GH n k H) (h1 : GI n (n + 1) h) : GH n (k + 1) (H ++ [h]) :=
 ⟨by simp;exact hH.1,fun y hy=>by rcases List.mem_append.1 hy with hy | hy;exact hH.2 y hy;simp only [List.mem_singleton] at hy;subst hy;exact h1⟩
theorem GH.cin {n k : Nat} {c : CH} (hn : n≤100000) (hk : k≤1000) (h : GH n k c.hist) : Cin c :=
 ⟨by have:=h.1;omega,fun l hl=>⟨by have:=(h.2 l hl).1;omega,fun x hx=>by have:=(h.2 l hl).2.2 x hx;omega⟩⟩

theorem chunk_Take_1_con (l : List Nat) (e : Nat) (hl : ∀ c ∈ l,c < 256) (hb : l.length≤140737488355328) :
  Con Try.prog 76 [.c (.bp 0 0)] [.box [.bp 1 0],Rd l e] (I (numR 1099511627776 l e).1) [.box [.bp 1 0],Rd (numR 1099511627776 l e).2.1 (numR 1099511627776 l e).2.2]:=by
 have hm : (numR 1099511627776 l e).1≤1099511627776:=numR_le
 have cN:=pack_Reader_Num_con l e 1099511627776 hl hb
 generalize numR 1099511627776 l e = q at hm cN
 obtain ⟨v,l1,e1⟩:=q
 simp only at hm cN
 refine C_chunk_Take_1 nl nl ?_
 simp only [cz,A_chunk_Take_1,argL,objL,List.length_nil,List.length_cons,Nat.zero_add,zX,simprocAttr]
 refine aR 16 ?_
 refine aB 64 ?_
 refine rO [1] [] (cN) ?_
 refine aEs (fun Q hQ=>by simp (disch:=first | (intros;contradiction) | omega | (simp only [zN];omega)) only [zS,zW,simprocAttr];exact hQ) ?_
 refine Fin.objs [] [] (.inr rfl) rfl (by exact trivial) ?_ ?_ (by simp [objL,rlook]) (by (intro k hk;simp [objL,rlook];omega))
 ·simp only [zL,simprocAttr]
 ·simp only [zL,simprocAttr]

theorem chunk_Take_con (l : List Nat) (e : Nat) (hr : RestOk 100000 l) :
  Con Try.prog 36 [.c (.bp 0 0)] [Rd l e] (.tup [.agg (chC (takeC l e).1.1),B (takeC l e).1.2]) [Rd (takeC l e).2.1 (takeC l e).2.2]:=by
 obtain ⟨R,hR⟩ : ∃ R,R = takeC l e:=⟨_,rfl⟩
 rw [← hR]
 unfold takeC at hR
 have c1:=chunk_Take_1_con l e hr.b8 (by have:=hr.len;omega)
 have g1:=hr.num 1099511627776 e
 have k1 : (numR 1099511627776 l e).1≤1099511627776:=numR_le
 generalize numR 1099511627776 l e = q at hR c1 g1 k1
 obtain ⟨a1,l1,e1⟩:=q
 simp only at c1 g1 k1
 unfold jc1 at hR
 simp only at hR
 have c2:=chunk_Take_1_con l1 e1 g1.b8 (by have:=g1.len;omega)
 have g2:=g1.num 1099511627776 e1
 have k2 : (numR 1099511627776 l1 e1).1≤1099511627776:=numR_le
 generalize numR 1099511627776 l1 e1 = q at hR c2 g2 k2
 obtain ⟨a2,l2,e2⟩:=q
 simp only at c2 g2 k2
 unfold jc2 at hR
 simp only at hR
 have c3:=chunk_Take_1_con l2 e2 g2.b8 (by have:=g2.len;omega)
 have g3:=g2.num 1099511627776 e2
 have k3 : (numR 1099511627776 l2 e2).1≤1099511627776:=numR_le
 generalize numR 1099511627776 l2 e2 = q at hR c3 g3 k3
 obtain ⟨a3,l3,e3⟩:=q
 simp only at c3 g3 k3
 unfold jc3 at hR
 simp only at hR
 have c4:=chunk_Take_1_con l3 e3 g3.b8 (by have:=g3.len;omega)
 have g4:=g3.num 1099511627776 e3
 have k4 : (numR 1099511627776 l3 e3).1≤1099511627776:=numR_le
 generalize numR 1099511627776 l3 e3 = q at hR c4 g4 k4
 obtain ⟨a4,l4,e4⟩:=q
 simp only at c4 g4 k4
 unfold jc4 at hR
 simp only at hR
 have c5:=chunk_Take_1_con l4 e4 g4.b8 (by have:=g4.len;omega)
 have g5:=g4.num 1099511627776 e4
 have k5 : (numR 1099511627776 l4 e4).1≤1099511627776:=numR_le
 generalize numR 1099511627776 l4 e4 = q at hR c5 g5 k5
 obtain ⟨a5,l5,e5⟩:=q
 simp only at c5 g5 k5
 unfold jc5 at hR
 simp only at hR
 have c6:=chunk_Take_1_con l5 e5 g5.b8 (by have:=g5.len;omega)
 have g6:=g5.num 1099511627776 e5
 have k6 : (numR 1099511627776 l5 e5).1≤1099511627776:=numR_le
 generalize numR 1099511627776 l5 e5 = q at hR c6 g6 k6
 obtain ⟨a6,l6,e6⟩:=q
 simp only at c6 g6 k6
 unfold jc6 at hR
 simp only at hR
 unfold jc7 at hR
 refine C_chunk_Take nl nl ?_
 simp only [cz,A_chunk_Take,argL,objL,List.length_nil,List.length_cons,Nat.zero_add,zX]
 refine aR 16 ?_
 refine aR 96 ?_
 refine aF ?_
 refine aS 160 (fun Q hQ=>by simp (disch:=intros;contradiction) only [zS,simprocAttr];repeat refine ⟨by ((simp;done)),?_⟩;exact hQ) ?_
 refine aB 224 ?_
 refine RG.callvo [16,0] [] rfl trivial (c1) (.mk (by (repeat' (first | exact tr_nil | refine tr_cons ?_ ?_ | exact tr_bp rfl))) (by (simp only [zT,simprocAttr];done)) (by simp) (by simp) (trivial) (by (simp [lkE_cons,lkE_nil];done)) (by (simp [Ent.pure];done)) (by simp) (by simp)) ?_
 refine aM ?_
 refine RG.callvo [16,0] [] rfl trivial (c2) (.mk (by (repeat' (first | exact tr_nil | refine tr_cons ?_ ?_ | exact tr_bp rfl))) (by (simp only [zT,simprocAttr];done)) (by simp) (by simp) (trivial) (by (simp [lkE_cons,lkE_nil];done)) (by (simp [Ent.pure];done)) (by simp) (by simp)) ?_
 refine aM ?_
 refine RG.callvo [16,0] [] rfl trivial (c3) (.mk (by (repeat' (first | exact tr_nil | refine tr_cons ?_ ?_ | exact tr_bp rfl))) (by (simp only [zT,simprocAttr];done)) (by simp) (by simp) (trivial) (by (simp [lkE_cons,lkE_nil];done)) (by (simp [Ent.pure];done)) (by simp) (by simp)) ?_
 refine aM ?_
 refine RG.callvo [16,0] [] rfl trivial (c4) (.mk (by (repeat' (first | exact tr_nil | refine tr_cons ?_ ?_ | exact tr_bp rfl))) (by (simp only [zT,simprocAttr];done)) (by simp) (by simp) (trivial) (by (simp [lkE_cons,lkE_nil];done)) (by (simp [Ent.pure];done)) (by simp) (by simp)) ?_
 refine aM ?_
 refine RG.callvo [16,0] [] rfl trivial (c5) (.mk (by (repeat' (first | exact tr_nil | refine tr_cons ?_ ?_ | exact tr_bp rfl))) (by (simp only [zT,simprocAttr];done)) (by simp) (by simp) (trivial) (by (simp [lkE_cons,lkE_nil];done)) (by (simp [Ent.pure];done)) (by simp) (by simp)) ?_
 refine aM ?_
 refine RG.callvo [16,0] [] rfl trivial (c6) (.mk (by (repeat' (first | exact tr_nil | refine tr_cons ?_ ?_ | exact tr_bp rfl))) (by (simp only [zT,simprocAttr];done)) (by simp) (by simp) (trivial) (by (simp [lkE_cons,lkE_nil];done)) (by (simp [Ent.pure];done)) (by simp) (by simp)) ?_
 refine aE ?_
 refine aB 496 ?_
 refine rO [0] [] (pack_rest_Err_con (l6.map brow) e6) ?_
 refine aM ?_
 refine rG _ _ (chunk_shape_con a1 a2 a3 a4) ?_
 refine aEs (fun Q hQ=>by simp (disch:=intros;contradiction) only [zS,simprocAttr];repeat refine ⟨by ((simp;done)),?_⟩;exact hQ) ?_
 refine aw_cond _ rfl trivial (fun ht=>?_) (fun hf=>?_)
 ·skip
  try simp at ht
  simp only [zX]
  have h : e6≠0∨shapeC a1 a2 a3 a4 = false:=by
   rcases ht with ht | ht
   ·exact .inl (by omega)
   ·exact .inr (by simpa using ht)
  rw [if_pos h] at hR
  rw [hR]
  refine aR 800 ?_
  refine Fin.objs [] [] (.inr rfl) rfl (by exact ⟨trivial,trivial⟩) ?_ ?_ (by simp [objL,rlook]) (by (simp [objL,rlook];done))
  ·simp only [zL,simprocAttr]
   all_goals ((repeat' (first | exact trivial | rfl | refine ⟨?_,?_⟩)))
  ·simp only [zL,↓reduceIte]
 try simp at hf
 simp only [zX]
 have hsh : e6 = 0∧shapeC a1 a2 a3 a4 = true:=by
  refine ⟨by omega,?_⟩
  cases hc : shapeC a1 a2 a3 a4 with
  | true=>rfl
  | false=>simp [hc] at hf
 obtain ⟨he6,hsh⟩:=hsh
 subst he6
 rw [if_neg (by simp [hsh])] at hR
 have hcnt : a3≤256:=by
  simp only [shapeC,Bool.and_eq_true,inR_iff] at hsh
  omega
 obtain ⟨RH,hRH⟩ : ∃ x,x = jHs a3 [] l6 0:=⟨_,rfl⟩
 rw [← hRH] at hR
 refine aR 880 ?_
 refine aw_loopK (X:={ x : Nat × List (List IT) × List Nat × Nat // x.1≤a3∧GH 100000 x.1 x.2.1∧RestOk 100000 x.2.2.1∧jHs (a3 - x.1) x.2.1 x.2.2.1 x.2.2.2 = RH }) [1,2,4,5,44] (fun x=>[(45,I x.1.1)]) [16,32] (fun x=>[(0,Rd x.1.2.2.1 x.1.2.2.2),(432,.box [.v (.int .i64 a1),.v (.int .i64 a2),.v (.int .i64 a3),.v (.int .i64 a4),.v (.int .i64 a5),.v (.int .i64 a6),.osl 5000]),(5000,.arr 101 1 (x.1.2.1.map hrow) false)]) (fun x=>a3 - x.1.1) (⟨(0,[],l6,0),by simp only;omega,⟨Nat.le_refl _,fun w hw=>by cases hw⟩,g6,hRH.symm⟩) ?_ ?_
 ·skip
  simp only [keepS,keepE,Option.getD_some,lk_cons,lkE_cons,List.cons_append,List.nil_append,simprocAttr]
  refine (Le.ownB 432 6 5000 _ 101 1 rfl rfl rfl (by decide)).trans ?_
  simp only [List.set_cons_succ,List.set_cons_zero,setE_cons,setE_nil,simprocAttr]
  refine Le.lit [] [] _ _ ?_ ?_ ?_ ?_
  ·simp only [zL,simprocAttr]
  ·simp only [zL,simprocAttr]
   all_goals (try ((repeat' (((simp [C.isD];done))))))
  ·simp [rlook]
  ·(intro k hk;simp [rlook];omega)
 rintro ⟨⟨i,acc,la,ea⟩,u1,u2,u3,u4⟩
 simp only [keepS,keepE,Option.getD_some,lk_cons,lkE_cons,List.cons_append,List.nil_append,simprocAttr]
 simp only [zX]
 simp only at u1 u2 u3 u4
 refine aR 960 ?_
 refine aw_cond _ rfl trivial (fun ht=>?_) (fun hf=>?_)
 ·skip
  try simp at ht
  simp only [zX]
  obtain ⟨d,hd⟩ : ∃ d,a3 - i = d + 1:=⟨a3 - i - 1,by omega⟩
  rw [hd] at u4
  unfold jHs at u4
  have v0:=u3.len
  have cM:=pack_Reader_Num_con la ea 1099511627776 u3.b8 (by omega)
  have v1:=u3.num 1099511627776 ea
  have v2 : (numR 1099511627776 la ea).1≤1099511627776:=numR_le
  obtain ⟨W,hW⟩ : ∃ W,W = jH 1099511627776 la ea:=⟨_,rfl⟩
  rw [← hW] at u4
  unfold jH at hW
  generalize numR 1099511627776 la ea = q at hW cM v1 v2
  obtain ⟨m,lc,ec⟩:=q
  simp only at cM v1 v2
  unfold jH1 at hW
  simp only at hW
  have v3:=v1.len
  refine aR 1008 ?_
  refine aB 1056 ?_
  refine rO [0] [] (cM) ?_
  refine aE ?_
  refine aw_loopK (X:={ x : Nat × List IT × List Nat × Nat // x.1≤m∧GI 100000 100001 x.2.1∧RestOk 100000 x.2.2.1∧x.2.1.length + x.2.2.1.length≤lc.length + (if x.2.2.2 = 0 then 0 else 1)∧jV x.1 x.2.1 x.2.2.1 x.2.2.2 = W }) [1,2,4,5,44,45] (fun x=>[(6,.c (.osl 5001)),(7,.c (.v (.int .u64 x.1.1)))]) [16,32,432,5000] (fun x=>[(0,Rd x.1.2.2.1 x.1.2.2.2),(5001,.arr 111 2 (x.1.2.1.map irow) false)]) (fun x=>x.1.1) (⟨(m,[],lc,ec),by simp only;omega,⟨by simp,fun w hw=>(by cases hw),fun w hw=>(by cases hw)⟩,v1,by simp,hW.symm⟩) ?_ ?_
  ·skip
   simp only [keepS,keepE,Option.getD_some,lk_cons,lkE_cons,List.cons_append,List.nil_append,simprocAttr]
   refine (Le.own 6 5001 111 2 rfl rfl (by decide)).trans ?_
   simp only [setS_cons,setE_cons,setE_nil,simprocAttr]
   refine Le.lit [] [] _ _ ?_ ?_ ?_ ?_
   ·simp only [zL,simprocAttr]
   ·simp only [zL,simprocAttr]
    all_goals (try ((repeat' (first | (first | exact drows_hrow _ | (simp [C.isD];done)) | refine ⟨?_,?_⟩))))
   ·simp [rlook]
   ·(intro k hk;simp [rlook];omega)
  rintro ⟨⟨k,its,ld,ed⟩,x1,x2,x3,xb,x4⟩
  simp only [keepS,keepE,Option.getD_some,lk_cons,lkE_cons,List.cons_append,List.nil_append,simprocAttr]
  simp only [zX]
  simp only at x1 x2 x3 xb x4
  have u2l:=u2.1
  have xbl : its.length≤100001:=x2.1
  by_cases hk0 : k = 0
  ·skip
   subst hk0
   have x4 : (its,ld,ed) = W:=x4
   rw [← x4] at u4
   simp only at u4
   refine aB 1136 ?_
   refine RG.callg (res:=.c (.v (.int .i64 0))) _ _ [] rfl (fun hg=>by simp at hg) ?_
   refine aE ?_
   refine aw_cond _ rfl trivial (fun ht=>by cases ht) (fun hf=>?_)
   simp only [zX,↓reduceIte]
   refine aS 1312 (fun Q hQ=>by simp (disch:=intros;contradiction) only [zS,zW,simprocAttr];repeat refine ⟨by ((simp;omega)),?_⟩;exact hQ) ?_
   refine aS 1456 (fun Q hQ=>by simp (disch:=first | (intros;contradiction) | omega | (simp only [zN];omega)) only [zS,zW,simprocAttr];exact hQ) ?_
   refine ⟨⟨(i + 1,acc ++ [its],ld,ed),by simp only;omega,u2.snoc ⟨by omega,x2.2⟩,x3,by simp only;rw [show a3 - (i + 1) = d by omega];exact u4⟩,?_,by first | omega | (simp only;omega)⟩
   refine (Le.tell [5001] 1376 101 1 _ ((acc ++ [its]).map hrow) false rfl (by rw [List.map_append];refine tell_app ?_ _;exact ⟨⟨.inr (.inr ⟨_,_,_,_,rfl,rfl,rfl,drows_irow _⟩),trivial⟩,trivial⟩)).trans ?_
   refine Le.lit [] [(5000,1376)] _ _ ?_ ?_ ?_ ?_
   ·simp only [zL,simprocAttr]
    all_goals (try ((repeat' (rfl))))
   ·simp only [zL,simprocAttr]
    all_goals (try ((repeat' ((exact drows_hrow _)))))
   ·simp [rlook]
   ·(intro k hk;simp [rlook];omega)
  obtain ⟨j,hj⟩ : ∃ j,k = j + 1:=⟨k - 1,by omega⟩
  have hkt : decide ((0 : Int) < (k : Int)) = true:=by simp;omega
  rw [hj] at x4
  unfold jV at x4
  refine aBs 1520 (fun Q hQ=>by simp (disch:=intros;contradiction) only [zS,hkt,simprocAttr];exact hQ) ?_
  refine RG.callgo true true [0] [] rfl rfl (pack_rest_Err_con (ld.map brow) ed) (.mk (tr_cons (tr_opt rfl (tr_bp rfl)) tr_nil) (by (simp only [zT,↓reduceIte];done)) (by simp) (by simp) (trivial) (by (simp [lkE_cons,lkE_nil];done)) (by (simp [Ent.pure];done)) (by simp) (by simp)) ?_
  refine aE ?_
  refine aw_cond _ rfl trivial (fun ht=>?_) (fun hf=>?_)
  ·skip
   try simp at ht
   simp only [zX]
   obtain rfl : ed = 0:=by omega
   rw [if_pos rfl] at x4
   have y0:=x3.len
   have y1:=x3.num 1099511627776 0
   have y2 : (numR 1099511627776 ld 0).1≤1099511627776:=numR_le
   have y7:=numR_less (most:=1099511627776) (l:=ld)
   have cB:=chunk_Take_1_con ld 0 x3.b8 (by omega)
   generalize numR 1099511627776 ld 0 = q at x4 y1 y2 y7 cB
   obtain ⟨b,lf,ef⟩:=q
   simp only at x4 y1 y2 y7 cB
   have y3:=y1.len
   have y4:=y1.lump 32 ef
   have y5:=(lumpR_mem (most:=32) (e:=ef) y1.b8).1
   have y6:=lumpR_len (most:=32) (l:=lf) (e:=ef)
   have y8 : ef≠0→(lumpR 32 lf ef).2.2≠0:=fun h=>by rw [lumpR_bad h];exact h
   have cL:=pack_Reader_Lump_con lf ef 32 y1.b8 (by omega) (by omega)
   generalize lumpR 32 lf ef = q at x4 y4 y5 y6 y8 cL
   obtain ⟨bs,lg,eg⟩:=q
   simp only at x4 y4 y5 y6 y8 cL
   have e2 : its.map irow ++ [[.v (.int .i64 b),.sl (bs.map brow)]] = (its ++ [(⟨(b : Int),bs⟩ : IT)]).map irow:=by rw [List.map_append];rfl
   have hwk : IntKind.u64.wrap ((k : Int) - 1) = (j : Int):=by rw [w_u64];omega
   rw [if_pos rfl] at xb
   have hb2 : its.length + 1 + lg.length≤lc.length + (if eg = 0 then 0 else 1):=by
    rcases y7 with ⟨h1,h2⟩ | ⟨h1,h2⟩
    ·split <;> omega
    ·rw [if_neg (y8 h1)]
     have : lf.length = 0:=by rw [h2];rfl
     omega
   have hb3 : its.length≤100000:=by omega
   refine aBD 1696 ?_
   refine RG.callvk 0 16 [16,0] [] rfl trivial (cB) (.mk (by (repeat' (first | exact tr_nil | refine tr_cons ?_ ?_ | exact tr_bp rfl))) (by (simp only [zT,simprocAttr];done)) (by simp) (by simp) (trivial) (by (simp [lkE_cons,lkE_nil];done)) (by (simp [Ent.pure];done)) (by simp) (by simp)) rfl rfl rfl ?_
   refine aMs (fun Q hQ=>by simp (disch:=intros;contradiction) only [zS,dropId,simprocAttr];exact hQ) ?_
   refine rO [0] [] (cL) ?_
   refine aEDs (fun Q hQ=>by simp (disch:=intros;contradiction) only [zS,zW,e2,simprocAttr];repeat refine ⟨by ((simp;omega)),?_⟩;exact hQ) ?_
   refine aS 1872 (fun Q hQ=>by simp (disch:=intros;contradiction) only [zS,hwk,simprocAttr];exact hQ) ?_
   refine ⟨⟨(j,its ++ [⟨(b : Int),bs⟩],lg,eg),by simp only;omega,⟨by simp;omega,(x2.snoc (x:=⟨(b : Int),bs⟩) y5 (by simp only;omega)).2⟩,y4,by simp only [List.length_append,List.length_singleton];exact hb2,x4⟩,?_,by first | omega | (simp only;omega)⟩
   refine Le.lit [] [(5001,1808)] _ _ ?_ ?_ ?_ ?_
   ·simp only [zL,simprocAttr]
   ·simp only [zL,simprocAttr]
    all_goals (try ((repeat' (first | (first | exact drows_hrow _ | exact drows_irow _) | refine ⟨?_,?_⟩))))
   ·simp [rlook]
   ·(intro k hk;simp [rlook];omega)
  try simp at hf
  simp only [zX,↓reduceIte]
  have x4 : (its,ld,ed) = W:=by rw [if_neg hf] at x4;exact x4
  rw [← x4] at u4
  simp only at u4
  refine aS 1952 (fun Q hQ=>by simp (disch:=intros;contradiction) only [zS,zW,simprocAttr];repeat refine ⟨by ((simp;omega)),?_⟩;exact hQ) ?_
  refine aS 2096 (fun Q hQ=>by simp (disch:=first | (intros;contradiction) | omega | (simp only [zN];omega)) only [zS,zW,simprocAttr];exact hQ) ?_
  refine ⟨⟨(i + 1,acc ++ [its],ld,ed),by simp only;omega,u2.snoc ⟨by omega,x2.2⟩,x3,by simp only;rw [show a3 - (i + 1) = d by omega];exact u4⟩,?_,by first | omega | (simp only;omega)⟩
  refine (Le.tell [5001] 2016 101 1 _ ((acc ++ [its]).map hrow) false rfl (by rw [List.map_append];refine tell_app ?_ _;exact ⟨⟨.inr (.inr ⟨_,_,_,_,rfl,rfl,rfl,drows_irow _⟩),trivial⟩,trivial⟩)).trans ?_
  refine Le.lit [] [(5000,2016)] _ _ ?_ ?_ ?_ ?_
  ·simp only [zL,simprocAttr]
   all_goals (try ((repeat' (rfl))))
  ·simp only [zL,simprocAttr]
   all_goals (try ((repeat' ((exact drows_hrow _)))))
  ·simp [rlook]
  ·(intro k hk;simp [rlook];omega)
 try simp at hf
 simp only [zX,↓reduceIte]
 have hi : i = a3:=by omega
 subst hi
 rw [Nat.sub_self] at u4
 have u4 : (acc,la,ea) = RH:=u4
 subst u4
 have hcin : Cin ⟨a1,a2,i,a4,a5,a6,acc⟩:=GH.cin (n:=100000) (k:=1000) (Nat.le_refl _) (Nat.le_refl _) ⟨by have:=u2.1;simp only;omega,u2.2⟩
 have cR:=chunk_Right_con ⟨a1,a2,i,a4,a5,a6,acc⟩ hcin
 unfold jc8 at hR
 simp only at hR
 refine aB 2160 ?_
 refine rO [0] [] (pack_rest_Err_con (la.map brow) ea) ?_
 refine aM ?_
 refine RG.callg _ _ [5000] rfl (fun hg=>⟨_,cR,tr_cons (tr_opt (by simpa using hg) (tr_agg (by (repeat' (first | exact trivial | rfl | (refine ⟨by simp,_,_,_,rfl,?_⟩;(exact drows_hrow _)) | refine ⟨?_,?_⟩))))) tr_nil,views1 rfl trivial,by exact .inl trivial⟩) ?_
 refine aEs (fun Q hQ=>by simp (disch:=intros;contradiction) only [zS,simprocAttr];repeat refine ⟨by ((simp;done)),?_⟩;exact hQ) ?_
 refine aw_cond _ rfl trivial (fun ht=>?_) (fun hf=>?_)
 ·skip
  try simp at ht
  simp only [zX]
  rw [if_pos (by
   rcases ht with ht | ht
   ·exact .inl (by omega)
   ·exact .inr (by simpa using ht))] at hR
  rw [hR]
  refine aR 2352 ?_
  refine Fin.objs [] [] (.inr rfl) rfl (by exact ⟨trivial,trivial⟩) ?_ ?_ (by simp [objL,rlook]) (by (simp [objL,rlook];done))
  ·simp only [zL,simprocAttr]
   all_goals ((repeat' (first | exact trivial | rfl | refine ⟨?_,?_⟩)))
  ·simp only [zL,↓reduceIte]
 try simp at hf
 simp only [zX]
 rw [if_neg (by
  intro h
  rcases h with h | h
  ·simp [h] at hf
  ·simp [h] at hf)] at hR
 rw [hR]
 refine aR 2432 ?_
 refine Fin.objs [5000] [] (.inr rfl) rfl (by exact ⟨trivial,trivial⟩) ?_ ?_ (by simp [objL,rlook]) (by (simp [objL,rlook];done))
 ·simp only [zL,simprocAttr]
  all_goals ((repeat' (first | exact trivial | rfl | (refine ⟨⟨_,_,rfl⟩,?_⟩;(exact drows_hrow _)) | refine ⟨?_,?_⟩)))
 ·simp only [zL,simprocAttr]

end Go.Abs

namespace Go.Abs
open Go Go.Proofs
set_option maxRecDepth 100000
set_option linter.unusedSimpArgs false
set_option maxHeartbeats 8000000

def kP : PU:=⟨0,0,2,1,0,3,0,[⟨2,[⟨1,[120]⟩]⟩]⟩
def kC : CH:=⟨0,0,2,1,3,0,[[],[⟨2,[120]⟩]]⟩
theorem num7_small {n : Nat} (h : n < 128) : num7 n = [n]:=by rw [num7,if_pos h]
theorem kP_apply : applyC (newC kP) kP = kC:=by decide
theorem kP_right : pushR kP = true:=by decide
theorem kC_right : rightC kC = true:=by decide
theorem kC_bytes : chB kC = [0,0,2,1,3,0,0,1,2,1,120]:=by
 simp [chB,kC,numsL,putS,hsB,itemsB,itsB,itB,u64N,num7_small]
theorem kC_take : takeC (chB kC) 0 = ((kC,true),[],0):=by rw [kC_bytes];decide

theorem awp_preL {P : Program} {n : Nat} {ops : List AO} {d : Bool} {Q : Exit→St→Prop} {l : SL} {es : EL} {st' : St} (h : Le n (mkSt l es) st') (h2 : awp P n (.region ops d) Q st') : awp P n (.region ops d) Q (mkSt l es):=by
 obtain ⟨s0,h3,h4⟩:=h2
 exact ⟨s0,h.trans h3,h4⟩

theorem kC_csm : Csm kC:=⟨by decide,by decide⟩
theorem kC_rise : ∀ h ∈ kC.hist,rise h:=by
 intro h hh
 simp [kC] at hh
 rcases hh with rfl | rfl
 ·trivial
 ·exact ⟨fun y hy=>(by cases hy),trivial⟩
theorem kC_by : byH kC.hist:=by
 intro h hh x hx c hc
 simp [kC] at hh
 rcases hh with rfl | rfl
 ·cases hx
 ·simp at hx;subst hx;simp at hc;omega
theorem kC_by8 : ∀ x ∈ chB kC,x < 256:=by rw [kC_bytes];decide
theorem kP_ok : Pok kP∧byW kP.ws:=by
 refine ⟨⟨by decide,fun w hw=>?_⟩,fun w hw x hx c hc=>?_⟩
 ·simp [kP] at hw;subst hw;exact ⟨by simp,fun x hx=>by simp at hx;subst hx;simp⟩
 ·simp [kP] at hw;subst hw;simp at hx;subst hx;simp at hc;omega
theorem kP_new : Cok (newC kP) 0:=⟨by decide,by decide,fun h hh=>by
 have : h = []:=List.eq_of_mem_replicate hh
 subst this
 exact ⟨rfl,by simp,fun x hx=>by cases hx⟩⟩

theorem pushC_pure (p : PU) : (SV.agg (pushC p)).pureD:=by
 intro c hc
 simp only [pushC,puC,List.mem_cons,List.not_mem_nil,or_false] at hc
 rcases hc with rfl | rfl | rfl | rfl | rfl | rfl | rfl | rfl <;> rfl
theorem pushT_pure (p : PU) (x : Value) : (SV.tup [.agg (pushC p),.c (.v x)]).pureD:=by
 intro s hs
 simp only [List.mem_cons,List.not_mem_nil,or_false] at hs
 rcases hs with rfl | rfl
 ·exact pushC_pure p
 ·rfl
theorem mementolaw14_known_con : Con Try.prog 9 [] [] (B true) []:=by
 have cN:=chunk_New_con kP
 have cA:=chunk_Apply_con (newC kP) kP 0 (by omega) kP_new kP_ok.1 kP_ok.2
 rw [kP_apply] at cA
 have cin:=kC_csm.cin
 have r1:=chunk_Read_con kC 1 2 cin kC_rise (by decide)
 have r2:=chunk_Read_con kC 1 1 cin kC_rise (by decide)
 have r3:=chunk_Read_con kC 1 4 cin kC_rise (by decide)
 have r4:=chunk_Read_con kC 2 1 cin kC_rise (by decide)
 rw [show rdC kC 1 2 = ([120],0) by decide] at r1
 rw [show rdC kC 1 1 = ([0],0) by decide] at r2
 rw [show rdC kC 1 4 = ([],32) by decide] at r3
 rw [show rdC kC 2 1 = ([],28) by decide] at r4
 have cPP:=chunk_PutPush_con kP kP_ok.1
 have hpp : putP kP = (pushB kP,0):=by unfold putP;rw [if_pos kP_right]
 rw [hpp] at cPP
 have hbl : (pushB kP).length≤1000000:=by simp [pushB,kP,numsL,putS,pwB,wB,itemsB,itsB,itB,u64N,num7_small]
 have cRP:=chunk_ReadPush_con (pushB kP) (pushB_by kP kP_ok.2) hbl
 rw [readP_yes kP_right rfl] at cRP
 have cPut:=chunk_Put_con kC kC_csm
 have hcl : (chB kC).length≤100000:=by rw [kC_bytes];decide
 have cTk:=chunk_Take_con (chB kC) 0 ⟨kC_by8,hcl⟩
 rw [kC_take] at cTk
 have cS:=chunk_Same_con kC kC kC_csm kC_csm kC_by kC_by
 have cR:=chunk_Right_con kC cin
 rw [kC_right] at cR
 have cPR:=chunk_PushRight_con kP kP_ok.1
 rw [kP_right] at cPR
 have f1 : kC.mark = 3:=rfl
 have f2 : kP.to = 3:=rfl
 generalize hkc : kC = c at *
 refine C_mementolaw14_known (Nat.le_of_ble_eq_true rfl) (Nat.le_of_ble_eq_true rfl) ?_
 simp only [cz,A_mementolaw14_known,argL,objL,List.length_nil,List.length_cons,Nat.reduceAdd,Nat.zero_add,zX,Nat.reduceEqDiff,↓reduceIte,reduceCtorEq]
 refine aw_reg 16 (RG.go fun Q hQ=>?_)
 simp (disch:=first | (intros;contradiction) | omega | (simp only [zN];omega)) only [zS,zW,Nat.reduceMod,Nat.reduceMul,reduceCtorEq,Nat.reduceAdd,Nat.reduceEqDiff,Nat.reduceLeDiff,Nat.reduceLT,Nat.reduceSub,Int.reduceNeg,Int.reduceAdd,Int.reduceToNat,↓reduceIte,Int.reduceBEq,Int.reduceBNe,Int.reduceLT,Int.reduceLE]
 repeat refine ⟨by (first | omega | exact isByteRow_brow _ | exact fun h=>⟨isByteRow_brow _,h⟩ | exact ⟨by (intro q hq;obtain ⟨_,_,rfl⟩:=List.mem_map.1 hq;rfl),by omega⟩ | exact ⟨by (intro q hq;obtain ⟨_,_,rfl⟩:=List.mem_map.1 hq;rfl),by simp;omega⟩ | exact fun h=>⟨⟨by (intro q hq;obtain ⟨_,_,rfl⟩:=List.mem_map.1 hq;rfl),by omega⟩,h⟩ | (simp;omega) | (simp;done) | exact ⟨by omega,by omega⟩ | exact ⟨by omega,by simp;omega⟩ | exact ⟨by simp;omega,by simp;omega⟩ | exact ⟨by simp,by simp;omega⟩ | (intro h;rw [h];rfl) | (intro h;refine ⟨fun h2=>?_,h⟩;rw [h,h2];rfl) | (intro h;refine ⟨?_,h⟩;simp [inR] at h;omega) | (intro h;simp [inR] at h;omega) | assumption | (refine ⟨?_,?_⟩ <;> (repeat' (first | omega | assumption | (intro q hq;obtain ⟨_,_,rfl⟩:=List.mem_map.1 hq;rfl) | (simp;done) | refine ⟨?_,?_⟩))) | (intro h;refine ⟨⟨?_,?_⟩,h⟩ <;> (repeat' (first | omega | (intro q hq;obtain ⟨_,_,rfl⟩:=List.mem_map.1 hq;rfl) | (simp;done) | refine ⟨?_,?_⟩)))),?_⟩
 refine hQ (RG.nil ?_)
 try simp only [zX,Nat.reduceEqDiff,↓reduceIte,reduceCtorEq]
 refine aw_reg 64 (RG.go fun Q hQ=>?_)
 simp (disch:=first | (intros;contradiction) | omega | (simp only [zN];omega)) only [zS,zW,Nat.reduceMod,Nat.reduceMul,reduceCtorEq,Nat.reduceAdd,Nat.reduceEqDiff,Nat.reduceLeDiff,Nat.reduceLT,Nat.reduceSub,Int.reduceNeg,Int.reduceAdd,Int.reduceToNat,↓reduceIte,Int.reduceBEq,Int.reduceBNe,Int.reduceLT,Int.reduceLE]
 refine ⟨⟨by simp,drows_brow [120]⟩,hQ (RG.nil ?_)⟩
 try simp only [zX,Nat.reduceEqDiff,↓reduceIte,reduceCtorEq]
 refine awp_preL (Le.tell [112] 144 30 2 _ (kP.ws.map wrow) false rfl ⟨⟨.inl rfl,.inr (.inr ⟨_,_,_,_,rfl,rfl,rfl,drows_irow [⟨1,[120]⟩]⟩),trivial⟩,trivial⟩) ?_
 refine awp_pre [(0,.c (.v (.bool false))),(1,.c (.bp 176 0))] [(176,.box [.v (.int .i64 kP.vol),.v (.int .i64 kP.chunk),.v (.int .i64 kP.count),.v (.int .i64 kP.size),.v (.int .i64 kP.frm),.v (.int .i64 kP.to),.v (.int .i64 kP.floor),.sl (kP.ws.map wrow)])] ?_ ?_
 ·skip
  refine Le.lit [144] [] _ _ ?_ ?_ ?_ ?_
  ·simp only [zL,Nat.reduceAdd,Nat.reduceEqDiff,↓reduceIte,reduceCtorEq]
   all_goals (exact ⟨rfl,rfl,rfl,rfl,rfl,rfl,rfl,⟨_,_,rfl⟩,drows_wrow _⟩;(repeat' (first | exact trivial | rfl | exact rfl | (refine ⟨⟨_,_,rfl⟩,?_⟩;(first | exact drows_hrow _ | exact drows_brow _ | exact drows_nrow _ | exact drows_irow _ | exact drows_wrow _ | assumption | (simp [isDRows,brow,C.isD];done) | (rw [← List.map_append];first | exact drows_brow _ | exact drows_nrow _ | exact drows_irow _ | exact drows_wrow _))) | (congr 1;omega) | (simp;done) | refine ⟨?_,?_⟩)))
  ·simp only [zL,Nat.reduceAdd,Nat.reduceEqDiff,↓reduceIte,reduceCtorEq]
   all_goals (try ((repeat' (first | (first | exact drows_hrow _ | exact drows_brow _ | exact drows_nrow _ | exact drows_irow _ | exact drows_wrow _ | assumption | (simp [isDRows,brow,C.isD];done) | (rw [← List.map_append];first | exact drows_brow _ | exact drows_nrow _ | exact drows_irow _ | exact drows_wrow _)) | rfl | refine ⟨?_,?_⟩ | (left;(first | exact drows_hrow _ | exact drows_brow _ | exact drows_nrow _ | exact drows_irow _ | exact drows_wrow _ | assumption | (simp [isDRows,brow,C.isD];done) | (rw [← List.map_append];first | exact drows_brow _ | exact drows_nrow _ | exact drows_irow _ | exact drows_wrow _)))))))
  ·simp [rlook]
  ·first | (simp;done) | (intro k hk;simp [rlook];omega)
 refine aw_draw 240 (RG.go fun Q hQ=>?_)
 simp (disch:=first | (intros;contradiction) | omega | (simp only [zN];omega)) only [zS,zW,Nat.reduceMod,Nat.reduceMul,reduceCtorEq,Nat.reduceAdd,Nat.reduceEqDiff,Nat.reduceLeDiff,Nat.reduceLT,Nat.reduceSub,Int.reduceNeg,Int.reduceAdd,Int.reduceToNat,↓reduceIte,Int.reduceBEq,Int.reduceBNe,Int.reduceLT,Int.reduceLE,chC,chO,pushC,puC]
 repeat refine ⟨by (first | omega | exact isByteRow_brow _ | exact fun h=>⟨isByteRow_brow _,h⟩ | exact ⟨by (intro q hq;obtain ⟨_,_,rfl⟩:=List.mem_map.1 hq;rfl),by omega⟩ | exact ⟨by (intro q hq;obtain ⟨_,_,rfl⟩:=List.mem_map.1 hq;rfl),by simp;omega⟩ | exact fun h=>⟨⟨by (intro q hq;obtain ⟨_,_,rfl⟩:=List.mem_map.1 hq;rfl),by omega⟩,h⟩ | (simp;omega) | (simp;done) | exact ⟨by omega,by omega⟩ | exact ⟨by omega,by simp;omega⟩ | exact ⟨by simp;omega,by simp;omega⟩ | exact ⟨by simp,by simp;omega⟩ | (intro h;rw [h];rfl) | (intro h;refine ⟨fun h2=>?_,h⟩;rw [h,h2];rfl) | (intro h;refine ⟨?_,h⟩;simp [inR] at h;omega) | (intro h;simp [inR] at h;omega) | assumption | (refine ⟨?_,?_⟩ <;> (repeat' (first | omega | assumption | (intro q hq;obtain ⟨_,_,rfl⟩:=List.mem_map.1 hq;rfl) | (simp;done) | refine ⟨?_,?_⟩))) | (intro h;refine ⟨⟨?_,?_⟩,h⟩ <;> (repeat' (first | omega | (intro q hq;obtain ⟨_,_,rfl⟩:=List.mem_map.1 hq;rfl) | (simp;done) | refine ⟨?_,?_⟩)))),?_⟩
 refine hQ ?_
 refine RG.call [] (cN) (by (repeat' (first | exact tr_nil | refine tr_cons ?_ ?_ | exact tr_v | exact tr_sl | exact tr_nils | exact tr_agg (by repeat' (first | exact trivial | rfl | exact rfl | refine ⟨?_,?_⟩)) | exact tr_opt (by simpa using hg) tr_v | exact tr_opt (by simpa using hg) tr_sl | exact tr_opt (by simpa using hg) (tr_agg (by repeat' (first | exact trivial | rfl | exact rfl | refine ⟨?_,?_⟩)))))) trivial (by exact .inr ⟨chC_pure _,trivial⟩) ?_
 refine RG.go fun Q hQ=>?_
 simp (disch:=first | (intros;contradiction) | omega | (simp only [zN];omega)) only [zS,zW,Nat.reduceMod,Nat.reduceMul,reduceCtorEq,Nat.reduceAdd,Nat.reduceEqDiff,Nat.reduceLeDiff,Nat.reduceLT,Nat.reduceSub,Int.reduceNeg,Int.reduceAdd,Int.reduceToNat,↓reduceIte,Int.reduceBEq,Int.reduceBNe,Int.reduceLT,Int.reduceLE,chC,chO,pushC,puC]
 repeat refine ⟨by (first | omega | exact isByteRow_brow _ | exact fun h=>⟨isByteRow_brow _,h⟩ | exact ⟨by (intro q hq;obtain ⟨_,_,rfl⟩:=List.mem_map.1 hq;rfl),by omega⟩ | exact ⟨by (intro q hq;obtain ⟨_,_,rfl⟩:=List.mem_map.1 hq;rfl),by simp;omega⟩ | exact fun h=>⟨⟨by (intro q hq;obtain ⟨_,_,rfl⟩:=List.mem_map.1 hq;rfl),by omega⟩,h⟩ | (simp;omega) | (simp;done) | exact ⟨by omega,by omega⟩ | exact ⟨by omega,by simp;omega⟩ | exact ⟨by simp;omega,by simp;omega⟩ | exact ⟨by simp,by simp;omega⟩ | (intro h;rw [h];rfl) | (intro h;refine ⟨fun h2=>?_,h⟩;rw [h,h2];rfl) | (intro h;refine ⟨?_,h⟩;simp [inR] at h;omega) | (intro h;simp [inR] at h;omega) | assumption | (refine ⟨?_,?_⟩ <;> (repeat' (first | omega | assumption | (intro q hq;obtain ⟨_,_,rfl⟩:=List.mem_map.1 hq;rfl) | (simp;done) | refine ⟨?_,?_⟩))) | (intro h;refine ⟨⟨?_,?_⟩,h⟩ <;> (repeat' (first | omega | (intro q hq;obtain ⟨_,_,rfl⟩:=List.mem_map.1 hq;rfl) | (simp;done) | refine ⟨?_,?_⟩)))),?_⟩
 refine hQ ?_
 refine RG.call [] (cA) (by (repeat' (first | exact tr_nil | refine tr_cons ?_ ?_ | exact tr_v | exact tr_sl | exact tr_nils | exact tr_agg (by repeat' (first | exact trivial | rfl | exact rfl | refine ⟨?_,?_⟩)) | exact tr_opt (by simpa using hg) tr_v | exact tr_opt (by simpa using hg) tr_sl | exact tr_opt (by simpa using hg) (tr_agg (by repeat' (first | exact trivial | rfl | exact rfl | refine ⟨?_,?_⟩)))))) trivial (by exact .inr ⟨chC_pure _,trivial⟩) ?_
 refine RG.go fun Q hQ=>?_
 simp (disch:=first | (intros;contradiction) | omega | (simp only [zN];omega)) only [zS,zW,Nat.reduceMod,Nat.reduceMul,reduceCtorEq,Nat.reduceAdd,Nat.reduceEqDiff,Nat.reduceLeDiff,Nat.reduceLT,Nat.reduceSub,Int.reduceNeg,Int.reduceAdd,Int.reduceToNat,↓reduceIte,Int.reduceBEq,Int.reduceBNe,Int.reduceLT,Int.reduceLE,chC,chO,pushC,puC]
 repeat refine ⟨by (first | omega | exact isByteRow_brow _ | exact fun h=>⟨isByteRow_brow _,h⟩ | exact ⟨by (intro q hq;obtain ⟨_,_,rfl⟩:=List.mem_map.1 hq;rfl),by omega⟩ | exact ⟨by (intro q hq;obtain ⟨_,_,rfl⟩:=List.mem_map.1 hq;rfl),by simp;omega⟩ | exact fun h=>⟨⟨by (intro q hq;obtain ⟨_,_,rfl⟩:=List.mem_map.1 hq;rfl),by omega⟩,h⟩ | (simp;omega) | (simp;done) | exact ⟨by omega,by omega⟩ | exact ⟨by omega,by simp;omega⟩ | exact ⟨by simp;omega,by simp;omega⟩ | exact ⟨by simp,by simp;omega⟩ | (intro h;rw [h];rfl) | (intro h;refine ⟨fun h2=>?_,h⟩;rw [h,h2];rfl) | (intro h;refine ⟨?_,h⟩;simp [inR] at h;omega) | (intro h;simp [inR] at h;omega) | assumption | (refine ⟨?_,?_⟩ <;> (repeat' (first | omega | assumption | (intro q hq;obtain ⟨_,_,rfl⟩:=List.mem_map.1 hq;rfl) | (simp;done) | refine ⟨?_,?_⟩))) | (intro h;refine ⟨⟨?_,?_⟩,h⟩ <;> (repeat' (first | omega | (intro q hq;obtain ⟨_,_,rfl⟩:=List.mem_map.1 hq;rfl) | (simp;done) | refine ⟨?_,?_⟩)))),?_⟩
 refine hQ (RG.nil ⟨by decide +kernel,?_⟩)
 try simp only [zX,Nat.reduceEqDiff,↓reduceIte,reduceCtorEq]
 refine aw_reg 368 (RG.go fun Q hQ=>?_)
 simp (disch:=first | (intros;contradiction) | omega | (simp only [zN];omega)) only [zS,zW,Nat.reduceMod,Nat.reduceMul,reduceCtorEq,Nat.reduceAdd,Nat.reduceEqDiff,Nat.reduceLeDiff,Nat.reduceLT,Nat.reduceSub,Int.reduceNeg,Int.reduceAdd,Int.reduceToNat,↓reduceIte,Int.reduceBEq,Int.reduceBNe,Int.reduceLT,Int.reduceLE,chC,chO,pushC,puC]
 repeat refine ⟨by (first | omega | exact isByteRow_brow _ | exact fun h=>⟨isByteRow_brow _,h⟩ | exact ⟨by (intro q hq;obtain ⟨_,_,rfl⟩:=List.mem_map.1 hq;rfl),by omega⟩ | exact ⟨by (intro q hq;obtain ⟨_,_,rfl⟩:=List.mem_map.1 hq;rfl),by simp;omega⟩ | exact fun h=>⟨⟨by (intro q hq;obtain ⟨_,_,rfl⟩:=List.mem_map.1 hq;rfl),by omega⟩,h⟩ | (simp;omega) | (simp;done) | exact ⟨by omega,by omega⟩ | exact ⟨by omega,by simp;omega⟩ | exact ⟨by simp;omega,by simp;omega⟩ | exact ⟨by simp,by simp;omega⟩ | (intro h;rw [h];rfl) | (intro h;refine ⟨fun h2=>?_,h⟩;rw [h,h2];rfl) | (intro h;refine ⟨?_,h⟩;simp [inR] at h;omega) | (intro h;simp [inR] at h;omega) | assumption | (refine ⟨?_,?_⟩ <;> (repeat' (first | omega | assumption | (intro q hq;obtain ⟨_,_,rfl⟩:=List.mem_map.1 hq;rfl) | (simp;done) | refine ⟨?_,?_⟩))) | (intro h;refine ⟨⟨?_,?_⟩,h⟩ <;> (repeat' (first | omega | (intro q hq;obtain ⟨_,_,rfl⟩:=List.mem_map.1 hq;rfl) | (simp;done) | refine ⟨?_,?_⟩)))),?_⟩
 refine hQ ?_
 refine RG.call [] (r1) (by (repeat' (first | exact tr_nil | refine tr_cons ?_ ?_ | exact tr_v | exact tr_sl | exact tr_nils | exact tr_agg (by repeat' (first | exact trivial | rfl | exact rfl | refine ⟨?_,?_⟩)) | exact tr_opt (by simpa using hg) tr_v | exact tr_opt (by simpa using hg) tr_sl | exact tr_opt (by simpa using hg) (tr_agg (by repeat' (first | exact trivial | rfl | exact rfl | refine ⟨?_,?_⟩)))))) trivial (by exact .inr ⟨pureTC,trivial⟩) ?_
 refine RG.go fun Q hQ=>?_
 simp (disch:=first | (intros;contradiction) | omega | (simp only [zN];omega)) only [zS,zW,Nat.reduceMod,Nat.reduceMul,reduceCtorEq,Nat.reduceAdd,Nat.reduceEqDiff,Nat.reduceLeDiff,Nat.reduceLT,Nat.reduceSub,Int.reduceNeg,Int.reduceAdd,Int.reduceToNat,↓reduceIte,Int.reduceBEq,Int.reduceBNe,Int.reduceLT,Int.reduceLE,chC,chO,pushC,puC]
 repeat refine ⟨by (first | omega | exact isByteRow_brow _ | exact fun h=>⟨isByteRow_brow _,h⟩ | exact ⟨by (intro q hq;obtain ⟨_,_,rfl⟩:=List.mem_map.1 hq;rfl),by omega⟩ | exact ⟨by (intro q hq;obtain ⟨_,_,rfl⟩:=List.mem_map.1 hq;rfl),by simp;omega⟩ | exact fun h=>⟨⟨by (intro q hq;obtain ⟨_,_,rfl⟩:=List.mem_map.1 hq;rfl),by omega⟩,h⟩ | (simp;omega) | (simp;done) | exact ⟨by omega,by omega⟩ | exact ⟨by omega,by simp;omega⟩ | exact ⟨by simp;omega,by simp;omega⟩ | exact ⟨by simp,by simp;omega⟩ | (intro h;rw [h];rfl) | (intro h;refine ⟨fun h2=>?_,h⟩;rw [h,h2];rfl) | (intro h;refine ⟨?_,h⟩;simp [inR] at h;omega) | (intro h;simp [inR] at h;omega) | assumption | (refine ⟨?_,?_⟩ <;> (repeat' (first | omega | assumption | (intro q hq;obtain ⟨_,_,rfl⟩:=List.mem_map.1 hq;rfl) | (simp;done) | refine ⟨?_,?_⟩))) | (intro h;refine ⟨⟨?_,?_⟩,h⟩ <;> (repeat' (first | omega | (intro q hq;obtain ⟨_,_,rfl⟩:=List.mem_map.1 hq;rfl) | (simp;done) | refine ⟨?_,?_⟩)))),?_⟩
 refine hQ (RG.nil ?_)
 try simp only [zX,Nat.reduceEqDiff,↓reduceIte,reduceCtorEq]
 refine aw_reg 512 (RG.go fun Q hQ=>?_)
 simp (disch:=first | (intros;contradiction) | omega | (simp only [zN];omega)) only [zS,zW,Nat.reduceMod,Nat.reduceMul,reduceCtorEq,Nat.reduceAdd,Nat.reduceEqDiff,Nat.reduceLeDiff,Nat.reduceLT,Nat.reduceSub,Int.reduceNeg,Int.reduceAdd,Int.reduceToNat,↓reduceIte,Int.reduceBEq,Int.reduceBNe,Int.reduceLT,Int.reduceLE,chC,chO,pushC,puC]
 repeat refine ⟨by (first | omega | exact isByteRow_brow _ | exact fun h=>⟨isByteRow_brow _,h⟩ | exact ⟨by (intro q hq;obtain ⟨_,_,rfl⟩:=List.mem_map.1 hq;rfl),by omega⟩ | exact ⟨by (intro q hq;obtain ⟨_,_,rfl⟩:=List.mem_map.1 hq;rfl),by simp;omega⟩ | exact fun h=>⟨⟨by (intro q hq;obtain ⟨_,_,rfl⟩:=List.mem_map.1 hq;rfl),by omega⟩,h⟩ | (simp;omega) | (simp;done) | exact ⟨by omega,by omega⟩ | exact ⟨by omega,by simp;omega⟩ | exact ⟨by simp;omega,by simp;omega⟩ | exact ⟨by simp,by simp;omega⟩ | (intro h;rw [h];rfl) | (intro h;refine ⟨fun h2=>?_,h⟩;rw [h,h2];rfl) | (intro h;refine ⟨?_,h⟩;simp [inR] at h;omega) | (intro h;simp [inR] at h;omega) | assumption | (refine ⟨?_,?_⟩ <;> (repeat' (first | omega | assumption | (intro q hq;obtain ⟨_,_,rfl⟩:=List.mem_map.1 hq;rfl) | (simp;done) | refine ⟨?_,?_⟩))) | (intro h;refine ⟨⟨?_,?_⟩,h⟩ <;> (repeat' (first | omega | (intro q hq;obtain ⟨_,_,rfl⟩:=List.mem_map.1 hq;rfl) | (simp;done) | refine ⟨?_,?_⟩)))),?_⟩
 refine hQ ?_
 refine RG.call [] (r2) (by (repeat' (first | exact tr_nil | refine tr_cons ?_ ?_ | exact tr_v | exact tr_sl | exact tr_nils | exact tr_agg (by repeat' (first | exact trivial | rfl | exact rfl | refine ⟨?_,?_⟩)) | exact tr_opt (by simpa using hg) tr_v | exact tr_opt (by simpa using hg) tr_sl | exact tr_opt (by simpa using hg) (tr_agg (by repeat' (first | exact trivial | rfl | exact rfl | refine ⟨?_,?_⟩)))))) trivial (by exact .inr ⟨pureTC,trivial⟩) ?_
 refine RG.go fun Q hQ=>?_
 simp (disch:=first | (intros;contradiction) | omega | (simp only [zN];omega)) only [zS,zW,Nat.reduceMod,Nat.reduceMul,reduceCtorEq,Nat.reduceAdd,Nat.reduceEqDiff,Nat.reduceLeDiff,Nat.reduceLT,Nat.reduceSub,Int.reduceNeg,Int.reduceAdd,Int.reduceToNat,↓reduceIte,Int.reduceBEq,Int.reduceBNe,Int.reduceLT,Int.reduceLE,chC,chO,pushC,puC]
 repeat refine ⟨by (first | omega | exact isByteRow_brow _ | exact fun h=>⟨isByteRow_brow _,h⟩ | exact ⟨by (intro q hq;obtain ⟨_,_,rfl⟩:=List.mem_map.1 hq;rfl),by omega⟩ | exact ⟨by (intro q hq;obtain ⟨_,_,rfl⟩:=List.mem_map.1 hq;rfl),by simp;omega⟩ | exact fun h=>⟨⟨by (intro q hq;obtain ⟨_,_,rfl⟩:=List.mem_map.1 hq;rfl),by omega⟩,h⟩ | (simp;omega) | (simp;done) | exact ⟨by omega,by omega⟩ | exact ⟨by omega,by simp;omega⟩ | exact ⟨by simp;omega,by simp;omega⟩ | exact ⟨by simp,by simp;omega⟩ | (intro h;rw [h];rfl) | (intro h;refine ⟨fun h2=>?_,h⟩;rw [h,h2];rfl) | (intro h;refine ⟨?_,h⟩;simp [inR] at h;omega) | (intro h;simp [inR] at h;omega) | assumption | (refine ⟨?_,?_⟩ <;> (repeat' (first | omega | assumption | (intro q hq;obtain ⟨_,_,rfl⟩:=List.mem_map.1 hq;rfl) | (simp;done) | refine ⟨?_,?_⟩))) | (intro h;refine ⟨⟨?_,?_⟩,h⟩ <;> (repeat' (first | omega | (intro q hq;obtain ⟨_,_,rfl⟩:=List.mem_map.1 hq;rfl) | (simp;done) | refine ⟨?_,?_⟩)))),?_⟩
 refine hQ (RG.nil ?_)
 try simp only [zX,Nat.reduceEqDiff,↓reduceIte,reduceCtorEq]
 refine aw_reg 656 (RG.go fun Q hQ=>?_)
 simp (disch:=first | (intros;contradiction) | omega | (simp only [zN];omega)) only [zS,zW,Nat.reduceMod,Nat.reduceMul,reduceCtorEq,Nat.reduceAdd,Nat.reduceEqDiff,Nat.reduceLeDiff,Nat.reduceLT,Nat.reduceSub,Int.reduceNeg,Int.reduceAdd,Int.reduceToNat,↓reduceIte,Int.reduceBEq,Int.reduceBNe,Int.reduceLT,Int.reduceLE,chC,chO,pushC,puC]
 repeat refine ⟨by (first | omega | exact isByteRow_brow _ | exact fun h=>⟨isByteRow_brow _,h⟩ | exact ⟨by (intro q hq;obtain ⟨_,_,rfl⟩:=List.mem_map.1 hq;rfl),by omega⟩ | exact ⟨by (intro q hq;obtain ⟨_,_,rfl⟩:=List.mem_map.1 hq;rfl),by simp;omega⟩ | exact fun h=>⟨⟨by (intro q hq;obtain ⟨_,_,rfl⟩:=List.mem_map.1 hq;rfl),by omega⟩,h⟩ | (simp;omega) | (simp;done) | exact ⟨by omega,by omega⟩ | exact ⟨by omega,by simp;omega⟩ | exact ⟨by simp;omega,by simp;omega⟩ | exact ⟨by simp,by simp;omega⟩ | (intro h;rw [h];rfl) | (intro h;refine ⟨fun h2=>?_,h⟩;rw [h,h2];rfl) | (intro h;refine ⟨?_,h⟩;simp [inR] at h;omega) | (intro h;simp [inR] at h;omega) | assumption | (refine ⟨?_,?_⟩ <;> (repeat' (first | omega | assumption | (intro q hq;obtain ⟨_,_,rfl⟩:=List.mem_map.1 hq;rfl) | (simp;done) | refine ⟨?_,?_⟩))) | (intro h;refine ⟨⟨?_,?_⟩,h⟩ <;> (repeat' (first | omega | (intro q hq;obtain ⟨_,_,rfl⟩:=List.mem_map.1 hq;rfl) | (simp;done) | refine ⟨?_,?_⟩)))),?_⟩
 refine hQ ?_
 refine RG.call [] (r3) (by (repeat' (first | exact tr_nil | refine tr_cons ?_ ?_ | exact tr_v | exact tr_sl | exact tr_nils | exact tr_agg (by repeat' (first | exact trivial | rfl | exact rfl | refine ⟨?_,?_⟩)) | exact tr_opt (by simpa using hg) tr_v | exact tr_opt (by simpa using hg) tr_sl | exact tr_opt (by simpa using hg) (tr_agg (by repeat' (first | exact trivial | rfl | exact rfl | refine ⟨?_,?_⟩)))))) trivial (by exact .inr ⟨pureTC,trivial⟩) ?_
 refine RG.go fun Q hQ=>?_
 simp (disch:=first | (intros;contradiction) | omega | (simp only [zN];omega)) only [zS,zW,Nat.reduceMod,Nat.reduceMul,reduceCtorEq,Nat.reduceAdd,Nat.reduceEqDiff,Nat.reduceLeDiff,Nat.reduceLT,Nat.reduceSub,Int.reduceNeg,Int.reduceAdd,Int.reduceToNat,↓reduceIte,Int.reduceBEq,Int.reduceBNe,Int.reduceLT,Int.reduceLE,chC,chO,pushC,puC]
 repeat refine ⟨by (first | omega | exact isByteRow_brow _ | exact fun h=>⟨isByteRow_brow _,h⟩ | exact ⟨by (intro q hq;obtain ⟨_,_,rfl⟩:=List.mem_map.1 hq;rfl),by omega⟩ | exact ⟨by (intro q hq;obtain ⟨_,_,rfl⟩:=List.mem_map.1 hq;rfl),by simp;omega⟩ | exact fun h=>⟨⟨by (intro q hq;obtain ⟨_,_,rfl⟩:=List.mem_map.1 hq;rfl),by omega⟩,h⟩ | (simp;omega) | (simp;done) | exact ⟨by omega,by omega⟩ | exact ⟨by omega,by simp;omega⟩ | exact ⟨by simp;omega,by simp;omega⟩ | exact ⟨by simp,by simp;omega⟩ | (intro h;rw [h];rfl) | (intro h;refine ⟨fun h2=>?_,h⟩;rw [h,h2];rfl) | (intro h;refine ⟨?_,h⟩;simp [inR] at h;omega) | (intro h;simp [inR] at h;omega) | assumption | (refine ⟨?_,?_⟩ <;> (repeat' (first | omega | assumption | (intro q hq;obtain ⟨_,_,rfl⟩:=List.mem_map.1 hq;rfl) | (simp;done) | refine ⟨?_,?_⟩))) | (intro h;refine ⟨⟨?_,?_⟩,h⟩ <;> (repeat' (first | omega | (intro q hq;obtain ⟨_,_,rfl⟩:=List.mem_map.1 hq;rfl) | (simp;done) | refine ⟨?_,?_⟩)))),?_⟩
 refine hQ (RG.nil ?_)
 try simp only [zX,Nat.reduceEqDiff,↓reduceIte,reduceCtorEq]
 refine aw_reg 800 (RG.go fun Q hQ=>?_)
 simp (disch:=first | (intros;contradiction) | omega | (simp only [zN];omega)) only [zS,zW,Nat.reduceMod,Nat.reduceMul,reduceCtorEq,Nat.reduceAdd,Nat.reduceEqDiff,Nat.reduceLeDiff,Nat.reduceLT,Nat.reduceSub,Int.reduceNeg,Int.reduceAdd,Int.reduceToNat,↓reduceIte,Int.reduceBEq,Int.reduceBNe,Int.reduceLT,Int.reduceLE,chC,chO,pushC,puC]
 repeat refine ⟨by (first | omega | exact isByteRow_brow _ | exact fun h=>⟨isByteRow_brow _,h⟩ | exact ⟨by (intro q hq;obtain ⟨_,_,rfl⟩:=List.mem_map.1 hq;rfl),by omega⟩ | exact ⟨by (intro q hq;obtain ⟨_,_,rfl⟩:=List.mem_map.1 hq;rfl),by simp;omega⟩ | exact fun h=>⟨⟨by (intro q hq;obtain ⟨_,_,rfl⟩:=List.mem_map.1 hq;rfl),by omega⟩,h⟩ | (simp;omega) | (simp;done) | exact ⟨by omega,by omega⟩ | exact ⟨by omega,by simp;omega⟩ | exact ⟨by simp;omega,by simp;omega⟩ | exact ⟨by simp,by simp;omega⟩ | (intro h;rw [h];rfl) | (intro h;refine ⟨fun h2=>?_,h⟩;rw [h,h2];rfl) | (intro h;refine ⟨?_,h⟩;simp [inR] at h;omega) | (intro h;simp [inR] at h;omega) | assumption | (refine ⟨?_,?_⟩ <;> (repeat' (first | omega | assumption | (intro q hq;obtain ⟨_,_,rfl⟩:=List.mem_map.1 hq;rfl) | (simp;done) | refine ⟨?_,?_⟩))) | (intro h;refine ⟨⟨?_,?_⟩,h⟩ <;> (repeat' (first | omega | (intro q hq;obtain ⟨_,_,rfl⟩:=List.mem_map.1 hq;rfl) | (simp;done) | refine ⟨?_,?_⟩)))),?_⟩
 refine hQ ?_
 refine RG.call [] (r4) (by (repeat' (first | exact tr_nil | refine tr_cons ?_ ?_ | exact tr_v | exact tr_sl | exact tr_nils | exact tr_agg (by repeat' (first | exact trivial | rfl | exact rfl | refine ⟨?_,?_⟩)) | exact tr_opt (by simpa using hg) tr_v | exact tr_opt (by simpa using hg) tr_sl | exact tr_opt (by simpa using hg) (tr_agg (by repeat' (first | exact trivial | rfl | exact rfl | refine ⟨?_,?_⟩)))))) trivial (by exact .inr ⟨pureTC,trivial⟩) ?_
 refine RG.go fun Q hQ=>?_
 simp (disch:=first | (intros;contradiction) | omega | (simp only [zN];omega)) only [zS,zW,Nat.reduceMod,Nat.reduceMul,reduceCtorEq,Nat.reduceAdd,Nat.reduceEqDiff,Nat.reduceLeDiff,Nat.reduceLT,Nat.reduceSub,Int.reduceNeg,Int.reduceAdd,Int.reduceToNat,↓reduceIte,Int.reduceBEq,Int.reduceBNe,Int.reduceLT,Int.reduceLE,chC,chO,pushC,puC]
 repeat refine ⟨by (first | omega | exact isByteRow_brow _ | exact fun h=>⟨isByteRow_brow _,h⟩ | exact ⟨by (intro q hq;obtain ⟨_,_,rfl⟩:=List.mem_map.1 hq;rfl),by omega⟩ | exact ⟨by (intro q hq;obtain ⟨_,_,rfl⟩:=List.mem_map.1 hq;rfl),by simp;omega⟩ | exact fun h=>⟨⟨by (intro q hq;obtain ⟨_,_,rfl⟩:=List.mem_map.1 hq;rfl),by omega⟩,h⟩ | (simp;omega) | (simp;done) | exact ⟨by omega,by omega⟩ | exact ⟨by omega,by simp;omega⟩ | exact ⟨by simp;omega,by simp;omega⟩ | exact ⟨by simp,by simp;omega⟩ | (intro h;rw [h];rfl) | (intro h;refine ⟨fun h2=>?_,h⟩;rw [h,h2];rfl) | (intro h;refine ⟨?_,h⟩;simp [inR] at h;omega) | (intro h;simp [inR] at h;omega) | assumption | (refine ⟨?_,?_⟩ <;> (repeat' (first | omega | assumption | (intro q hq;obtain ⟨_,_,rfl⟩:=List.mem_map.1 hq;rfl) | (simp;done) | refine ⟨?_,?_⟩))) | (intro h;refine ⟨⟨?_,?_⟩,h⟩ <;> (repeat' (first | omega | (intro q hq;obtain ⟨_,_,rfl⟩:=List.mem_map.1 hq;rfl) | (simp;done) | refine ⟨?_,?_⟩)))),?_⟩
 refine hQ (RG.nil ?_)
 try simp only [zX,Nat.reduceEqDiff,↓reduceIte,reduceCtorEq]
 refine aw_reg 944 (RG.go fun Q hQ=>?_)
 simp (disch:=first | (intros;contradiction) | omega | (simp only [zN];omega)) only [zS,zW,Nat.reduceMod,Nat.reduceMul,reduceCtorEq,Nat.reduceAdd,Nat.reduceEqDiff,Nat.reduceLeDiff,Nat.reduceLT,Nat.reduceSub,Int.reduceNeg,Int.reduceAdd,Int.reduceToNat,↓reduceIte,Int.reduceBEq,Int.reduceBNe,Int.reduceLT,Int.reduceLE,chC,chO,pushC,puC]
 repeat refine ⟨by (first | omega | exact isByteRow_brow _ | exact fun h=>⟨isByteRow_brow _,h⟩ | exact ⟨by (intro q hq;obtain ⟨_,_,rfl⟩:=List.mem_map.1 hq;rfl),by omega⟩ | exact ⟨by (intro q hq;obtain ⟨_,_,rfl⟩:=List.mem_map.1 hq;rfl),by simp;omega⟩ | exact fun h=>⟨⟨by (intro q hq;obtain ⟨_,_,rfl⟩:=List.mem_map.1 hq;rfl),by omega⟩,h⟩ | (simp;omega) | (simp;done) | exact ⟨by omega,by omega⟩ | exact ⟨by omega,by simp;omega⟩ | exact ⟨by simp;omega,by simp;omega⟩ | exact ⟨by simp,by simp;omega⟩ | (intro h;rw [h];rfl) | (intro h;refine ⟨fun h2=>?_,h⟩;rw [h,h2];rfl) | (intro h;refine ⟨?_,h⟩;simp [inR] at h;omega) | (intro h;simp [inR] at h;omega) | assumption | (refine ⟨?_,?_⟩ <;> (repeat' (first | omega | assumption | (intro q hq;obtain ⟨_,_,rfl⟩:=List.mem_map.1 hq;rfl) | (simp;done) | refine ⟨?_,?_⟩))) | (intro h;refine ⟨⟨?_,?_⟩,h⟩ <;> (repeat' (first | omega | (intro q hq;obtain ⟨_,_,rfl⟩:=List.mem_map.1 hq;rfl) | (simp;done) | refine ⟨?_,?_⟩)))),?_⟩
 refine hQ ?_
 refine RG.call [] (cPP) (by (repeat' (first | exact tr_nil | refine tr_cons ?_ ?_ | exact tr_v | exact tr_sl | exact tr_nils | exact tr_agg (by repeat' (first | exact trivial | rfl | exact rfl | refine ⟨?_,?_⟩)) | exact tr_opt (by simpa using hg) tr_v | exact tr_opt (by simpa using hg) tr_sl | exact tr_opt (by simpa using hg) (tr_agg (by repeat' (first | exact trivial | rfl | exact rfl | refine ⟨?_,?_⟩)))))) trivial (by exact .inr ⟨pureTC,trivial⟩) ?_
 refine RG.go fun Q hQ=>?_
 simp (disch:=first | (intros;contradiction) | omega | (simp only [zN];omega)) only [zS,zW,Nat.reduceMod,Nat.reduceMul,reduceCtorEq,Nat.reduceAdd,Nat.reduceEqDiff,Nat.reduceLeDiff,Nat.reduceLT,Nat.reduceSub,Int.reduceNeg,Int.reduceAdd,Int.reduceToNat,↓reduceIte,Int.reduceBEq,Int.reduceBNe,Int.reduceLT,Int.reduceLE,chC,chO,pushC,puC]
 repeat refine ⟨by (first | omega | exact isByteRow_brow _ | exact fun h=>⟨isByteRow_brow _,h⟩ | exact ⟨by (intro q hq;obtain ⟨_,_,rfl⟩:=List.mem_map.1 hq;rfl),by omega⟩ | exact ⟨by (intro q hq;obtain ⟨_,_,rfl⟩:=List.mem_map.1 hq;rfl),by simp;omega⟩ | exact fun h=>⟨⟨by (intro q hq;obtain ⟨_,_,rfl⟩:=List.mem_map.1 hq;rfl),by omega⟩,h⟩ | (simp;omega) | (simp;done) | exact ⟨by omega,by omega⟩ | exact ⟨by omega,by simp;omega⟩ | exact ⟨by simp;omega,by simp;omega⟩ | exact ⟨by simp,by simp;omega⟩ | (intro h;rw [h];rfl) | (intro h;refine ⟨fun h2=>?_,h⟩;rw [h,h2];rfl) | (intro h;refine ⟨?_,h⟩;simp [inR] at h;omega) | (intro h;simp [inR] at h;omega) | assumption | (refine ⟨?_,?_⟩ <;> (repeat' (first | omega | assumption | (intro q hq;obtain ⟨_,_,rfl⟩:=List.mem_map.1 hq;rfl) | (simp;done) | refine ⟨?_,?_⟩))) | (intro h;refine ⟨⟨?_,?_⟩,h⟩ <;> (repeat' (first | omega | (intro q hq;obtain ⟨_,_,rfl⟩:=List.mem_map.1 hq;rfl) | (simp;done) | refine ⟨?_,?_⟩)))),?_⟩
 refine hQ (RG.nil ?_)
 try simp only [zX,Nat.reduceEqDiff,↓reduceIte,reduceCtorEq]
 refine aw_reg 1088 (RG.go fun Q hQ=>?_)
 simp (disch:=first | (intros;contradiction) | omega | (simp only [zN];omega)) only [zS,zW,Nat.reduceMod,Nat.reduceMul,reduceCtorEq,Nat.reduceAdd,Nat.reduceEqDiff,Nat.reduceLeDiff,Nat.reduceLT,Nat.reduceSub,Int.reduceNeg,Int.reduceAdd,Int.reduceToNat,↓reduceIte,Int.reduceBEq,Int.reduceBNe,Int.reduceLT,Int.reduceLE,chC,chO,pushC,puC]
 repeat refine ⟨by (first | omega | exact isByteRow_brow _ | exact fun h=>⟨isByteRow_brow _,h⟩ | exact ⟨by (intro q hq;obtain ⟨_,_,rfl⟩:=List.mem_map.1 hq;rfl),by omega⟩ | exact ⟨by (intro q hq;obtain ⟨_,_,rfl⟩:=List.mem_map.1 hq;rfl),by simp;omega⟩ | exact fun h=>⟨⟨by (intro q hq;obtain ⟨_,_,rfl⟩:=List.mem_map.1 hq;rfl),by omega⟩,h⟩ | (simp;omega) | (simp;done) | exact ⟨by omega,by omega⟩ | exact ⟨by omega,by simp;omega⟩ | exact ⟨by simp;omega,by simp;omega⟩ | exact ⟨by simp,by simp;omega⟩ | (intro h;rw [h];rfl) | (intro h;refine ⟨fun h2=>?_,h⟩;rw [h,h2];rfl) | (intro h;refine ⟨?_,h⟩;simp [inR] at h;omega) | (intro h;simp [inR] at h;omega) | assumption | (refine ⟨?_,?_⟩ <;> (repeat' (first | omega | assumption | (intro q hq;obtain ⟨_,_,rfl⟩:=List.mem_map.1 hq;rfl) | (simp;done) | refine ⟨?_,?_⟩))) | (intro h;refine ⟨⟨?_,?_⟩,h⟩ <;> (repeat' (first | omega | (intro q hq;obtain ⟨_,_,rfl⟩:=List.mem_map.1 hq;rfl) | (simp;done) | refine ⟨?_,?_⟩)))),?_⟩
 refine hQ ?_
 refine RG.call [] (cRP) (by (repeat' (first | exact tr_nil | refine tr_cons ?_ ?_ | exact tr_v | exact tr_sl | exact tr_nils | exact tr_agg (by repeat' (first | exact trivial | rfl | exact rfl | refine ⟨?_,?_⟩)) | exact tr_opt (by simpa using hg) tr_v | exact tr_opt (by simpa using hg) tr_sl | exact tr_opt (by simpa using hg) (tr_agg (by repeat' (first | exact trivial | rfl | exact rfl | refine ⟨?_,?_⟩)))))) trivial (by exact .inr ⟨pushT_pure _ _,trivial⟩) ?_
 refine RG.go fun Q hQ=>?_
 simp (disch:=first | (intros;contradiction) | omega | (simp only [zN];omega)) only [zS,zW,Nat.reduceMod,Nat.reduceMul,reduceCtorEq,Nat.reduceAdd,Nat.reduceEqDiff,Nat.reduceLeDiff,Nat.reduceLT,Nat.reduceSub,Int.reduceNeg,Int.reduceAdd,Int.reduceToNat,↓reduceIte,Int.reduceBEq,Int.reduceBNe,Int.reduceLT,Int.reduceLE,chC,chO,pushC,puC]
 repeat refine ⟨by (first | omega | exact isByteRow_brow _ | exact fun h=>⟨isByteRow_brow _,h⟩ | exact ⟨by (intro q hq;obtain ⟨_,_,rfl⟩:=List.mem_map.1 hq;rfl),by omega⟩ | exact ⟨by (intro q hq;obtain ⟨_,_,rfl⟩:=List.mem_map.1 hq;rfl),by simp;omega⟩ | exact fun h=>⟨⟨by (intro q hq;obtain ⟨_,_,rfl⟩:=List.mem_map.1 hq;rfl),by omega⟩,h⟩ | (simp;omega) | (simp;done) | exact ⟨by omega,by omega⟩ | exact ⟨by omega,by simp;omega⟩ | exact ⟨by simp;omega,by simp;omega⟩ | exact ⟨by simp,by simp;omega⟩ | (intro h;rw [h];rfl) | (intro h;refine ⟨fun h2=>?_,h⟩;rw [h,h2];rfl) | (intro h;refine ⟨?_,h⟩;simp [inR] at h;omega) | (intro h;simp [inR] at h;omega) | assumption | (refine ⟨?_,?_⟩ <;> (repeat' (first | omega | assumption | (intro q hq;obtain ⟨_,_,rfl⟩:=List.mem_map.1 hq;rfl) | (simp;done) | refine ⟨?_,?_⟩))) | (intro h;refine ⟨⟨?_,?_⟩,h⟩ <;> (repeat' (first | omega | (intro q hq;obtain ⟨_,_,rfl⟩:=List.mem_map.1 hq;rfl) | (simp;done) | refine ⟨?_,?_⟩)))),?_⟩
 refine hQ (RG.nil ?_)
 try simp only [zX,Nat.reduceEqDiff,↓reduceIte,reduceCtorEq]
 refine aw_reg 1248 (RG.go fun Q hQ=>?_)
 simp (disch:=first | (intros;contradiction) | omega | (simp only [zN];omega)) only [zS,zW,Nat.reduceMod,Nat.reduceMul,reduceCtorEq,Nat.reduceAdd,Nat.reduceEqDiff,Nat.reduceLeDiff,Nat.reduceLT,Nat.reduceSub,Int.reduceNeg,Int.reduceAdd,Int.reduceToNat,↓reduceIte,Int.reduceBEq,Int.reduceBNe,Int.reduceLT,Int.reduceLE,chC,chO,pushC,puC]
 repeat refine ⟨by (first | omega | exact isByteRow_brow _ | exact fun h=>⟨isByteRow_brow _,h⟩ | exact ⟨by (intro q hq;obtain ⟨_,_,rfl⟩:=List.mem_map.1 hq;rfl),by omega⟩ | exact ⟨by (intro q hq;obtain ⟨_,_,rfl⟩:=List.mem_map.1 hq;rfl),by simp;omega⟩ | exact fun h=>⟨⟨by (intro q hq;obtain ⟨_,_,rfl⟩:=List.mem_map.1 hq;rfl),by omega⟩,h⟩ | (simp;omega) | (simp;done) | exact ⟨by omega,by omega⟩ | exact ⟨by omega,by simp;omega⟩ | exact ⟨by simp;omega,by simp;omega⟩ | exact ⟨by simp,by simp;omega⟩ | (intro h;rw [h];rfl) | (intro h;refine ⟨fun h2=>?_,h⟩;rw [h,h2];rfl) | (intro h;refine ⟨?_,h⟩;simp [inR] at h;omega) | (intro h;simp [inR] at h;omega) | assumption | (refine ⟨?_,?_⟩ <;> (repeat' (first | omega | assumption | (intro q hq;obtain ⟨_,_,rfl⟩:=List.mem_map.1 hq;rfl) | (simp;done) | refine ⟨?_,?_⟩))) | (intro h;refine ⟨⟨?_,?_⟩,h⟩ <;> (repeat' (first | omega | (intro q hq;obtain ⟨_,_,rfl⟩:=List.mem_map.1 hq;rfl) | (simp;done) | refine ⟨?_,?_⟩)))),?_⟩
 refine hQ ?_
 refine RG.callo [] [] (cPut.rows (drows_brow _)) (.mk (by (repeat' (first | exact tr_nil | refine tr_cons ?_ ?_ | exact tr_v | exact tr_bp rfl | exact tr_osl rfl | exact tr_sl | exact tr_nils | exact tr_agg (by repeat' (first | exact trivial | rfl | exact rfl | refine ⟨?_,?_⟩)) | exact tr_opt (by simpa using hg) tr_v | exact tr_opt (by simpa using hg) tr_sl | exact tr_opt (by simpa using hg) (tr_agg (by repeat' (first | exact trivial | rfl | exact rfl | refine ⟨?_,?_⟩)))))) (by first | trivial | (simp only [zT,Nat.reduceEqDiff,Nat.reduceAdd,↓reduceIte,reduceCtorEq];done) | (simp only [zT,Nat.reduceEqDiff,Nat.reduceAdd,↓reduceIte,reduceCtorEq];trivial) | (simp only [zT,Nat.reduceEqDiff,Nat.reduceAdd,↓reduceIte,reduceCtorEq];repeat' (first | (first | exact drows_hrow _ | exact drows_brow _ | exact drows_nrow _ | exact drows_irow _ | exact drows_wrow _ | assumption | (simp [isDRows,brow,C.isD];done) | (rw [← List.map_append];first | exact drows_brow _ | exact drows_nrow _ | exact drows_irow _ | exact drows_wrow _)) | refine ⟨?_,?_⟩))) (by simp) (by simp) (trivial) (by first | (simp [lkE_cons,lkE_nil];done) | (intro j hj;simp at hj;simp only [setEs,setE_cons,setE_nil,lkE_cons,lkE_nil];repeat rw [if_neg (by omega)])) (by first | (simp [Ent.pure];done) | (simp [Ent.pure];repeat' (first | (first | exact drows_hrow _ | exact drows_brow _ | exact drows_nrow _ | exact drows_irow _ | exact drows_wrow _ | assumption | (simp [isDRows,brow,C.isD];done) | (rw [← List.map_append];first | exact drows_brow _ | exact drows_nrow _ | exact drows_irow _ | exact drows_wrow _)) | refine ⟨?_,?_⟩))) (by simp) (by simp)) ?_
 refine RG.go fun Q hQ=>?_
 simp (disch:=first | (intros;contradiction) | omega | (simp only [zN];omega)) only [zS,zW,Nat.reduceMod,Nat.reduceMul,reduceCtorEq,Nat.reduceAdd,Nat.reduceEqDiff,Nat.reduceLeDiff,Nat.reduceLT,Nat.reduceSub,Int.reduceNeg,Int.reduceAdd,Int.reduceToNat,↓reduceIte,Int.reduceBEq,Int.reduceBNe,Int.reduceLT,Int.reduceLE,chC,chO,pushC,puC]
 repeat refine ⟨by (first | omega | exact isByteRow_brow _ | exact fun h=>⟨isByteRow_brow _,h⟩ | exact ⟨by (intro q hq;obtain ⟨_,_,rfl⟩:=List.mem_map.1 hq;rfl),by omega⟩ | exact ⟨by (intro q hq;obtain ⟨_,_,rfl⟩:=List.mem_map.1 hq;rfl),by simp;omega⟩ | exact fun h=>⟨⟨by (intro q hq;obtain ⟨_,_,rfl⟩:=List.mem_map.1 hq;rfl),by omega⟩,h⟩ | (simp;omega) | (simp;done) | exact ⟨by omega,by omega⟩ | exact ⟨by omega,by simp;omega⟩ | exact ⟨by simp;omega,by simp;omega⟩ | exact ⟨by simp,by simp;omega⟩ | (intro h;rw [h];rfl) | (intro h;refine ⟨fun h2=>?_,h⟩;rw [h,h2];rfl) | (intro h;refine ⟨?_,h⟩;simp [inR] at h;omega) | (intro h;simp [inR] at h;omega) | assumption | (refine ⟨?_,?_⟩ <;> (repeat' (first | omega | assumption | (intro q hq;obtain ⟨_,_,rfl⟩:=List.mem_map.1 hq;rfl) | (simp;done) | refine ⟨?_,?_⟩))) | (intro h;refine ⟨⟨?_,?_⟩,h⟩ <;> (repeat' (first | omega | (intro q hq;obtain ⟨_,_,rfl⟩:=List.mem_map.1 hq;rfl) | (simp;done) | refine ⟨?_,?_⟩)))),?_⟩
 refine hQ ?_
 refine RG.callo [] [] (pack_New_con ((chB c).map brow) (drows_brow _) (brow_len _) (by simp;omega)) (.mk (by (repeat' (first | exact tr_nil | refine tr_cons ?_ ?_ | exact tr_v | exact tr_bp rfl | exact tr_osl rfl | exact tr_sl | exact tr_nils | exact tr_agg (by repeat' (first | exact trivial | rfl | exact rfl | refine ⟨?_,?_⟩)) | exact tr_opt (by simpa using hg) tr_v | exact tr_opt (by simpa using hg) tr_sl | exact tr_opt (by simpa using hg) (tr_agg (by repeat' (first | exact trivial | rfl | exact rfl | refine ⟨?_,?_⟩)))))) (by first | trivial | (simp only [zT,Nat.reduceEqDiff,Nat.reduceAdd,↓reduceIte,reduceCtorEq];done) | (simp only [zT,Nat.reduceEqDiff,Nat.reduceAdd,↓reduceIte,reduceCtorEq];trivial) | (simp only [zT,Nat.reduceEqDiff,Nat.reduceAdd,↓reduceIte,reduceCtorEq];repeat' (first | (first | exact drows_hrow _ | exact drows_brow _ | exact drows_nrow _ | exact drows_irow _ | exact drows_wrow _ | assumption | (simp [isDRows,brow,C.isD];done) | (rw [← List.map_append];first | exact drows_brow _ | exact drows_nrow _ | exact drows_irow _ | exact drows_wrow _)) | refine ⟨?_,?_⟩))) (by simp) (by simp) (trivial) (by first | (simp [lkE_cons,lkE_nil];done) | (intro j hj;simp at hj;simp only [setEs,setE_cons,setE_nil,lkE_cons,lkE_nil];repeat rw [if_neg (by omega)])) (by first | (simp [Ent.pure];done) | (simp [Ent.pure];repeat' (first | (first | exact drows_hrow _ | exact drows_brow _ | exact drows_nrow _ | exact drows_irow _ | exact drows_wrow _ | assumption | (simp [isDRows,brow,C.isD];done) | (rw [← List.map_append];first | exact drows_brow _ | exact drows_nrow _ | exact drows_irow _ | exact drows_wrow _)) | refine ⟨?_,?_⟩))) (by simp) (by simp)) ?_
 refine RG.go fun Q hQ=>?_
 simp (disch:=first | (intros;contradiction) | omega | (simp only [zN];omega)) only [zS,zW,Nat.reduceMod,Nat.reduceMul,reduceCtorEq,Nat.reduceAdd,Nat.reduceEqDiff,Nat.reduceLeDiff,Nat.reduceLT,Nat.reduceSub,Int.reduceNeg,Int.reduceAdd,Int.reduceToNat,↓reduceIte,Int.reduceBEq,Int.reduceBNe,Int.reduceLT,Int.reduceLE,chC,chO,pushC,puC]
 have hm1 : (c.mark == 3) = true:=by rw [f1];rfl
 repeat refine ⟨by (first | omega | exact isByteRow_brow _ | exact fun h=>⟨isByteRow_brow _,h⟩ | exact ⟨by (intro q hq;obtain ⟨_,_,rfl⟩:=List.mem_map.1 hq;rfl),by omega⟩ | exact ⟨by (intro q hq;obtain ⟨_,_,rfl⟩:=List.mem_map.1 hq;rfl),by simp;omega⟩ | exact fun h=>⟨⟨by (intro q hq;obtain ⟨_,_,rfl⟩:=List.mem_map.1 hq;rfl),by omega⟩,h⟩ | (simp;omega) | (simp;done) | exact ⟨by omega,by omega⟩ | exact ⟨by omega,by simp;omega⟩ | exact ⟨by simp;omega,by simp;omega⟩ | exact ⟨by simp,by simp;omega⟩ | (intro h;rw [h];rfl) | (intro h;refine ⟨fun h2=>?_,h⟩;rw [h,h2];rfl) | (intro h;refine ⟨?_,h⟩;simp [inR] at h;omega) | (intro h;simp [inR] at h;omega) | assumption | (refine ⟨?_,?_⟩ <;> (repeat' (first | omega | assumption | (intro q hq;obtain ⟨_,_,rfl⟩:=List.mem_map.1 hq;rfl) | (simp;done) | refine ⟨?_,?_⟩))) | (intro h;refine ⟨⟨?_,?_⟩,h⟩ <;> (repeat' (first | omega | (intro q hq;obtain ⟨_,_,rfl⟩:=List.mem_map.1 hq;rfl) | (simp;done) | refine ⟨?_,?_⟩)))),?_⟩
 refine hQ ?_
 refine RG.callo [1280] [] (cTk) (.mk (by (repeat' (first | exact tr_nil | refine tr_cons ?_ ?_ | exact tr_v | exact tr_bp rfl | exact tr_osl rfl | exact tr_sl | exact tr_nils | exact tr_agg (by repeat' (first | exact trivial | rfl | exact rfl | refine ⟨?_,?_⟩)) | exact tr_opt (by simpa using hg) tr_v | exact tr_opt (by simpa using hg) tr_sl | exact tr_opt (by simpa using hg) (tr_agg (by repeat' (first | exact trivial | rfl | exact rfl | refine ⟨?_,?_⟩)))))) (by first | trivial | (simp only [zT,Nat.reduceEqDiff,Nat.reduceAdd,↓reduceIte,reduceCtorEq];done) | (simp only [zT,Nat.reduceEqDiff,Nat.reduceAdd,↓reduceIte,reduceCtorEq];trivial) | (simp only [zT,Nat.reduceEqDiff,Nat.reduceAdd,↓reduceIte,reduceCtorEq];repeat' (first | (first | exact drows_hrow _ | exact drows_brow _ | exact drows_nrow _ | exact drows_irow _ | exact drows_wrow _ | assumption | (simp [isDRows,brow,C.isD];done) | (rw [← List.map_append];first | exact drows_brow _ | exact drows_nrow _ | exact drows_irow _ | exact drows_wrow _)) | refine ⟨?_,?_⟩))) (by simp) (by simp) (trivial) (by first | (simp [lkE_cons,lkE_nil];done) | (intro j hj;simp at hj;simp only [setEs,setE_cons,setE_nil,lkE_cons,lkE_nil];repeat rw [if_neg (by omega)])) (by first | (simp [Ent.pure];done) | (simp [Ent.pure];repeat' (first | (first | exact drows_hrow _ | exact drows_brow _ | exact drows_nrow _ | exact drows_irow _ | exact drows_wrow _ | assumption | (simp [isDRows,brow,C.isD];done) | (rw [← List.map_append];first | exact drows_brow _ | exact drows_nrow _ | exact drows_irow _ | exact drows_wrow _)) | refine ⟨?_,?_⟩))) (by simp) (by simp)) ?_
 refine RG.go fun Q hQ=>?_
 simp (disch:=first | (intros;contradiction) | omega | (simp only [zN];omega)) only [zS,zW,Nat.reduceMod,Nat.reduceMul,reduceCtorEq,Nat.reduceAdd,Nat.reduceEqDiff,Nat.reduceLeDiff,Nat.reduceLT,Nat.reduceSub,Int.reduceNeg,Int.reduceAdd,Int.reduceToNat,↓reduceIte,Int.reduceBEq,Int.reduceBNe,Int.reduceLT,Int.reduceLE,chC,chO,pushC,puC,hm1]
 repeat refine ⟨by (first | omega | exact isByteRow_brow _ | exact fun h=>⟨isByteRow_brow _,h⟩ | exact ⟨by (intro q hq;obtain ⟨_,_,rfl⟩:=List.mem_map.1 hq;rfl),by omega⟩ | exact ⟨by (intro q hq;obtain ⟨_,_,rfl⟩:=List.mem_map.1 hq;rfl),by simp;omega⟩ | exact fun h=>⟨⟨by (intro q hq;obtain ⟨_,_,rfl⟩:=List.mem_map.1 hq;rfl),by omega⟩,h⟩ | (simp;omega) | (simp;done) | exact ⟨by omega,by omega⟩ | exact ⟨by omega,by simp;omega⟩ | exact ⟨by simp;omega,by simp;omega⟩ | exact ⟨by simp,by simp;omega⟩ | (intro h;rw [h];rfl) | (intro h;refine ⟨fun h2=>?_,h⟩;rw [h,h2];rfl) | (intro h;refine ⟨?_,h⟩;simp [inR] at h;omega) | (intro h;simp [inR] at h;omega) | assumption | (refine ⟨?_,?_⟩ <;> (repeat' (first | omega | assumption | (intro q hq;obtain ⟨_,_,rfl⟩:=List.mem_map.1 hq;rfl) | (simp;done) | refine ⟨?_,?_⟩))) | (intro h;refine ⟨⟨?_,?_⟩,h⟩ <;> (repeat' (first | omega | (intro q hq;obtain ⟨_,_,rfl⟩:=List.mem_map.1 hq;rfl) | (simp;done) | refine ⟨?_,?_⟩)))),?_⟩
 refine hQ (RG.nil ?_)
 try simp only [zX,Nat.reduceEqDiff,↓reduceIte,reduceCtorEq]
 refine aw_reg 1440 (RG.go fun Q hQ=>?_)
 simp (disch:=first | (intros;contradiction) | omega | (simp only [zN];omega)) only [zS,zW,Nat.reduceMod,Nat.reduceMul,reduceCtorEq,Nat.reduceAdd,Nat.reduceEqDiff,Nat.reduceLeDiff,Nat.reduceLT,Nat.reduceSub,Int.reduceNeg,Int.reduceAdd,Int.reduceToNat,↓reduceIte,Int.reduceBEq,Int.reduceBNe,Int.reduceLT,Int.reduceLE,chC,chO,pushC,puC,hm1]
 refine ⟨fun r hr=>isByteRow_brow [120] r hr,fun _=>⟨fun r hr=>isByteRow_brow [0] r hr,by simp [ba_toList,rowByte,brow]⟩,hQ ?_⟩
 refine RG.callg _ _ [] rfl (fun hg=>⟨_,(cS),by (repeat' (first | exact tr_nil | refine tr_cons ?_ ?_ | exact tr_v | exact tr_sl | exact tr_nils | exact tr_agg (by repeat' (first | exact trivial | rfl | exact rfl | refine ⟨?_,?_⟩)) | exact tr_opt (by simpa using hg) tr_v | exact tr_opt (by simpa using hg) tr_sl | exact tr_opt (by simpa using hg) (tr_agg (by repeat' (first | exact trivial | rfl | exact rfl | refine ⟨?_,?_⟩))))),trivial,by (first | exact .inl trivial | exact .inr ⟨rfl,trivial⟩)⟩) ?_
 refine RG.go fun Q hQ=>?_
 simp (disch:=first | (intros;contradiction) | omega | (simp only [zN];omega)) only [zS,zW,Nat.reduceMod,Nat.reduceMul,reduceCtorEq,Nat.reduceAdd,Nat.reduceEqDiff,Nat.reduceLeDiff,Nat.reduceLT,Nat.reduceSub,Int.reduceNeg,Int.reduceAdd,Int.reduceToNat,↓reduceIte,Int.reduceBEq,Int.reduceBNe,Int.reduceLT,Int.reduceLE,chC,chO,pushC,puC,hm1]
 repeat refine ⟨by (first | omega | exact isByteRow_brow _ | exact fun h=>⟨isByteRow_brow _,h⟩ | exact ⟨by (intro q hq;obtain ⟨_,_,rfl⟩:=List.mem_map.1 hq;rfl),by omega⟩ | exact ⟨by (intro q hq;obtain ⟨_,_,rfl⟩:=List.mem_map.1 hq;rfl),by simp;omega⟩ | exact fun h=>⟨⟨by (intro q hq;obtain ⟨_,_,rfl⟩:=List.mem_map.1 hq;rfl),by omega⟩,h⟩ | (simp;omega) | (simp;done) | exact ⟨by omega,by omega⟩ | exact ⟨by omega,by simp;omega⟩ | exact ⟨by simp;omega,by simp;omega⟩ | exact ⟨by simp,by simp;omega⟩ | (intro h;rw [h];rfl) | (intro h;refine ⟨fun h2=>?_,h⟩;rw [h,h2];rfl) | (intro h;refine ⟨?_,h⟩;simp [inR] at h;omega) | (intro h;simp [inR] at h;omega) | assumption | (refine ⟨?_,?_⟩ <;> (repeat' (first | omega | assumption | (intro q hq;obtain ⟨_,_,rfl⟩:=List.mem_map.1 hq;rfl) | (simp;done) | refine ⟨?_,?_⟩))) | (intro h;refine ⟨⟨?_,?_⟩,h⟩ <;> (repeat' (first | omega | (intro q hq;obtain ⟨_,_,rfl⟩:=List.mem_map.1 hq;rfl) | (simp;done) | refine ⟨?_,?_⟩)))),?_⟩
 refine hQ ?_
 refine RG.callg _ _ [] rfl (fun hg=>⟨_,(cR),by (repeat' (first | exact tr_nil | refine tr_cons ?_ ?_ | exact tr_v | exact tr_sl | exact tr_nils | exact tr_agg (by repeat' (first | exact trivial | rfl | exact rfl | refine ⟨?_,?_⟩)) | exact tr_opt (by simpa using hg) tr_v | exact tr_opt (by simpa using hg) tr_sl | exact tr_opt (by simpa using hg) (tr_agg (by repeat' (first | exact trivial | rfl | exact rfl | refine ⟨?_,?_⟩))))),trivial,by (first | exact .inl trivial | exact .inr ⟨rfl,trivial⟩)⟩) ?_
 refine RG.go fun Q hQ=>?_
 simp (disch:=first | (intros;contradiction) | omega | (simp only [zN];omega)) only [zS,zW,Nat.reduceMod,Nat.reduceMul,reduceCtorEq,Nat.reduceAdd,Nat.reduceEqDiff,Nat.reduceLeDiff,Nat.reduceLT,Nat.reduceSub,Int.reduceNeg,Int.reduceAdd,Int.reduceToNat,↓reduceIte,Int.reduceBEq,Int.reduceBNe,Int.reduceLT,Int.reduceLE,chC,chO,pushC,puC,hm1]
 repeat refine ⟨by (first | omega | exact isByteRow_brow _ | exact fun h=>⟨isByteRow_brow _,h⟩ | exact ⟨by (intro q hq;obtain ⟨_,_,rfl⟩:=List.mem_map.1 hq;rfl),by omega⟩ | exact ⟨by (intro q hq;obtain ⟨_,_,rfl⟩:=List.mem_map.1 hq;rfl),by simp;omega⟩ | exact fun h=>⟨⟨by (intro q hq;obtain ⟨_,_,rfl⟩:=List.mem_map.1 hq;rfl),by omega⟩,h⟩ | (simp;omega) | (simp;done) | exact ⟨by omega,by omega⟩ | exact ⟨by omega,by simp;omega⟩ | exact ⟨by simp;omega,by simp;omega⟩ | exact ⟨by simp,by simp;omega⟩ | (intro h;rw [h];rfl) | (intro h;refine ⟨fun h2=>?_,h⟩;rw [h,h2];rfl) | (intro h;refine ⟨?_,h⟩;simp [inR] at h;omega) | (intro h;simp [inR] at h;omega) | assumption | (refine ⟨?_,?_⟩ <;> (repeat' (first | omega | assumption | (intro q hq;obtain ⟨_,_,rfl⟩:=List.mem_map.1 hq;rfl) | (simp;done) | refine ⟨?_,?_⟩))) | (intro h;refine ⟨⟨?_,?_⟩,h⟩ <;> (repeat' (first | omega | (intro q hq;obtain ⟨_,_,rfl⟩:=List.mem_map.1 hq;rfl) | (simp;done) | refine ⟨?_,?_⟩)))),?_⟩
 refine hQ ?_
 refine RG.callg _ _ [] rfl (fun hg=>⟨_,(cPR),by (repeat' (first | exact tr_nil | refine tr_cons ?_ ?_ | exact tr_v | exact tr_sl | exact tr_nils | exact tr_agg (by repeat' (first | exact trivial | rfl | exact rfl | refine ⟨?_,?_⟩)) | exact tr_opt (by simpa using hg) tr_v | exact tr_opt (by simpa using hg) tr_sl | exact tr_opt (by simpa using hg) (tr_agg (by repeat' (first | exact trivial | rfl | exact rfl | refine ⟨?_,?_⟩))))),trivial,by (first | exact .inl trivial | exact .inr ⟨rfl,trivial⟩)⟩) ?_
 refine RG.go fun Q hQ=>?_
 simp (disch:=first | (intros;contradiction) | omega | (simp only [zN];omega)) only [zS,zW,Nat.reduceMod,Nat.reduceMul,reduceCtorEq,Nat.reduceAdd,Nat.reduceEqDiff,Nat.reduceLeDiff,Nat.reduceLT,Nat.reduceSub,Int.reduceNeg,Int.reduceAdd,Int.reduceToNat,↓reduceIte,Int.reduceBEq,Int.reduceBNe,Int.reduceLT,Int.reduceLE,chC,chO,pushC,puC,hm1]
 repeat refine ⟨by (first | omega | exact isByteRow_brow _ | exact fun h=>⟨isByteRow_brow _,h⟩ | exact ⟨by (intro q hq;obtain ⟨_,_,rfl⟩:=List.mem_map.1 hq;rfl),by omega⟩ | exact ⟨by (intro q hq;obtain ⟨_,_,rfl⟩:=List.mem_map.1 hq;rfl),by simp;omega⟩ | exact fun h=>⟨⟨by (intro q hq;obtain ⟨_,_,rfl⟩:=List.mem_map.1 hq;rfl),by omega⟩,h⟩ | (simp;omega) | (simp;done) | exact ⟨by omega,by omega⟩ | exact ⟨by omega,by simp;omega⟩ | exact ⟨by simp;omega,by simp;omega⟩ | exact ⟨by simp,by simp;omega⟩ | (intro h;rw [h];rfl) | (intro h;refine ⟨fun h2=>?_,h⟩;rw [h,h2];rfl) | (intro h;refine ⟨?_,h⟩;simp [inR] at h;omega) | (intro h;simp [inR] at h;omega) | assumption | (refine ⟨?_,?_⟩ <;> (repeat' (first | omega | assumption | (intro q hq;obtain ⟨_,_,rfl⟩:=List.mem_map.1 hq;rfl) | (simp;done) | refine ⟨?_,?_⟩))) | (intro h;refine ⟨⟨?_,?_⟩,h⟩ <;> (repeat' (first | omega | (intro q hq;obtain ⟨_,_,rfl⟩:=List.mem_map.1 hq;rfl) | (simp;done) | refine ⟨?_,?_⟩)))),?_⟩
 refine hQ (RG.nil ?_)
 try simp only [zX,Nat.reduceEqDiff,↓reduceIte,reduceCtorEq]
 refine Fin.b (.inr rfl) rfl trivial ?_
 simp [f1,f2,ba_toList,rowByte,brow]

end Go.Abs

namespace Go.Abs
open Go Go.Proofs
set_option maxRecDepth 100000
set_option linter.unusedSimpArgs false
set_option maxHeartbeats 8000000

theorem behN_snoc {f : Int} {x : IT} (hx : f < x.b) : ∀ h : List IT,behN f (h ++ [x]) = behN f h:=fun h=>by
 unfold behN
 rw [takeW_snoc (by simp;omega)]
theorem pruneH_snoc {f : Int} {h : List IT} {x : IT} (hx : f < x.b) : pruneH f (h ++ [x]) = pruneH f h ++ [x]:=by
 have:=behN_le f h
 unfold pruneH
 rw [behN_snoc hx,List.drop_append_of_le_length (by omega)]
theorem pruneH_mem {f : Int} {h : List IT} {x : IT} (hx : x ∈ pruneH f h) : x ∈ h:=List.mem_of_mem_drop hx
theorem behN_eq {f : Int} {h : List IT} {k : Nat} (hk : k≤h.length) (h1 : ∀ i (hi : i < h.length),i < k→h[i].b≤f) (h2 : ∀ i (hi : i < h.length),k≤i→f < h[i].b) : behN f h = k:=by
 have a:=behN_le f h
 rcases Nat.lt_trichotomy (behN f h) k with h0 | h0 | h0
 ·have hi : behN f h < h.length:=by omega
  have b : f < h[behN f h].b:=by
   have key : ∀ (l : List IT) (hb : behN f l < l.length),f < l[behN f l].b:=by
    intro l
    induction l with
    | nil=>intro hb;simp at hb
    | cons x l ih =>
     intro hb
     unfold behN at hb ⊢
     rw [List.takeWhile_cons] at hb
     by_cases hx : x.b≤f
     ·have e : (List.takeWhile (fun x=>decide (x.b≤f)) (x :: l)).length = (List.takeWhile (fun x=>decide (x.b≤f)) l).length + 1:=by rw [List.takeWhile_cons];simp [hx]
      simp only [hx,decide_true,if_true,List.length_cons] at hb
      have:=ih (by unfold behN;omega)
      simp only [e,List.getElem_cons_succ]
      exact this
     ·have e : (List.takeWhile (fun x=>decide (x.b≤f)) (x :: l)).length = 0:=by rw [List.takeWhile_cons];simp [hx]
      simp only [e,List.getElem_cons_zero]
      omega
   exact key h hi
  have:=h1 _ hi h0
  omega
 ·exact h0
 ·have hi : k < h.length:=by omega
  have:=behN_lt f h k hi h0
  have:=h2 k hi (Nat.le_refl _)
  omega
theorem behN_mono {f g : Int} (hfg : f≤g) {h : List IT} (hr : rise h) : behN f h≤behN g h:=Decidable.by_contra fun hh=>by
 have a:=behN_le f h
 have hi : behN g h < h.length:=by omega
 have b:=behN_ge g h hr _ hi (Nat.le_refl _)
 have c:=behN_lt f h _ hi (by omega)
 omega
theorem pruneH_two {f g : Int} (hfg : f≤g) {h : List IT} (hr : rise h) : pruneH g (pruneH f h) = pruneH g h:=by
 have a:=behN_mono hfg hr
 have b:=behN_le g h
 obtain ⟨k,hk⟩ : ∃ k,k = behN f h - 1:=⟨_,rfl⟩
 have e : behN g (h.drop k) = behN g h - k:=by
  refine behN_eq (by simp;omega) (fun i hi h1=>?_) fun i hi h2=>?_
  ·rw [List.getElem_drop]
   exact behN_lt g h _ _ (by omega)
  ·rw [List.getElem_drop]
   exact behN_ge g h hr _ _ (by omega)
 unfold pruneH
 rw [← hk,e,List.drop_drop]
 congr 1
 omega
theorem hst_drop {p : Int} (hp : 0≤p) : ∀ (k : Nat) {h : List IT},hst p h = true→∃ q,p≤q∧hst q (h.drop k) = true
 | 0,h,hh=>⟨p,Int.le_refl _,by simpa using hh⟩
 | k + 1,[],hh=>⟨p,Int.le_refl _,rfl⟩
 | k + 1,x :: h,hh=>by
  simp only [hst,Bool.and_eq_true,decide_eq_true_eq] at hh
  obtain ⟨q,h1,h2⟩:=hst_drop (p:=x.b) (by omega) k hh.2
  exact ⟨q,by omega,by simpa using h2⟩
theorem hst_weak {p q : Int} (h : p≤q) : ∀ {l : List IT},hst q l = true→hst p l = true
 | [],_=>rfl
 | x :: l,hh=>by
  simp only [hst,Bool.and_eq_true,decide_eq_true_eq] at hh ⊢
  exact ⟨⟨by omega,hh.1.2⟩,hh.2⟩
theorem histR_prune {f : Int} {h : List IT} (hh : histR h = true) : histR (pruneH f h) = true:=by
 obtain ⟨q,h1,h2⟩:=hst_drop (p:=0) (Int.le_refl _) (behN f h - 1) hh
 exact hst_weak h1 h2
theorem hst_len {p m : Int} : ∀ {l : List IT},hst p l = true→(∀ y ∈ l,y.b≤m)→p≤m→(l.length : Int)≤m - p
 | [],_,_,h=>by simp;omega
 | x :: l,hh,h,hp=>by
  simp only [hst,Bool.and_eq_true,decide_eq_true_eq] at hh
  have:=h x (by simp)
  have:=hst_len hh.2 (fun y hy=>h y (by simp [hy])) (by omega)
  simp only [List.length_cons];omega

structure HF (m : Nat) (size : Int) (H : List (List IT)) : Prop where
 r : ∀ h ∈ H,histR h = true
 t : ∀ h ∈ H,∀ y ∈ h,y.b≤m
 d : ∀ h ∈ H,∀ y ∈ h,(y.d.length : Int) = size∧∀ c ∈ y.d,c < 256
theorem HF.mono {m k : Nat} {size : Int} {H : List (List IT)} (h : HF m size H) (hk : m≤k) : HF k size H:=⟨h.r,fun x hx y hy=>by have:=h.t x hx y hy;omega,h.d⟩
theorem hStep_in {s : Int} {H : List (List IT)} {x : IT} {b : Nat} (hb : x.b = b) (hl : b < H.length) : hStep s H x = H.set b (H[b] ++ [⟨s,x.d⟩]):=by
 unfold hStep
 rw [if_pos (by omega),hb]
 simp [hl]

theorem apply_step {mark s f : Int} {H : List (List IT)} {x : IT} {b : Nat} (hb : x.b = b) (hl : b < H.length) (hy : ∀ y ∈ H[b],y.b < s) (hf : f < s) (hm : mark < s) (h1 : 1≤s) (h2 : s≤1099511627776) :
  applyI mark s (H.map (pruneH f)) x = (hStep s H x).map (pruneH f):=by
 rw [hStep_in hb hl]
 unfold applyI
 rw [if_pos hm,hb,List.map_set,pruneH_snoc hf]
 have e : (H.map (pruneH f)).getD ((b : Nat) : Int).toNat [] = pruneH f H[b]:=by simp [hl]
 rw [e,Int.toNat_natCast,addH_yes h1 h2 fun h0=>hy _ (pruneH_mem (List.getElem_mem _))]

def sl3 (first cnt : Nat) (H : List (List IT)) : List (List IT):=(H.drop first).take cnt
theorem sl3_len {first cnt : Nat} {H : List (List IT)} (h : first + cnt≤H.length) : (sl3 first cnt H).length = cnt:=by simp [sl3];omega
theorem sl3_get {first cnt : Nat} {H : List (List IT)} {i : Nat} (h : first + cnt≤H.length) (hi : i < cnt) : (sl3 first cnt H)[i]'(by rw [sl3_len h];exact hi) = H[first + i]'(by omega):=by simp [sl3]
theorem sl3_set_in {α : Type} {first cnt i : Nat} {H : List α} {v : α} (hi : i < cnt) : ((H.set (first + i) v).drop first).take cnt = ((H.drop first).take cnt).set i v:=by
 apply List.ext_getElem?
 intro j
 by_cases hj : j < cnt
 ·rw [List.getElem?_take_of_lt hj,List.getElem?_drop]
  by_cases hij : j = i
  ·subst hij
   by_cases hl : first + j < H.length
   ·rw [List.getElem?_set_self hl,List.getElem?_set_self (by simp;omega)]
   ·rw [List.getElem?_eq_none (by simp;omega),List.getElem?_eq_none (by simp;omega)]
  ·rw [List.getElem?_set_ne (by omega),List.getElem?_set_ne (by omega),List.getElem?_take_of_lt hj,List.getElem?_drop]
 ·rw [List.getElem?_eq_none (by simp;omega),List.getElem?_eq_none (by simp;omega)]
theorem sl3_set_out {α : Type} {first cnt b : Nat} {H : List α} {v : α} (hb : b < first∨first + cnt≤b) : ((H.set b v).drop first).take cnt = (H.drop first).take cnt:=by
 apply List.ext_getElem?
 intro j
 by_cases hj : j < cnt
 ·rw [List.getElem?_take_of_lt hj,List.getElem?_take_of_lt hj,List.getElem?_drop,List.getElem?_drop,List.getElem?_set_ne (by omega)]
 ·rw [List.getElem?_eq_none (by simp;omega),List.getElem?_eq_none (by simp;omega)]
theorem sl3_step {first cnt : Nat} {H : List (List IT)} (h : first + cnt≤H.length) {s : Int} {x : IT} (hx : 0≤x.b∧x.b < H.length) :
  sl3 first cnt (hStep s H x) = if inC cnt (shIt first x) = true then hStep s (sl3 first cnt H) (shIt first x) else sl3 first cnt H:=by
 obtain ⟨b,hb⟩ : ∃ b : Nat,x.b = b:=⟨x.b.toNat,by omega⟩
 have hl : b < H.length:=by omega
 rw [hStep_in hb hl]
 split
 ·rename_i hin
  simp only [inC,shIt,Bool.and_eq_true,decide_eq_true_eq,hb] at hin
  obtain ⟨i,hi⟩ : ∃ i,b = first + i:=⟨b - first,by omega⟩
  have hic : i < cnt:=by omega
  rw [hStep_in (x:=shIt first x) (b:=i) (by simp only [shIt];omega) (by rw [sl3_len h];exact hic),sl3_get h hic]
  subst hi
  exact sl3_set_in hic
 ·rename_i hin
  simp only [inC,shIt,Bool.and_eq_true,decide_eq_true_eq,hb] at hin
  exact sl3_set_out (by omega)

theorem apply_items {mark s f : Int} {first cnt m : Nat} (hf : f < s) (hm : mark < s) (h1 : 1≤s) (h2 : s≤1099511627776) : ∀ (l : List IT) (H : List (List IT)),first + cnt≤H.length→(∀ x ∈ l,0≤x.b∧x.b < H.length)→onceB l = true →
  (∀ x ∈ l,∀ (b : Nat) (hb : b < H.length),x.b = b→∀ y ∈ H[b],y.b < s) →
  (pushItems first cnt l).foldl (applyI mark s) ((sl3 first cnt H).map (pruneH f)) = (sl3 first cnt (l.foldl (hStep s) H)).map (pruneH f)
 | [],H,_,_,_,_=>rfl
 | x :: l,H,hfc,hr,ho,hy=>by
  have hx:=hr x (by simp)
  simp only [onceB,Bool.and_eq_true,Bool.not_eq_true'] at ho
  have hno : ∀ z ∈ l,z.b≠x.b:=fun z hz e=>by
   have:=ho.1
   rw [Bool.eq_false_iff] at this
   exact this (List.any_eq_true.2 ⟨z,hz,by simpa using e⟩)
  obtain ⟨b,hb⟩ : ∃ b : Nat,x.b = b:=⟨x.b.toNat,by omega⟩
  have hl : b < H.length:=by omega
  have ih:=apply_items (mark:=mark) (f:=f) (m:=m) hf hm h1 h2 l (hStep s H x) (by rw [hStep_len];exact hfc) (fun z hz=>by rw [hStep_len];exact hr z (by simp [hz])) ho.2 (fun z hz c hc hzc y hyc=>by
   have hcl : c < H.length:=by rw [hStep_len] at hc;exact hc
   have hne : b≠c:=fun e=>hno z hz (by omega)
   have e : (hStep s H x)[c] = H[c]:=by
    have : (hStep s H x)[c]? = some H[c]:=by rw [hStep_in hb hl,List.getElem?_set_ne hne,List.getElem?_eq_getElem hcl]
    exact (List.getElem?_eq_some_iff.1 this).2
   rw [e] at hyc
   exact hy z (by simp [hz]) c hcl hzc y hyc)
  rw [List.foldl_cons,← ih,sl3_step hfc hx]
  have hp : pushItems first cnt (x :: l) = if inC cnt (shIt first x) = true then shIt first x :: pushItems first cnt l else pushItems first cnt l:=by
   unfold pushItems
   rw [List.map_cons,List.filter_cons]
  rw [hp]
  split
  ·rename_i hin
   rw [List.foldl_cons]
   congr 1
   simp only [inC,shIt,Bool.and_eq_true,decide_eq_true_eq,hb] at hin
   obtain ⟨i,hi⟩ : ∃ i,b = first + i:=⟨b - first,by omega⟩
   have hic : i < cnt:=by omega
   have hil : i < (sl3 first cnt H).length:=by rw [sl3_len hfc];exact hic
   have hsub : (sl3 first cnt H)[i] = H[b]:=by rw [sl3_get hfc hic];subst hi;rfl
   exact apply_step (x:=shIt first x) (b:=i) (by simp only [shIt];omega) hil (by rw [hsub];exact hy x (by simp) b hl hb) hf hm h1 h2
  ·rfl

theorem HF.step {m : Nat} {size s : Int} {H : List (List IT)} {x : IT} {b : Nat} (h : HF (m + 1) size H) (hs : s = (m : Int) + 1) (hb : x.b = b) (hl : b < H.length) (hy : ∀ y ∈ H[b],y.b < s) (h2 : s≤1099511627776) (hd : (x.d.length : Int) = size) (h8 : ∀ c ∈ x.d,c < 256) : HF (m + 1) size (hStep s H x):=by
 rw [hStep_in hb hl]
 have hmem:=List.getElem_mem hl
 have hadd : H[b] ++ [⟨s,x.d⟩] = addH H[b] s x.d:=(addH_yes (by omega) h2 fun h0=>hy _ (List.getElem_mem _)).symm
 refine ⟨fun g hg=>?_,fun g hg y hyg=>?_,fun g hg y hyg=>?_⟩
 ·rcases List.mem_or_eq_of_mem_set hg with hg | rfl
  ·exact h.r g hg
  ·rw [hadd];exact addH_right (h.r _ hmem)
 ·rcases List.mem_or_eq_of_mem_set hg with hg | rfl
  ·exact h.t g hg y hyg
  ·rcases List.mem_append.1 hyg with hyg | hyg
   ·exact h.t _ hmem y hyg
   ·simp only [List.mem_singleton] at hyg;subst hyg;simp only;omega
 ·rcases List.mem_or_eq_of_mem_set hg with hg | rfl
  ·exact h.d g hg y hyg
  ·rcases List.mem_append.1 hyg with hyg | hyg
   ·exact h.d _ hmem y hyg
   ·simp only [List.mem_singleton] at hyg;subst hyg;exact ⟨hd,h8⟩
theorem HF.items {m : Nat} {size s : Int} (hs : s = (m : Int) + 1) (h2 : s≤1099511627776) : ∀ (l : List IT) (H : List (List IT)),HF (m + 1) size H→(∀ x ∈ l,0≤x.b∧x.b < H.length)→onceB l = true →
  (∀ x ∈ l,∀ (b : Nat) (hb : b < H.length),x.b = b→∀ y ∈ H[b],y.b < s)→(∀ x ∈ l,(x.d.length : Int) = size)→byI l→HF (m + 1) size (l.foldl (hStep s) H)
 | [],H,h,_,_,_,_,_=>h
 | x :: l,H,h,hr,ho,hy,hd,h8=>by
  have hx:=hr x (by simp)
  simp only [onceB,Bool.and_eq_true,Bool.not_eq_true'] at ho
  have hno : ∀ z ∈ l,z.b≠x.b:=fun z hz e=>by
   have:=ho.1
   rw [Bool.eq_false_iff] at this
   exact this (List.any_eq_true.2 ⟨z,hz,by simpa using e⟩)
  obtain ⟨b,hb⟩ : ∃ b : Nat,x.b = b:=⟨x.b.toNat,by omega⟩
  have hl : b < H.length:=by omega
  rw [List.foldl_cons]
  refine HF.items hs h2 l _ (h.step hs hb hl (hy x (by simp) b hl hb) h2 (hd x (by simp)) (h8 x (by simp))) (fun z hz=>by rw [hStep_len];exact hr z (by simp [hz])) ho.2 (fun z hz c hc hzc y hyc=>?_) (fun z hz=>hd z (by simp [hz])) fun z hz=>h8 z (by simp [hz])
  have hcl : c < H.length:=by rw [hStep_len] at hc;exact hc
  have hne : b≠c:=fun e=>hno z hz (by omega)
  have e : (hStep s H x)[c] = H[c]:=by
   have : (hStep s H x)[c]? = some H[c]:=by rw [hStep_in hb hl,List.getElem?_set_ne hne,List.getElem?_eq_getElem hcl]
   exact (List.getElem?_eq_some_iff.1 this).2
  rw [e] at hyc
  exact hy z (by simp [hz]) c hcl hzc y hyc

def Hm (v : VOL) (m : Nat) : List (List IT):=hAll v.blocks.toNat (v.ws.take m)
theorem Hm_succ (v : VOL) (m : Nat) (h : m < v.ws.length) : Hm v (m + 1) = hW (Hm v m) v.ws[m]:=by
 unfold Hm hAll
 rw [take_one v.ws m h,List.foldl_append];rfl
theorem hIts_len (s : Int) : ∀ (l : List IT) (H : List (List IT)),(l.foldl (hStep s) H).length = H.length
 | [],_=>rfl
 | x :: l,H=>by rw [List.foldl_cons,hIts_len,hStep_len]
theorem Hm_len (v : VOL) (m : Nat) : (Hm v m).length = v.blocks.toNat:=by
 unfold Hm hAll
 generalize v.ws.take m = l
 have : ∀ (l : List WR) (H : List (List IT)),(l.foldl hW H).length = H.length:=by
  intro l
  induction l with
  | nil=>intro H;rfl
  | cons w l ih=>intro H;rw [List.foldl_cons,ih];exact hIts_len _ _ _
 rw [this];simp
theorem ws_at {v : VOL} (hr : rightV v = true) {m : Nat} (h : m < v.ws.length) : v.ws[m].s = (m : Int) + 1∧itemsR v.blocks v.size v.ws[m].its = true:=by
 obtain ⟨r1,r2,r3,r4,r5,r6,r7,r8⟩:=rightV_iff.1 hr
 have:=wsR_at h r8
 rw [Nat.zero_add] at this
 exact this
theorem onceB_of {b s : Int} {l : List IT} (h : itemsR b s l = true) : onceB l = true:=by
 simp only [itemsR,Bool.and_eq_true] at h;exact h.2
theorem Hm_HF {v : VOL} (hr : rightV v = true) (h8 : byW v.ws) (hl : v.ws.length≤1000000) : ∀ m,m≤v.ws.length→HF m v.size (Hm v m)
 | 0,_=>by
  have : Hm v 0 = List.replicate v.blocks.toNat []:=by simp [Hm,hAll]
  rw [this]
  exact ⟨fun h hh=>by rw [List.eq_of_mem_replicate hh];rfl,fun h hh y hy=>(by rw [List.eq_of_mem_replicate hh] at hy;cases hy),fun h hh y hy=>(by rw [List.eq_of_mem_replicate hh] at hy;cases hy)⟩
 | m + 1,hm=>by
  have ih:=Hm_HF hr h8 hl m (by omega)
  obtain ⟨a1,a2⟩:=ws_at hr (show m < v.ws.length by omega)
  have a3:=itemsR_mem a2
  obtain ⟨r1,_⟩:=rightV_iff.1 hr
  obtain ⟨_,s2,_⟩:=shape_lims r1
  rw [Hm_succ v m (by omega)]
  refine HF.items a1 (by omega) _ _ (ih.mono (Nat.le_succ m)) (fun x hx=>by have:=a3 x hx;rw [Hm_len];omega) (onceB_of a2) (fun x hx b hb _ y hy=>?_) (fun x hx=>(a3 x hx).2.2) (h8 _ (List.getElem_mem _))
  have:=ih.t _ (List.getElem_mem hb) y hy
  omega

end Go.Abs

namespace Go.Abs
open Go Go.Proofs
set_option maxRecDepth 100000
set_option linter.unusedSimpArgs false
set_option maxHeartbeats 8000000

theorem pushW_fold {mark first count : Int} {w : WR} {H : List (List IT)} : (pushW first count w).foldl (applyW mark) H = (pushItems first count w.its).foldl (applyI mark w.s) H:=by
 unfold pushW
 split
 ·rename_i h
  have : pushItems first count w.its = []:=by cases hp : pushItems first count w.its with
   | nil=>rfl
   | cons a b=>rw [hp] at h;simp at h
  rw [this];rfl
 ·rfl
theorem pushWs_cons (first count : Int) (w : WR) (l : List WR) : pushWs first count (w :: l) = pushW first count w ++ pushWs first count l:=rfl
theorem pushWs_app (first count : Int) (l m : List WR) : pushWs first count (l ++ m) = pushWs first count l ++ pushWs first count m:=by simp [pushWs]
theorem pushWs_skip {mark first count : Int} : ∀ (l : List WR) (H : List (List IT)),(∀ w ∈ l,w.s≤mark)→(pushWs first count l).foldl (applyW mark) H = H
 | [],H,_=>rfl
 | w :: l,H,h=>by
  rw [pushWs_cons,List.foldl_append,pushW_fold,applyI_no (by have:=h w (by simp);omega)]
  exact pushWs_skip l H fun x hx=>h x (by simp [hx])

theorem pushWs_range {v : VOL} (hr : rightV v = true) (h8 : byW v.ws) (hl : v.ws.length≤1000000) {mark f : Int} {f0 c0 to : Nat} (hfc : f0 + c0≤v.blocks.toNat) (hto : to≤v.ws.length) : ∀ (d m : Nat),m + d = to→mark≤m→f≤m →
  (pushWs f0 c0 ((v.ws.take to).drop m)).foldl (applyW mark) ((sl3 f0 c0 (Hm v m)).map (pruneH f)) = (sl3 f0 c0 (Hm v to)).map (pruneH f)
 | 0,m,hm,_,_=>by
  have : (v.ws.take to).drop m = []:=List.drop_of_length_le (by simp;omega)
  rw [this,show m = to by omega];rfl
 | d + 1,m,hm,h1,h2=>by
  have hml : m < v.ws.length:=by omega
  have hmt : m < (v.ws.take to).length:=by simp;omega
  have hd : (v.ws.take to).drop m = v.ws[m] :: (v.ws.take to).drop (m + 1):=by rw [drop_get hmt];simp
  obtain ⟨a1,a2⟩:=ws_at hr hml
  have a3:=itemsR_mem a2
  have hH:=Hm_HF hr h8 hl m (by omega)
  rw [hd,pushWs_cons,List.foldl_append,pushW_fold,apply_items (m:=m) (by omega) (by omega) (by omega) (by omega) _ _ (by rw [Hm_len];exact hfc) (fun x hx=>by
   have:=a3 x hx
   rw [Hm_len]
   omega) (onceB_of a2) (fun x hx b hb _ y hy=>by have:=hH.t _ (List.getElem_mem hb) y hy;omega)]
  have hs : v.ws[m].its.foldl (hStep v.ws[m].s) (Hm v m) = Hm v (m + 1):=(Hm_succ v m hml).symm
  rw [hs]
  exact pushWs_range hr h8 hl hfc hto d (m + 1) (by omega) (by omega) (by omega)

theorem onceB_pw : ∀ {l : List IT},onceB l = true ↔ l.Pairwise fun x y=>y.b≠x.b
 | []=>by simp [onceB]
 | x :: l=>by
  simp only [onceB,Bool.and_eq_true,Bool.not_eq_true',List.pairwise_cons]
  rw [onceB_pw,Bool.eq_false_iff]
  constructor
  ·rintro ⟨h1,h2⟩
   exact ⟨fun y hy e=>h1 (List.any_eq_true.2 ⟨y,hy,by simpa using e⟩),h2⟩
  ·rintro ⟨h1,h2⟩
   refine ⟨fun h=>?_,h2⟩
   obtain ⟨y,hy,e⟩:=List.any_eq_true.1 h
   exact h1 y hy (by simpa using e)
theorem push_once {first count : Int} {l : List IT} (h : onceB l = true) : onceB (pushItems first count l) = true:=by
 rw [onceB_pw] at h ⊢
 unfold pushItems
 refine List.Pairwise.filter _ ?_
 rw [List.pairwise_map]
 refine h.imp fun hxy e=>hxy ?_
 simp only [shIt] at e
 omega
theorem push_items {blocks size first count : Int} {l : List IT} (h : itemsR blocks size l = true) (hne : ¬ (pushItems first count l).isEmpty = true) : itemsR count size (pushItems first count l) = true:=by
 have h1:=itemsR_len h
 have h2:=itemsR_mem h
 have h3:=pushItems_len first count l
 have h4:=push_once (first:=first) (count:=count) (onceB_of h)
 simp only [itemsR,Bool.and_eq_true,decide_eq_true_eq]
 refine ⟨⟨⟨?_,by omega⟩,?_⟩,h4⟩
 ·cases hp : pushItems first count l with
  | nil=>rw [hp] at hne;simp at hne
  | cons a b=>simp
 ·refine List.all_eq_true.2 fun x hx=>?_
  simp only [pushItems,List.mem_filter,List.mem_map] at hx
  obtain ⟨⟨y,hy,rfl⟩,hin⟩:=hx
  have:=h2 y hy
  simp only [inC,Bool.and_eq_true,decide_eq_true_eq] at hin
  simp only [itOk,Bool.and_eq_true,decide_eq_true_eq]
  exact ⟨hin,this.2.2⟩
theorem wsP_weak {count size to last last' : Int} (h : last≤last') : ∀ {l : List WR},wsP count size to last' l = true→wsP count size to last l = true
 | [],_=>rfl
 | w :: l,hw=>by
  simp only [wsP,Bool.and_eq_true,decide_eq_true_eq] at hw ⊢
  exact ⟨⟨⟨by omega,hw.1.1.2⟩,hw.1.2⟩,hw.2⟩
theorem push_wsP {v : VOL} (hr : rightV v = true) {first count : Int} {to : Nat} (hto : to≤v.ws.length) : ∀ (d m : Nat),m + d = to→wsP count v.size to m (pushWs first count ((v.ws.take to).drop m)) = true
 | 0,m,hm=>by
  have : (v.ws.take to).drop m = []:=List.drop_of_length_le (by simp;omega)
  rw [this];rfl
 | d + 1,m,hm=>by
  have hml : m < v.ws.length:=by omega
  have hmt : m < (v.ws.take to).length:=by simp;omega
  have hd : (v.ws.take to).drop m = v.ws[m] :: (v.ws.take to).drop (m + 1):=by rw [drop_get hmt];simp
  obtain ⟨a1,a2⟩:=ws_at hr hml
  have ih:=push_wsP hr (first:=first) (count:=count) hto d (m + 1) (by omega)
  rw [hd,pushWs_cons]
  unfold pushW
  split
  ·exact wsP_weak (by omega) ih
  ·rename_i hne
   simp only [List.cons_append,List.nil_append,wsP,Bool.and_eq_true,decide_eq_true_eq]
   refine ⟨⟨⟨by omega,by omega⟩,push_items a2 hne⟩,?_⟩
   rw [a1]
   exact ih

theorem kfacts {v : VOL} (hr : rightV v = true) {k : Int} (hk0 : 0≤k) (hk1 : k < v.place.length) : ∃ f0 c0 : Nat,k * v.per = f0∧min v.per (v.blocks - k * v.per) = c0∧countV v k = c0∧1≤c0∧c0≤256∧f0 + c0≤v.blocks.toNat∧k≤255∧(0≤v.id∧v.id≤7)∧(1≤v.size∧v.size≤32):=by
 obtain ⟨hs,hf0,hf1,hpins,hws⟩:=right_facts hr
 obtain ⟨g1,g2,g3,g4,g5,g6,g7,g8,g9,g10,g11,g12⟩:=shape_facts hs
 have hnp : k * v.per < v.blocks:=chunk_lt g7 g3 hk0 (by rw [← g9];exact hk1)
 have hnp0 : 0≤k * v.per:=Int.mul_nonneg hk0 (by omega)
 have hkk : k≤k * v.per:=by
  have:=Int.mul_le_mul_of_nonneg_left g7 hk0
  rw [Int.mul_one] at this
  exact this
 have hc : countV v k = min v.per (v.blocks - k * v.per):=by unfold countV;rw [if_neg (by omega)]
 refine ⟨(k * v.per).toNat,(min v.per (v.blocks - k * v.per)).toNat,by omega,by omega,by omega,by omega,by omega,by omega,by omega,by omega,by omega⟩

theorem push_right {v : VOL} (hr : rightV v = true) (hl : v.ws.length≤1000000) {k m : Int} (hk0 : 0≤k) (hk1 : k < v.place.length) (hm0 : 0≤m) (hm1 : m≤lenV v) : pushR (pushP v k m) = true:=by
 obtain ⟨f0,c0,a1,a2,a3,a4,a5,a6,a7,a8,a9⟩:=kfacts hr hk0 hk1
 obtain ⟨hs,hf0,hf1,hpins,hws⟩:=right_facts hr
 obtain ⟨n,rfl⟩ : ∃ n : Nat,m = n:=⟨m.toNat,by omega⟩
 obtain ⟨to,hto⟩ : ∃ to : Nat,pushTo v n = to:=⟨(pushTo v n).toNat,by unfold pushTo;omega⟩
 rw [a1] at a2
 have hto2 : to≤v.ws.length∧n≤to∧to≤n + 4:=by unfold pushTo lenV at hto;simp only [lenV] at hm1;omega
 have hw:=push_wsP hr (first:=f0) (count:=c0) hto2.1 (to - n) n (by omega)
 have hlen:=pushWs_len (f0 : Int) c0 ((v.ws.take to).drop n)
 simp only [List.length_drop,List.length_take] at hlen
 unfold pushR pushP
 simp only [hto,a1,a2,Int.toNat_natCast]
 simp only [shapeC,Bool.and_eq_true,inR_iff,decide_eq_true_eq]
 exact ⟨⟨⟨⟨⟨⟨⟨⟨by omega,by omega⟩,by omega⟩,by omega⟩,by omega⟩,by omega⟩,by omega⟩,by omega⟩,hw⟩

def chF (v : VOL) (k : Int) (m : Nat) (f : Int) : CH:=⟨v.id,k,countV v k,v.size,m,f,(sl3 (k * v.per).toNat (countV v k).toNat (Hm v m)).map (pruneH f)⟩

theorem chF_new {v : VOL} (hr : rightV v = true) {k m : Int} (hk0 : 0≤k) (hk1 : k < v.place.length) : newC (pushP v k m) = chF v k 0 0:=by
 obtain ⟨f0,c0,a1,a2,a3,a4,a5,a6,a7,a8,a9⟩:=kfacts hr hk0 hk1
 rw [a1] at a2
 unfold newC pushP chF
 simp only [a1,a2,a3,Int.toNat_natCast]
 have h1 : (min (max (c0 : Int) 0) 256).toNat = c0:=by omega
 have h2 : Hm v 0 = List.replicate v.blocks.toNat []:=by simp [Hm,hAll]
 rw [h1,h2]
 congr 1
 unfold sl3
 rw [List.drop_replicate,List.take_replicate,List.map_replicate]
 congr 1
 omega

theorem apply_chF {v : VOL} (hr : rightV v = true) (h8 : byW v.ws) (hl : v.ws.length≤1000000) {k m' f : Int} {m : Nat} (hk0 : 0≤k) (hk1 : k < v.place.length) (hm : m≤v.ws.length) (h0 : 0≤m') (h1 : m'≤m) (hf0 : 0≤f) (hf : f≤m) :
  applyC (chF v k m f) (pushP v k m') = chF v k (max m (pushTo v m').toNat) (max f (min v.floor (pushTo v m'))):=by
 obtain ⟨f0,c0,a1,a2,a3,a4,a5,a6,a7,a8,a9⟩:=kfacts hr hk0 hk1
 have hpr:=push_right hr hl hk0 hk1 h0 (by unfold lenV;omega)
 have hok : applyOk (chF v k m f) (pushP v k m') = true:=by
  simp only [applyOk,Bool.and_eq_true,decide_eq_true_eq]
  refine ⟨⟨⟨⟨⟨hpr,rfl⟩,rfl⟩,?_⟩,rfl⟩,h1⟩
  simp only [pushP,chF]
  rw [a2,a3]
 obtain ⟨n,rfl⟩ : ∃ n : Nat,m' = n:=⟨m'.toNat,by omega⟩
 obtain ⟨to,hto⟩ : ∃ to : Nat,pushTo v n = to:=⟨(pushTo v n).toNat,by unfold pushTo lenV;omega⟩
 rw [a1] at a2
 have hto2 : to≤v.ws.length∧n≤to∧to≤n + 4:=by unfold pushTo lenV at hto;omega
 unfold applyC
 rw [if_pos hok]
 unfold pushP chF
 simp only [hto,a1,a2,a3,Int.toNat_natCast]
 obtain ⟨g,hg⟩ : ∃ g,g = max f (min v.floor (to : Int)):=⟨_,rfl⟩
 rw [← hg]
 have hmx : max (m : Int) (to : Int) = ((max m to : Nat) : Int):=by omega
 rw [hmx]
 congr 1
 have key : (pushWs f0 c0 ((v.ws.take to).drop n)).foldl (applyW m) ((sl3 f0 c0 (Hm v m)).map (pruneH f)) = (sl3 f0 c0 (Hm v (max m to))).map (pruneH f):=by
  have hskip : ∀ j,j≤m→∀ w ∈ (v.ws.take j).drop n,w.s≤(m : Int):=fun j hj w hw=>by
   obtain ⟨i,hi,rfl⟩:=List.getElem_of_mem (List.mem_of_mem_drop hw)
   have hi2 : i < v.ws.length:=by simp at hi;omega
   have hi3 : i < j:=by simp at hi;omega
   rw [List.getElem_take]
   have:=(ws_at hr hi2).1
   omega
  rcases Nat.le_total to m with hc | hc
  ·rw [pushWs_skip _ _ (hskip to hc),show max m to = m by omega]
  ·have e : (v.ws.take to).drop n = (v.ws.take m).drop n ++ (v.ws.take to).drop m:=by
    have e1 : v.ws.take to = v.ws.take m ++ (v.ws.take to).drop m:=by
     have:=List.take_append_drop m (v.ws.take to)
     rw [List.take_take,show min m to = m by omega] at this
     exact this.symm
    have hnl : n≤(v.ws.take m).length:=by simp;omega
    conv=>lhs;rw [e1]
    rw [List.drop_append_of_le_length hnl]
   rw [e,pushWs_app,List.foldl_append,pushWs_skip _ _ (hskip m (Nat.le_refl _)),show max m to = to by omega]
   exact pushWs_range hr h8 hl a6 hto2.1 (to - m) m (by omega) (Int.le_refl _) hf
 rw [key,List.map_map]
 refine List.map_congr_left fun h hh=>?_
 have hH:=Hm_HF hr h8 hl (max m to) (by omega)
 exact pruneH_two (by omega) (histR_rise (hH.r h (List.mem_of_mem_drop (List.mem_of_mem_take hh))))
end Go.Abs

namespace Go.Abs
open Go Go.Proofs
set_option maxRecDepth 100000
set_option linter.unusedSimpArgs false
set_option maxHeartbeats 8000000

theorem pushItems_mem {first count : Int} {l : List IT} (h : byI l) : byI (pushItems first count l):=by
 intro x hx
 simp only [pushItems,List.mem_filter,List.mem_map] at hx
 obtain ⟨⟨y,hy,rfl⟩,_⟩:=hx
 exact h y hy
theorem pushWs_mem {first count : Int} {l : List WR} {w : WR} (h : w ∈ pushWs first count l) : ∃ x ∈ l,w = ⟨x.s,pushItems first count x.its⟩:=by
 simp only [pushWs,List.mem_flatMap] at h
 obtain ⟨x,hx,h⟩:=h
 refine ⟨x,hx,?_⟩
 unfold pushW at h
 split at h
 ·cases h
 ·simpa using h
theorem pushV_ok {v : VOL} {n : Nat} (hg : Vgood v n) (hn : n≤50000) (k m : Int) : (pushV v k m).1.ws.length≤1000000∧(∀ w ∈ (pushV v k m).1.ws,w.its.length≤1000000)∧byW (pushV v k m).1.ws:=by
 unfold pushV
 split
 ·simp only [pushP]
  have hsub : ∀ {w : WR},w ∈ (v.ws.take (pushTo v m).toNat).drop m.toNat→w ∈ v.ws:=fun h=>List.mem_of_mem_take (List.mem_of_mem_drop h)
  obtain ⟨_,_,_,hok⟩:=hg.ok hn
  refine ⟨?_,fun w hw=>?_,fun w hw=>?_⟩
  ·have h1:=pushWs_len (k * v.per) (min v.per (v.blocks - k * v.per)) ((v.ws.take (pushTo v m).toNat).drop m.toNat)
   have h2:=hg.ws
   simp only [List.length_drop,List.length_take] at h1
   omega
  ·obtain ⟨x,hx,rfl⟩:=pushWs_mem hw
   have h1:=pushItems_len (k * v.per) (min v.per (v.blocks - k * v.per)) x.its
   have h2:=(hok x (hsub hx)).1
   show (pushItems _ _ x.its).length≤_
   omega
  ·obtain ⟨x,hx,rfl⟩:=pushWs_mem hw
   exact pushItems_mem (hg.by8 x (hsub hx))
 ·refine ⟨by simp,?_,?_⟩ <;> (intro w hw;cases hw)
theorem mem_sl3 {first cnt : Nat} {H : List (List IT)} {h : List IT} (hh : h ∈ sl3 first cnt H) : h ∈ H:=List.mem_of_mem_drop (List.mem_of_mem_take hh)
theorem chF_len {v : VOL} (hr : rightV v = true) {k : Int} (hk0 : 0≤k) (hk1 : k < v.place.length) {m : Nat} {f : Int} : (chF v k m f).hist.length = (countV v k).toNat:=by
 obtain ⟨f0,c0,a1,a2,a3,a4,a5,a6,a7,a8,a9⟩:=kfacts hr hk0 hk1
 unfold chF
 simp only [List.length_map,a1,a3,Int.toNat_natCast]
 exact sl3_len (by rw [Hm_len];exact a6)
theorem chF_mem {v : VOL} (hr : rightV v = true) (h8 : byW v.ws) (hl : v.ws.length≤100000) {k : Int} (hk0 : 0≤k) (hk1 : k < v.place.length) {m : Nat} (hm : m≤v.ws.length) {f : Int} : ∀ h ∈ (chF v k m f).hist,histR h = true∧(∀ y ∈ h,y.b≤m∧(y.d.length : Int) = v.size∧∀ c ∈ y.d,c < 256)∧h.length≤m∧(pruneH f h).length = h.length:=by
 intro h hh
 obtain ⟨g,hg,rfl⟩:=List.mem_map.1 hh
 have hg:=mem_sl3 hg
 have hH:=Hm_HF hr h8 (by omega) m hm
 have h1:=hH.r g hg
 have h2:=histR_prune (f:=f) h1
 have h3 : ∀ y ∈ pruneH f g,y.b≤(m : Int):=fun y hy=>hH.t g hg y (pruneH_mem hy)
 have h4:=hst_len (p:=0) (m:=m) h2 h3 (by omega)
 exact ⟨h2,fun y hy=>⟨h3 y hy,hH.d g hg y (pruneH_mem hy)⟩,by omega,by rw [pruneH_two (Int.le_refl f) (histR_rise h1)]⟩
theorem chF_cok {v : VOL} (hr : rightV v = true) (h8 : byW v.ws) (hl : v.ws.length≤100000) {k : Int} (hk0 : 0≤k) (hk1 : k < v.place.length) {m : Nat} (hm : m≤v.ws.length) {f : Int} {n : Nat} (hn : m≤n) : Cok (chF v k m f) n:=by
 obtain ⟨f0,c0,a1,a2,a3,a4,a5,a6,a7,a8,a9⟩:=kfacts hr hk0 hk1
 have hL:=chF_len hr hk0 hk1 (m:=m) (f:=f)
 have hc : (chF v k m f).count = countV v k:=rfl
 refine ⟨by rw [hL,hc];omega,by rw [hc];omega,fun h hh=>?_⟩
 obtain ⟨b1,b2,b3,b4⟩:=chF_mem hr h8 hl hk0 hk1 hm h hh
 exact ⟨b1,by omega,fun x hx=>⟨by have:=(b2 x hx).2.1;omega,(b2 x hx).2.2⟩⟩
theorem chF_csm {v : VOL} (hr : rightV v = true) (h8 : byW v.ws) (hl : v.ws.length≤100000) {k : Int} (hk0 : 0≤k) (hk1 : k < v.place.length) {m : Nat} (hm : m≤v.ws.length) {f : Int} : Csm (chF v k m f):=by
 obtain ⟨f0,c0,a1,a2,a3,a4,a5,a6,a7,a8,a9⟩:=kfacts hr hk0 hk1
 have hL:=chF_len hr hk0 hk1 (m:=m) (f:=f)
 refine ⟨by rw [hL];omega,fun h hh=>?_⟩
 obtain ⟨b1,b2,b3,b4⟩:=chF_mem hr h8 hl hk0 hk1 hm h hh
 exact ⟨by omega,fun x hx=>by have:=(b2 x hx).2.1;omega⟩
theorem chF_rise {v : VOL} (hr : rightV v = true) (h8 : byW v.ws) (hl : v.ws.length≤100000) {k : Int} (hk0 : 0≤k) (hk1 : k < v.place.length) {m : Nat} (hm : m≤v.ws.length) {f : Int} : ∀ h ∈ (chF v k m f).hist,rise h:=fun h hh=>histR_rise (chF_mem hr h8 hl hk0 hk1 hm h hh).1
theorem chF_right {v : VOL} (hr : rightV v = true) (h8 : byW v.ws) (hl : v.ws.length≤100000) {k : Int} (hk0 : 0≤k) (hk1 : k < v.place.length) {m : Nat} (hm : m≤v.ws.length) {f : Int} (hf0 : 0≤f) (hf : f≤m) : rightC (chF v k m f) = true:=by
 obtain ⟨f0,c0,a1,a2,a3,a4,a5,a6,a7,a8,a9⟩:=kfacts hr hk0 hk1
 have hL:=chF_len hr hk0 hk1 (m:=m) (f:=f)
 simp only [rightC,shapeC,Bool.and_eq_true,inR_iff,decide_eq_true_eq]
 have hc : (chF v k m f).count = countV v k:=rfl
 have hmk : (chF v k m f).mark = m:=rfl
 have hfl : (chF v k m f).floor = f:=rfl
 have hsz : (chF v k m f).size = v.size:=rfl
 have hvl : (chF v k m f).vol = v.id:=rfl
 have hch : (chF v k m f).chunk = k:=rfl
 refine ⟨⟨⟨⟨⟨⟨⟨by omega,by omega⟩,by omega⟩,by omega⟩,by omega⟩,by omega⟩,by omega⟩,List.all_eq_true.2 fun h hh=>?_⟩
 obtain ⟨b1,b2,b3,b4⟩:=chF_mem hr h8 hl hk0 hk1 hm h hh
 simp only [hOk,Bool.and_eq_true,decide_eq_true_eq,List.all_eq_true]
 exact ⟨⟨b1,by rw [hfl];exact b4⟩,fun x hx=>⟨by have:=(b2 x hx).1;omega,by have:=(b2 x hx).2.1;omega⟩⟩

theorem atF_prune {size : Nat} {f t : Int} (hft : f≤t) {h : List IT} (hr : rise h) : atF size t (pruneH f h) = atF size t h:=by
 have a:=behN_mono hft hr
 have b:=behN_le t h
 obtain ⟨k,hk⟩ : ∃ k,k = behN f h - 1:=⟨_,rfl⟩
 have e : behN t (h.drop k) = behN t h - k:=by
  refine behN_eq (by simp;omega) (fun i hi h1=>?_) fun i hi h2=>?_
  ·rw [List.getElem_drop];exact behN_lt t h _ _ (by omega)
  ·rw [List.getElem_drop];exact behN_ge t h hr _ _ (by omega)
 have ek : pruneH f h = h.drop k:=by unfold pruneH;rw [hk]
 rw [ek]
 unfold atF
 rw [e]
 by_cases h0 : 0 < behN t h
 ·rw [if_pos (by omega),if_pos h0]
  have e2 : (h.drop k).take (behN t h - k) = (h.take (behN t h)).drop k:=by rw [List.drop_take]
  rw [e2,List.getLast?_drop,if_neg (by simp;omega)]
 ·rw [if_neg (by omega),if_neg h0]

theorem wsR_take {b s : Int} : ∀ {l : List WR} {i : Nat} (k : Nat),wsR b s i l = true→wsR b s i (l.take k) = true
 | [],_,k,_=>by simp [wsR]
 | w :: l,i,0,_=>rfl
 | w :: l,i,k + 1,h=>by
  simp only [wsR,Bool.and_eq_true,List.take_succ_cons] at h ⊢
  exact ⟨h.1,wsR_take k h.2⟩
theorem Hm_bod {v : VOL} (hr : rightV v = true) {m : Nat} {t : Int} (ht : t≤m) : (Hm v m).map (atF v.size.toNat t) = bodV v t:=by
 obtain ⟨r1,r2,r3,r4,r5,r6,r7,r8⟩:=rightV_iff.1 hr
 obtain ⟨s1,s2,s3,s4,s5,s6,s7⟩:=shape_lims r1
 have h:=hWs_at (size:=v.size.toNat) (t:=t) (n:=v.blocks.toNat) (by omega) (v.ws.take m) 0 (List.replicate v.blocks.toNat []) (wsR_take m r8) (by simp) (fun h hh=>by rw [List.eq_of_mem_replicate hh];intro y hy;cases hy)
 show ((v.ws.take m).foldl hW _).map _ = _
 rw [h,List.take_take]
 unfold bodV zB
 rw [show min (t - ((0 : Nat) : Int)).toNat m = t.toNat by omega]
 simp [atF_nil]
theorem chF_read {v : VOL} (hr : rightV v = true) (h8 : byW v.ws) (hl : v.ws.length≤100000) {k : Int} (hk0 : 0≤k) (hk1 : k < v.place.length) {m : Nat} (hm : m≤v.ws.length) {f t : Int} (hft : f≤t) (htm : t≤m) {b : Nat} (hb : (b : Int) < countV v k) :
  ∃ h : (k * v.per).toNat + b < (bodV v t).length,rdC (chF v k m f) b t = ((bodV v t)[(k * v.per).toNat + b],0):=by
 obtain ⟨f0,c0,a1,a2,a3,a4,a5,a6,a7,a8,a9⟩:=kfacts hr hk0 hk1
 have hL:=chF_len hr hk0 hk1 (m:=m) (f:=f)
 have hB:=Hm_bod hr htm
 have hbl : (bodV v t).length = v.blocks.toNat:=bodV_len v t
 have hi : f0 + b < v.blocks.toNat:=by omega
 have hH:=Hm_HF hr h8 (by omega) m hm
 refine ⟨by rw [a1,Int.toNat_natCast,hbl];exact hi,?_⟩
 unfold rdC
 have hc : (chF v k m f).count = countV v k:=rfl
 have hmk : (chF v k m f).mark = m:=rfl
 have hfl : (chF v k m f).floor = f:=rfl
 have hsz : (chF v k m f).size = v.size:=rfl
 rw [if_neg (by omega),if_neg (by omega),if_neg (by omega)]
 have hil : f0 + b < (Hm v m).length:=by rw [Hm_len];exact hi
 have hg : (chF v k m f).hist.getD ((b : Nat) : Int).toNat [] = pruneH f ((Hm v m)[f0 + b]):=by
  have hbc : b < c0:=by omega
  have e : (chF v k m f).hist = (sl3 f0 c0 (Hm v m)).map (pruneH f):=by unfold chF;simp only [a1,a3,Int.toNat_natCast]
  have hll : b < (sl3 f0 c0 (Hm v m)).length:=by rw [sl3_len (by rw [Hm_len];exact a6)];exact hbc
  rw [e,Int.toNat_natCast,List.getD_eq_getElem?_getD,List.getElem?_eq_getElem (by simpa using hll),Option.getD_some,List.getElem_map,sl3_get (by rw [Hm_len];exact a6) hbc]
 rw [hg,hsz,atF_prune hft (histR_rise (hH.r _ (List.getElem_mem hil)))]
 congr 1
 have : (bodV v t)[(k * v.per).toNat + b]? = some (atF v.size.toNat t (Hm v m)[f0 + b]):=by
  rw [← hB,a1,Int.toNat_natCast,List.getElem?_map,List.getElem?_eq_getElem hil];rfl
 exact (List.getElem?_eq_some_iff.1 this).2.symm

def chG (v : VOL) (k : Int) (m : Nat) : CH:=chF v k m (min v.floor m)
theorem chG_next {v : VOL} (hr : rightV v = true) (h8 : byW v.ws) (hl : v.ws.length≤1000000) {k : Int} (hk0 : 0≤k) (hk1 : k < v.place.length) {m : Nat} (hm : m≤v.ws.length) : applyC (chG v k m) (pushP v k m) = chG v k (min (m + 4) v.ws.length):=by
 obtain ⟨r1,r2,r3,r4,r5,r6,r7,r8⟩:=rightV_iff.1 hr
 unfold chG
 rw [apply_chF hr h8 hl hk0 hk1 hm (by omega) (Int.le_refl _) (by omega) (by omega)]
 have e : pushTo v m = ((min (m + 4) v.ws.length : Nat) : Int):=by unfold pushTo lenV;omega
 rw [e]
 have e2 : max m ((min (m + 4) v.ws.length : Nat) : Int).toNat = min (m + 4) v.ws.length:=by omega
 rw [e2]
 congr 1
 omega

theorem pushV_yes {v : VOL} {k m : Int} (hk0 : 0≤k) (hk1 : k < v.place.length) (h0 : 0≤m) (h1 : m≤lenV v) : pushV v k m = (pushP v k m,true):=by
 unfold pushV pushOk
 rw [if_pos (by simp only [Bool.and_eq_true,decide_eq_true_eq];omega)]

end Go.Abs

namespace Go.Abs
open Go Go.Proofs
set_option maxRecDepth 100000
set_option linter.unusedSimpArgs false
set_option maxHeartbeats 8000000

theorem place_pos {v : VOL} (hr : rightV v = true) : 1≤v.place.length:=by
 obtain ⟨hs,_⟩:=right_facts hr
 obtain ⟨g1,g2,g3,g4,g5,g6,g7,g8,g9,g10,g11,g12⟩:=shape_facts hs
 unfold chunksN at g9
 rw [Int.tdiv_eq_ediv_of_nonneg (by omega)] at g9
 have : 1≤(v.blocks + v.per - 1) / v.per:=(Int.le_ediv_iff_mul_le (by omega)).2 (by omega)
 omega
def kN (v : VOL) (n : Nat) : Nat:=n % v.place.length
theorem kN_lt {v : VOL} (hr : rightV v = true) (n : Nat) : ((kN v n : Nat) : Int) < v.place.length:=by
 have:=Nat.mod_lt n (place_pos hr)
 unfold kN;omega

theorem chG_right {v : VOL} (hr : rightV v = true) (h8 : byW v.ws) (hl : v.ws.length≤100000) {k : Int} (hk0 : 0≤k) (hk1 : k < v.place.length) {m : Nat} (hm : m≤v.ws.length) : rightC (chG v k m) = true:=by
 obtain ⟨r1,r2,r3,r4,r5,r6,r7,r8⟩:=rightV_iff.1 hr
 exact chF_right hr h8 hl hk0 hk1 hm (by omega) (by omega)
theorem chG_read_con {v : VOL} (hr : rightV v = true) (h8 : byW v.ws) (hl : v.ws.length≤100000) {k : Int} (hk0 : 0≤k) (hk1 : k < v.place.length) {m : Nat} (hm : m≤v.ws.length) (b t : Int) : Con Try.prog 30 [.agg (chC (chG v k m)),I b,I t] [] (.tup [.c (.sl ((rdC (chG v k m) b t).1.map brow)),I (rdC (chG v k m) b t).2]) []:=by
 obtain ⟨f0,c0,a1,a2,a3,a4,a5,a6,a7,a8,a9⟩:=kfacts hr hk0 hk1
 exact chunk_Read_con (chG v k m) b t (chF_csm hr h8 hl hk0 hk1 hm).cin (chF_rise hr h8 hl hk0 hk1 hm) a9
theorem chG_right_con {v : VOL} (hr : rightV v = true) (h8 : byW v.ws) (hl : v.ws.length≤100000) {k : Int} (hk0 : 0≤k) (hk1 : k < v.place.length) {m : Nat} (hm : m≤v.ws.length) : Con Try.prog 25 [.agg (chC (chG v k m))] [] (B true) []:=by
 have:=chunk_Right_con (chG v k m) (chF_csm hr h8 hl hk0 hk1 hm).cin
 rw [chG_right hr h8 hl hk0 hk1 hm] at this
 exact this
theorem chG_push_ok {v : VOL} (hr : rightV v = true) (h8 : byW v.ws) (hl : v.ws.length≤100000) {k : Int} (hk0 : 0≤k) (hk1 : k < v.place.length) {m : Nat} (hm : m≤v.ws.length) {m' : Int} (h0 : 0≤m') (h1 : m'≤lenV v) (hg : Vgood v 50000) : Pok (pushP v k m')∧byW (pushP v k m').ws:=by
 obtain ⟨p1,p2,p3⟩:=pushV_ok hg (Nat.le_refl _) k m'
 rw [pushV_yes hk0 hk1 h0 h1] at p1 p2 p3
 refine ⟨⟨p1,fun w hw=>⟨p2 w hw,fun x hx=>?_⟩⟩,p3⟩
 have hpr:=push_right hr (by omega) hk0 hk1 h0 h1
 have:=itemsR_mem ((pushR_facts hpr).2.2.2.2 w hw).2.2 x hx
 have:=(pushR_facts hpr).1
 omega
theorem chG_apply_con {v : VOL} (hr : rightV v = true) (h8 : byW v.ws) (hl : v.ws.length≤100000) {k : Int} (hk0 : 0≤k) (hk1 : k < v.place.length) {m : Nat} (hm : m≤v.ws.length) (hg : Vgood v 50000) : Con Try.prog 19 [.agg (chC (chG v k m)),.agg (pushC (pushP v k m))] [] (.agg (chC (chG v k (min (m + 4) v.ws.length)))) []:=by
 obtain ⟨q1,q2⟩:=chG_push_ok hr h8 hl hk0 hk1 hm (m':=m) (by omega) (by unfold lenV;omega) hg
 have:=chunk_Apply_con (chG v k m) (pushP v k m) 100000 (by omega) (chF_cok hr h8 hl hk0 hk1 hm (by omega)) q1 q2
 rw [chG_next hr h8 (by omega) hk0 hk1 hm] at this
 exact this
theorem push_con {v : VOL} (hg : Vgood v 50000) {k m : Int} (hk0 : 0≤k) (hk1 : k < v.place.length) (h0 : 0≤m) (h1 : m≤lenV v) : Con Try.prog 27 [.agg (volC v),I k,I m] [] (.tup [.agg (pushC (pushP v k m)),B true]) []:=by
 have:=Push_con v k m (hg.ok (Nat.le_refl _)) hg.right
 rw [pushV_yes hk0 hk1 h0 h1] at this
 exact this

theorem ChunkStates_con (l : List Nat) (n : Nat) (h8 : ∀ c ∈ l,c < 256) (hn : n < 256) : Con Try.prog 5 [.c (.sl (l.map brow)),.c (.v (.int .u8 n))] [] (B true) []:=by
 refine C_mementolaw14_ChunkStates nl nl ?_
 simp only [cz,A_mementolaw14_ChunkStates,argL,objL,List.length_nil,Nat.zero_add,zX]
 refine aR 16 ?_
 refine aBs 64 (fun Q hQ=>by simp (disch:=intros;contradiction) only [zS,↓reduceIte];exact hQ) ?_
 refine rC [] (mementolaw14_known_con) ?_
 refine aE ?_
 refine aF ?_
 refine aS 128 (fun Q hQ=>by simp (disch:=intros;contradiction) only [zS,zW,simprocAttr];exact hQ) ?_
 refine aw_cond _ rfl trivial (fun ht=>?_) (fun hf=>?_)
 ·skip
  try simp at ht
  simp only [zX]
  refine aR 208 ?_
  refine Fin.b (.inr rfl) rfl trivial ?_
  rfl
 try simp at hf
 simp only [zX]
 have hl : l.length≤80:=by omega
 have cV:=Volume_con l h8 (by omega)
 have g0:=(seatV_good l).mono (show l.length / 4≤20 by omega)
 generalize seatV l = v at cV g0
 have hr:=g0.right
 have hg:=g0.mono (show 20≤50000 by omega)
 have hw8:=g0.by8
 have hwl:=g0.ws
 have hpp:=place_pos hr
 obtain ⟨r1,r2,r3,r4,r5,r6,r7,r8⟩:=rightV_iff.1 hr
 obtain ⟨k,hk⟩ : ∃ k,k = kN v n:=⟨_,rfl⟩
 have hk0 : (0 : Int)≤(k : Int):=by omega
 have hk1 : (k : Int) < v.place.length:=by rw [hk];exact kN_lt hr n
 have hkm : (n : Int) % (v.place.length : Int) = (k : Int):=by rw [hk];unfold kN;omega
 obtain ⟨f0,c0,a1,a2,a3,a4,a5,a6,a7,a8,a9⟩:=kfacts hr hk0 hk1
 obtain ⟨N,hN⟩ : ∃ N,N = v.ws.length:=⟨_,rfl⟩
 have hlen : lenV v = (N : Int):=by rw [hN];rfl
 have cP0:=push_con hg hk0 hk1 (show (0 : Int)≤0 by omega) (by omega)
 have cN:=chunk_New_con (pushP v k 0)
 have hN0 : newC (pushP v k 0) = chG v k 0:=by
  rw [chF_new hr hk0 hk1]
  unfold chG
  congr 1
  omega
 rw [hN0] at cN
 have cA0:=chG_apply_con hr hw8 (by omega) hk0 hk1 (m:=0) (by omega) hg
 simp only [Int.natCast_zero] at cA0
 have hPm : ∀ m : Nat,m≤N→Con Try.prog 27 [.agg (volC v),I k,I m] [] (.tup [.agg (pushC (pushP v k m)),B true]) []:=fun m hm=>push_con hg hk0 hk1 (by omega) (by omega)
 have hAm : ∀ m : Nat,m≤N→Con Try.prog 19 [.agg (chC (chG v k m)),.agg (pushC (pushP v k m))] [] (.agg (chC (chG v k (min (m + 4) N)))) []:=fun m hm=>by
  rw [hN];exact chG_apply_con hr hw8 (by omega) hk0 hk1 (by omega) hg
 rw [← hN] at cA0
 generalize pushP v k 0 = p0 at cP0 cN cA0
 refine aB 256 ?_
 refine rC [] (cV) ?_ (hs:=(by exact .inr ⟨volC_pure _,trivial⟩))
 refine aEs (fun Q hQ=>by simp (disch:=intros;contradiction) only [zS,vC_eq,simprocAttr];exact hQ) ?_
 refine aS 352 (fun Q hQ=>by simp (disch:=first | (intros;contradiction) | omega | (simp only [zN];omega)) only [zS,zW,hkm,simprocAttr];repeat refine ⟨by (omega),?_⟩;exact hQ) ?_
 refine aB 496 ?_
 refine rC [] (cP0) ?_ (hs:=(by exact .inr ⟨pushT_pure _ _,trivial⟩))
 refine aEs (fun Q hQ=>by simp (disch:=intros;contradiction) only [zS,pushC,puC,simprocAttr];exact hQ) ?_
 refine aBD 672 ?_
 refine rC [] (cN) ?_ (hs:=(by exact .inr ⟨chC_pure _,trivial⟩))
 refine aMs (fun Q hQ=>by simp (disch:=intros;contradiction) only [zS,chC,chO,simprocAttr];exact hQ) ?_
 refine rC [] (cA0) ?_ (hs:=(by exact .inr ⟨chC_pure _,trivial⟩))
 refine aEDs (fun Q hQ=>by simp (disch:=intros;contradiction) only [zS,chC,chO,simprocAttr];exact hQ) ?_
 refine aR 800 ?_
 refine aw_loopK (X:={ x : Nat × Nat × PU // x.1≤30∧x.2.1≤N∧min (4 * (x.1 + 1)) N≤x.2.1 }) [5,6,7,9] (fun x=>[(10,I x.1.1)]) [288] (fun x=>[(592,.box [.v (.int .i64 x.1.2.2.vol),.v (.int .i64 x.1.2.2.chunk),.v (.int .i64 x.1.2.2.count),.v (.int .i64 x.1.2.2.size),.v (.int .i64 x.1.2.2.frm),.v (.int .i64 x.1.2.2.to),.v (.int .i64 x.1.2.2.floor),.sl (x.1.2.2.ws.map wrow)]),(736,.box [.v (.int .i64 (chG v k x.1.2.1).vol),.v (.int .i64 (chG v k x.1.2.1).chunk),.v (.int .i64 (chG v k x.1.2.1).count),.v (.int .i64 (chG v k x.1.2.1).size),.v (.int .i64 (chG v k x.1.2.1).mark),.v (.int .i64 (chG v k x.1.2.1).floor),.sl ((chG v k x.1.2.1).hist.map hrow)])]) (fun x=>30 - x.1.1) (⟨(0,min (0 + 4) N,p0),by simp only;omega,by simp only;omega,by simp only;omega⟩) ?_ ?_
 ·skip
  simp only [keepS,keepE,Option.getD_some,lk_cons,lkE_cons,List.cons_append,List.nil_append,simprocAttr]
  refine Le.lit [] [] _ _ ?_ ?_ ?_ ?_
  ·simp only [zL,simprocAttr]
  ·simp only [zL,simprocAttr]
  ·simp [rlook]
  ·(simp;done)
 rintro ⟨⟨i,m,pp⟩,k1,k2,k3⟩
 simp only [keepS,keepE,Option.getD_some,lk_cons,lkE_cons,List.cons_append,List.nil_append,simprocAttr]
 simp only [zX]
 simp only at k1 k2 k3
 have hmk : (chG v k m).mark = (m : Int):=rfl
 refine aBDs 848 (fun Q hQ=>by simp (disch:=intros;contradiction) only [zS,hmk,simprocAttr];exact hQ) ?_
 refine rG _ _ (mementoref16_Len_con v) ?_
 refine aED ?_
 refine aw_cond _ rfl trivial (fun ht=>?_) (fun hf=>?_)
 rotate_left
 ·skip
  try simp at hf
  simp only [zX,↓reduceIte]
  have k4 : m = N:=by rw [hlen] at hf;omega
  subst k4
  have cR:=chG_right_con hr hw8 (by omega) hk0 hk1 (m:=m) (by omega)
  have hfl : (chG v k m).floor = v.floor:=by show min v.floor (m : Int) = v.floor;rw [hlen] at r6;omega
  have hcn : (chG v k m).count = (c0 : Int):=a3
  have hRd:=fun (b t : Int)=>chG_read_con hr hw8 (by omega) hk0 hk1 (m:=m) (by omega) b t
  have hrd:=fun (b : Nat) (t : Int) (h1 : v.floor≤t) (h2 : t≤m) (hb : b < c0)=>chF_read hr hw8 (by omega) hk0 hk1 (m:=m) (by omega) (f:=min v.floor m) (t:=t) (by omega) h2 (b:=b) (by omega)
  have hbl : ∀ t,(bodV v t).length = v.blocks.toNat:=bodV_len v
  have hb8 : ∀ t,R8 (bodV v t):=fun t=>bodV_8 t hw8
  have hS:=fun t=>refState_con v t ⟨50000,Nat.le_refl _,hg⟩
  have hcfl : (rdC (chG v k m) 0 ((m : Int) + 1)).2 = 32∧(rdC (chG v k m) 0 (v.floor - 1)).2 = 30:=by
   have hl2 : (chG v k m).hist.length = c0:=by
    show (chF v k m _).hist.length = c0
    rw [chF_len hr hk0 hk1,a3,Int.toNat_natCast]
   unfold rdC
   rw [hfl,hmk,hcn,hl2]
   rw [if_neg (by omega),if_neg (by omega),if_pos (by omega),if_neg (by omega),if_pos (by omega)]
   exact ⟨rfl,rfl⟩
  refine aBDs 1024 (fun Q hQ=>by simp (disch:=intros;contradiction) only [zS,hlen,simprocAttr];exact hQ) ?_
  refine rC [] (mementoref16_Len_con v) ?_
  refine aMs (fun Q hQ=>by simp (disch:=intros;contradiction) only [zS,hlen,simprocAttr];repeat refine ⟨by ((simp;done)),?_⟩;exact hQ) ?_
  refine rG _ _ (cR) ?_
  refine aEDs (fun Q hQ=>by simp (disch:=intros;contradiction) only [zS,simprocAttr];repeat refine ⟨by ((simp;done)),?_⟩;exact hQ) ?_
  refine aw_cond _ rfl trivial (fun ht=>by simp [hfl] at ht) (fun hf=>?_)
  simp only [zX]
  refine aR 1328 ?_
  have hflb : 0≤v.floor∧v.floor≤m:=by rw [hlen] at r6;omega
  have hblk : v.blocks.toNat≤256:=by
   obtain ⟨s1,s2,_⟩:=shape_lims r1
   omega
  have hk2 : IntKind.i64.wrap ((k : Int) * v.per) = (f0 : Int):=by rw [a1,w64 _ (by omega) (by omega)]
  refine aw_loopK (X:={ t : Int // v.floor≤t∧t≤m + 1 }) [5,6,9] (fun t=>[(11,I t.1)]) [288,736] (fun t=>[]) (fun t=>(m + 1 - t.1).toNat) (⟨v.floor,by omega,by omega⟩) ?_ ?_
  ·skip
   simp only [keepS,keepE,Option.getD_some,lk_cons,lkE_cons,List.cons_append,List.nil_append,simprocAttr]
   refine Le.lit [] [] _ _ ?_ ?_ ?_ ?_
   ·simp only [zL,simprocAttr]
   ·simp only [zL,simprocAttr]
   ·simp [rlook]
   ·(simp;done)
  rintro ⟨t,ht1,ht2⟩
  simp only [keepS,keepE,Option.getD_some,lk_cons,lkE_cons,List.cons_append,List.nil_append,simprocAttr]
  simp only [zX]
  refine aR 1408 ?_
  refine aw_cond _ rfl trivial (fun ht=>?_) (fun hf=>?_)
  ·skip
   try simp at ht
   simp only [zX]
   have htm : t≤m:=by omega
   have cS:=hS t
   have e1 : timeE v.floor t (lenV v) = 0:=timeE_of.2 ⟨ht1,by omega⟩
   have e2 : bodE v t = bodV v t:=by unfold bodE;rw [if_pos e1]
   rw [e1,e2] at cS
   have hB8:=hb8 t
   have hBl:=hbl t
   have hrdt:=fun (b : Nat) (hb : b < c0)=>hrd b t ht1 htm hb
   rw [a1,Int.toNat_natCast] at hrdt
   generalize bodV v t = S at cS hB8 hBl hrdt
   refine aB 1504 ?_
   refine rC [] (cS) ?_ (hs:=(by exact .inr ⟨pureTC,trivial⟩))
   refine aE ?_
   refine aR 1664 ?_
   refine aw_loopK (X:={ b : Nat // b≤c0 }) [5,6,9,11,12] (fun b=>[(14,I b.1)]) [288,736] (fun b=>[]) (fun b=>c0 - b.1) (⟨0,by omega⟩) ?_ ?_
   ·skip
    simp only [keepS,keepE,Option.getD_some,lk_cons,lkE_cons,List.cons_append,List.nil_append,simprocAttr]
    refine Le.lit [] [] _ _ ?_ ?_ ?_ ?_
    ·simp only [zL,simprocAttr]
    ·simp only [zL,simprocAttr]
    ·simp [rlook]
    ·(simp;done)
   rintro ⟨b,hb⟩
   simp only [keepS,keepE,Option.getD_some,lk_cons,lkE_cons,List.cons_append,List.nil_append,simprocAttr]
   simp only [zX]
   refine aR 1712 ?_
   refine aw_cond _ rfl trivial (fun ht=>?_) (fun hf=>?_)
   ·skip
    try simp at ht
    simp only [zX]
    have hbc : b < c0:=by rw [hcn] at ht;omega
    obtain ⟨hi,he⟩:=hrdt b hbc
    have cRd:=hRd b t
    rw [show rdC (chG v k m) b t = (S[f0 + b],0) from he] at cRd
    have hs:=str_eq S[f0 + b] S[f0 + b] (hB8 _ (List.getElem_mem hi)) (hB8 _ (List.getElem_mem hi))
    have hfb : (f0 : Int) + (b : Int) = ((f0 + b : Nat) : Int):=by omega
    refine aB 1808 ?_
    refine rC [] (cRd) ?_ (hs:=(by exact .inr ⟨pureTC,trivial⟩))
    refine aE ?_
    refine aw_draw 1984 (RG.go fun Q hQ=>?_)
    simp (disch:=first | (intros;contradiction) | omega | (simp only [zN];omega)) only [zS,zW,hk2,hfb,bodyR,simprocAttr]
    repeat refine ⟨by (first | omega | exact isByteRow_brow _),?_⟩
    refine hQ (RG.nil ⟨by decide +kernel,?_⟩)
    simp only [zX]
    refine aw_cond _ rfl trivial (fun ht=>by simp at ht) (fun hf=>?_)
    simp only [zX]
    refine aS 2288 (fun Q hQ=>by simp (disch:=first | (intros;contradiction) | omega | (simp only [zN];omega)) only [zS,zW,simprocAttr];exact hQ) ?_
    refine ⟨⟨b + 1,hbc⟩,?_,by first | omega | (simp only;omega)⟩
    refine Le.lit [] [] _ _ ?_ ?_ ?_ ?_
    ·simp only [zL,simprocAttr]
     all_goals (try ((repeat' (rfl))))
    ·simp only [zL,simprocAttr]
    ·simp [rlook]
    ·(simp;done)
   try simp at hf
   simp only [zX,↓reduceIte]
   refine aS 2368 (fun Q hQ=>by simp (disch:=first | (intros;contradiction) | omega | (simp only [zN];omega)) only [zS,zW,simprocAttr];exact hQ) ?_
   refine ⟨⟨t + 1,by omega,by omega⟩,?_,by first | omega | (simp only;omega)⟩
   refine Le.lit [] [] _ _ ?_ ?_ ?_ ?_
   ·simp only [zL,simprocAttr]
   ·simp only [zL,simprocAttr]
   ·simp [rlook]
   ·(simp;done)
  try simp at hf
  simp only [zX,↓reduceIte]
  refine aBs 2448 (fun Q hQ=>by simp (disch:=first | (intros;contradiction) | omega | (simp only [zN];omega)) only [zS,zW,simprocAttr];exact hQ) ?_
  refine rC [] (hRd 0 (m + 1)) ?_ (hs:=(by exact .inr ⟨pureTC,trivial⟩))
  refine aE ?_
  refine aBs 2640 (fun Q hQ=>by simp (disch:=first | (intros;contradiction) | omega | (simp only [zN];omega)) only [zS,zW,simprocAttr];exact hQ) ?_
  refine rC [] (hRd 0 ((chG v k m).floor - 1)) ?_ (hs:=(by exact .inr ⟨pureTC,trivial⟩))
  refine aE ?_
  refine aR 2832 ?_
  refine Fin.b (.inr rfl) rfl trivial ?_
  rw [hfl,hcfl.1,hcfl.2];rfl
 try simp at ht
 simp only [zX]
 have hlt : m < N:=by rw [hlen] at ht;omega
 have cPm:=hPm m k2
 have cAm:=hAm m k2
 generalize pushP v k m = pm at cPm cAm
 refine aB 2976 ?_
 refine rC [] (cPm) ?_ (hs:=(by exact .inr ⟨pushT_pure _ _,trivial⟩))
 refine aEs (fun Q hQ=>by simp (disch:=intros;contradiction) only [zS,pushC,puC,simprocAttr];exact hQ) ?_
 refine aB 3152 ?_
 refine rC [] (cAm) ?_ (hs:=(by exact .inr ⟨chC_pure _,trivial⟩))
 refine aEs (fun Q hQ=>by simp (disch:=intros;contradiction) only [zS,chC,chO,simprocAttr];exact hQ) ?_
 refine aS 3248 (fun Q hQ=>by simp (disch:=first | (intros;contradiction) | omega | (simp only [zN];omega)) only [zS,zW,simprocAttr];exact hQ) ?_
 refine ⟨⟨(i + 1,min (m + 4) N,pm),by simp only;omega,by simp only;omega,by simp only;omega⟩,?_,by first | omega | (simp only;omega)⟩
 refine Le.lit [] [] _ _ ?_ ?_ ?_ ?_
 ·simp only [zL,simprocAttr]
  all_goals (try ((repeat' (rfl))))
 ·simp only [zL,simprocAttr]
 ·simp [rlook]
 ·(simp;done)

theorem ChunkStates_law (l : List Nat) (hl : (∀ c ∈ l,c < 256)∧l.length≤9223372036854775807) (n : Nat) (hn : n < 256) :
  Con Try.prog 5 [.c (.sl (l.map brow)),.c (.v (.int .u8 n))] [] (B true) []:=ChunkStates_con l n hl.1 hn

end Go.Abs

