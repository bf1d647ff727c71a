/- What the functions that the law comes to do, part 2. No condition. -/
import Derived.Test.YtidooialknbgaaaCona
set_option linter.unusedVariables false
set_option linter.unusedSimpArgs false
set_option linter.unnecessarySimpa false
namespace Go.Abs
open Go Go.Proofs
set_option maxRecDepth 100000
set_option linter.unusedSimpArgs false
set_option maxHeartbeats 8000000

def m0 : MG:=⟨3,0,1,2,3,4,2,0,false,[],0,0,[],[],[],0,0,0,0⟩
theorem m0_right : rightM m0 = true:=by decide
theorem m0_ok : Mok m0:=⟨by decide,by decide,by decide,by decide,⟨by decide,by decide,by decide⟩⟩
theorem zeroM_ok : Mok zeroM:=⟨by decide,by decide,by decide,by decide,⟨by decide,by decide,by decide⟩⟩
theorem zeroM_right : rightM zeroM = false:=by decide
theorem putM_ok {m : MG} (h : rightM m = true) : putM m = (sealB (bodyM m),0):=by unfold putM;rw [if_pos h]
theorem putM_no {m : MG} (h : rightM m = false) : putM m = ([],23):=by unfold putM;rw [if_neg (by simp [h])]
theorem readM_nil (B : Nat→Nat) : readM B [] = (zeroM,24):=rfl
theorem rest_put {m : MG} (h : rightM m = true) (hb : byM m) : RestOk 1000000 (sealB (bodyM m)):=by
 refine ⟨seal_by (bodyM_by hb),?_⟩
 have:=bodyM_len (rightM_facts h)
 have F:=rightM_facts h
 have h1:=headM_len F
 have h2:=tailM_len F
 have h3:=esB_len m.es
 have h4:=midM_len m
 have h5:=F.es4
 have h6:=F.d
 have h7:=num7_len m.d.length (by omega)
 unfold sealB bodyM
 simp only [List.length_append,fourB_len];omega
theorem known10_con : Con Try.prog 4 [] [] (B true) []:=by
 have cP:=msg_Put_con m0 m0_ok
 rw [putM_ok m0_right] at cP
 have cR:=msg_Read_con _ (rest_put m0_right m0_ok.by')
 rw [readM_ok bP_wide m0_right] at cR
 have cN:=msg_Read_con [] ⟨by simp,by simp⟩
 rw [readM_nil] at cN
 have cZ:=msg_Put_con zeroM zeroM_ok
 rw [putM_no zeroM_right] at cZ
 have cS:=msg_Same_con m0 m0 m0_ok m0_ok
 have cD:=msg_Same_con m0 zeroM m0_ok zeroM_ok
 have cI:=msg_Right_con m0 m0_ok
 rw [m0_right] at cI
 rw [show decide (m0 = m0) = true from decide_eq_true rfl] at cS
 rw [show decide (m0 = zeroM) = false by decide] at cD
 refine C_mementolaw10_known nl nl ?_
 simp only [cz,A_mementolaw10_known,argL,objL,List.length_nil,zX]
 refine aR 16 ?_
 refine aR 64 ?_
 refine aB 144 ?_
 refine rC [] (cP) ?_ (hs:=(by exact .inr ⟨pureTC,trivial⟩))
 refine aEs (fun Q hQ=>by simp (disch:=intros;contradiction) only [zS,m0,simprocAttr];exact hQ) ?_
 refine aB 288 ?_
 refine rC [] (cR) ?_ (hs:=(by exact .inr ⟨msgT_pure _ _,trivial⟩))
 refine aEs (fun Q hQ=>by simp (disch:=intros;contradiction) only [zS,msgC,m0,simprocAttr];exact hQ) ?_
 refine aBs 448 (fun Q hQ=>by simp (disch:=intros;contradiction) only [zS,↓reduceIte];exact hQ) ?_
 refine rC [] (cN) ?_ (hs:=(by exact .inr ⟨msgT_pure _ _,trivial⟩))
 refine aEs (fun Q hQ=>by simp (disch:=intros;contradiction) only [zS,msgC,zeroM,simprocAttr];exact hQ) ?_
 refine aB 592 ?_
 refine rC [] (cZ) ?_ (hs:=(by exact .inr ⟨pureTC,trivial⟩))
 refine aE ?_
 refine aB 736 ?_
 refine rG _ _ (cS) ?_
 refine aM ?_
 refine rG _ _ (cD) ?_
 refine aM ?_
 refine rG _ _ (cI) ?_
 refine aE ?_
 exact Fin.scalar (.inr rfl) rfl trivial rfl trivial

structure LawM (m : MG) : Prop where
 ok : Mok m
 right : rightM m = true
 d0 : m.kind≠8→m.d = []
 t0 : m.kind = 8→m.term = 0
theorem lawM_of {m : MG} (hr : rightM m = true) (hes : m.es = []) (hc : m.bc.length≤12) (hbd : m.bd = []) (hd : m.d.length≤1) (h8 : ∀ c ∈ m.d,c < 256) (h1 : m.kind≠8→m.d = []) (h2 : m.kind = 8→m.term = 0) : LawM m :=
 ⟨⟨by rw [hes];simp,hc,by rw [hbd];simp,by omega,⟨by rw [hes];simp,by rw [hbd];simp,h8⟩⟩,hr,h1,h2⟩
theorem ents0 : entsR [] = true:=by decide
theorem lawM_A {k g f o t x y : Int} (hk : k = 1∨k = 3∨k = 5) (hg : 0≤g∧g≤7) (hf : 0≤f∧f≤6) (ho : 0≤o∧o≤6)(ht : 0≤t∧t≤1099511627776)(hx : 0≤x∧x≤1099511627776)(hy : 0≤y∧y≤1099511627776) : LawM ⟨k,g,f,o,t,x,y,0,false,[],0,0,[],[],[],0,0,0,0⟩:=by
 refine lawM_of ?_ rfl (by simp) rfl (by simp) (by simp) (fun _=>rfl) (fun h=>by simp at h;omega)
 rcases hk with rfl | rfl | rfl <;> exact rightM_of ⟨by simp,by simp,rfl,hg.1,hg.2,hf.1,hf.2,ho.1,ho.2,ht,hx,hy,⟨by simp,by simp⟩,⟨by simp,by simp⟩,⟨by simp,by simp⟩,ents0,by simp,.inl (by simp),by simp,by simp,by simp,by simp,by simp⟩
theorem lawM_B {k g f o t : Int} {ok : Bool} (hk : k = 2∨k = 4) (hg : 0≤g∧g≤7) (hf : 0≤f∧f≤6) (ho : 0≤o∧o≤6)(ht : 0≤t∧t≤1099511627776) : LawM ⟨k,g,f,o,t,0,0,0,ok,[],0,0,[],[],[],0,0,0,0⟩:=by
 refine lawM_of ?_ rfl (by simp) rfl (by simp) (by simp) (fun _=>rfl) (fun h=>by simp at h;omega)
 rcases hk with rfl | rfl <;> exact rightM_of ⟨by simp,by simp,rfl,hg.1,hg.2,hf.1,hf.2,ho.1,ho.2,ht,⟨by simp,by simp⟩,⟨by simp,by simp⟩,⟨by simp,by simp⟩,⟨by simp,by simp⟩,⟨by simp,by simp⟩,ents0,by simp,.inl (by simp),by simp,by simp,by simp,by simp,by simp⟩
theorem lawM_C {g f o t x : Int} {ok : Bool} (hg : 0≤g∧g≤7) (hf : 0≤f∧f≤6) (ho : 0≤o∧o≤6)(ht : 0≤t∧t≤1099511627776)(hx : 0≤x∧x≤1099511627776) : LawM ⟨6,g,f,o,t,x,0,0,ok,[],0,0,[],[],[],0,0,0,0⟩:=by
 refine lawM_of ?_ rfl (by simp) rfl (by simp) (by simp) (fun _=>rfl) (fun h=>by simp at h)
 exact rightM_of ⟨by simp,by simp,rfl,hg.1,hg.2,hf.1,hf.2,ho.1,ho.2,ht,hx,⟨by simp,by simp⟩,⟨by simp,by simp⟩,⟨by simp,by simp⟩,⟨by simp,by simp⟩,ents0,by simp,.inl (by simp),by simp,by simp,by simp,by simp,by simp⟩
theorem base06 {x t : Int} (hx : 0≤x∧x≤1099511627776) (ht : 0≤t∧t≤1099511627776) : baseRight x t [0,6] [] = true:=by
 unfold baseRight timeS
 rw [show rightS [0,6] = true by decide]
 simp;omega
theorem lawM_D {g f o t x : Int} (hg : 0≤g∧g≤7) (hf : 0≤f∧f≤6) (ho : 0≤o∧o≤6)(ht : 0≤t∧t≤1099511627776)(hx : 0≤x∧x≤1099511627776) : LawM ⟨7,g,f,o,t,0,0,0,false,[],x,t,[0,6],[],[],0,0,0,0⟩:=by
 refine lawM_of ?_ rfl (by simp) rfl (by simp) (by simp) (fun _=>rfl) (fun h=>by simp at h)
 exact rightM_of ⟨by simp,by simp,rfl,hg.1,hg.2,hf.1,hf.2,ho.1,ho.2,ht,⟨by simp,by simp⟩,⟨by simp,by simp⟩,⟨by simp,by simp⟩,⟨by simp,by simp⟩,⟨by simp,by simp⟩,ents0,by simp,.inr (base06 hx ht),by simp,by simp,by simp,by simp,by simp⟩
theorem lawM_E {g f o : Int} {e : Nat} (hg : 0≤g∧g≤7) (hf : 0≤f∧f≤6) (ho : 0≤o∧o≤6) (he : e < 256) : LawM ⟨8,g,f,o,0,0,0,0,false,[],0,0,[],[],[e],0,0,0,0⟩:=by
 refine lawM_of ?_ rfl (by simp) rfl (by simp) (by simp [he]) (fun h=>by first | rfl | (simp at h;done)) (fun _=>rfl)
 exact rightM_of ⟨by simp,by simp,rfl,hg.1,hg.2,hf.1,hf.2,ho.1,ho.2,⟨by simp,by simp⟩,⟨by simp,by simp⟩,⟨by simp,by simp⟩,⟨by simp,by simp⟩,⟨by simp,by simp⟩,⟨by simp,by simp⟩,ents0,by simp,.inl (by simp),by simp,by simp,by simp,by simp,by simp⟩
theorem lawM_F {g f o x t : Int} {e : Nat} (hg : 0≤g∧g≤7) (hf : 0≤f∧f≤6) (ho : 0≤o∧o≤6)(hx : 0≤x∧x≤1099511627776)(ht : 0≤t∧t≤1099511627776) (he : e < 256) : LawM ⟨9,g,f,o,0,0,0,0,false,[],0,0,[],[],[],g,e,x,t⟩:=by
 refine lawM_of ?_ rfl (by simp) rfl (by simp) (by simp) (fun _=>rfl) (fun h=>by simp at h)
 exact rightM_of ⟨by simp,by simp,rfl,hg.1,hg.2,hf.1,hf.2,ho.1,ho.2,⟨by simp,by simp⟩,⟨by simp,by simp⟩,⟨by simp,by simp⟩,⟨by simp,by simp⟩,hx,ht,ents0,by simp,.inl (by simp),by simp,hg.1,hg.2,by simp,by simp;omega⟩
theorem y8_not {m : MG} (h : LawM m) (hk : m.kind = 8) : rightM { m with term:=1 } = false∧m≠{ m with term:=1 }:=by
 constructor
 ·refine not_right fun F=>?_
  have:=congrArg MG.term F.only
  unfold onlyM hasL at this
  simp [hk,setF,baseM] at this
 ·intro e
  have:=congrArg MG.term e
  rw [h.t0 hk] at this
  simp at this
theorem yn_not {m : MG} (h : LawM m) (hk : m.kind≠8) : rightM { m with d:=[1] } = false∧m≠{ m with d:=[1] }:=by
 constructor
 ·refine not_right fun F=>?_
  have:=congrArg MG.d F.only
  unfold onlyM hasL at this
  simp only at this
  rw [if_neg hk] at this
  repeat' split at this
  all_goals simp [setF,baseM] at this
 ·intro e
  have:=congrArg MG.d e
  rw [h.d0 hk] at this
  simp at this
theorem y8_ok {m : MG} (h : Mok m) : Mok { m with term:=1 }:=⟨h.es,h.bc,h.bd,h.d,h.by'⟩
theorem yn_ok {m : MG} (h : Mok m) : Mok { m with d:=[1] }:=⟨h.es,h.bc,h.bd,by simp,⟨h.by'.1,h.by'.2.1,by simp⟩⟩
theorem MsgFields_con (kind grp frm to term idx : Nat) (ok : Bool) (ex : Nat) (h1 : kind < 256) (h2 : grp < 256) (h3 : frm < 256) (h4 : to < 256) (h5 : term < 4294967296) (h6 : idx < 4294967296) (h7 : ex < 256) :
  Con Try.prog 3 [.c (.v (.int .u8 kind)),.c (.v (.int .u8 grp)),.c (.v (.int .u8 frm)),.c (.v (.int .u8 to)),.c (.v (.int .u32 term)),.c (.v (.int .u32 idx)),B ok,.c (.v (.int .u8 ex))] [] (B true) []:=by
 refine C_mementolaw10_MsgFields nl nl ?_
 simp only [cz,A_mementolaw10_MsgFields,argL,objL,List.length_nil,Nat.zero_add,zX,simprocAttr]
 refine aR 16 ?_
 refine aBs 64 (fun Q hQ=>by simp (disch:=intros;contradiction) only [zS,↓reduceIte];exact hQ) ?_
 refine rC [] (known10_con) ?_
 refine aE ?_
 refine aF ?_
 have r1 : ((kind : Int).tmod 9) = ((kind % 9 : Nat) : Int):=(Int.ofNat_tmod kind 9).symm
 have r1e : ((kind : Int) % 9) = ((kind % 9 : Nat) : Int):=by omega
 have r2 : ((grp : Int).tmod 8) = ((grp % 8 : Nat) : Int):=(Int.ofNat_tmod grp 8).symm
 have r2e : ((grp : Int) % 8) = ((grp % 8 : Nat) : Int):=by omega
 have r3 : ((frm : Int).tmod 7) = ((frm % 7 : Nat) : Int):=(Int.ofNat_tmod frm 7).symm
 have r3e : ((frm : Int) % 7) = ((frm % 7 : Nat) : Int):=by omega
 have r4 : ((to : Int).tmod 7) = ((to % 7 : Nat) : Int):=(Int.ofNat_tmod to 7).symm
 have r4e : ((to : Int) % 7) = ((to % 7 : Nat) : Int):=by omega
 have b1 : kind % 9 < 9:=by omega
 have b2 : grp % 8 < 8:=by omega
 have b3 : frm % 7 < 7:=by omega
 have b4 : to % 7 < 7:=by omega
 generalize kind % 9 = k at r1 r1e b1
 generalize grp % 8 = g at r2 r2e b2
 generalize frm % 7 = f at r3 r3e b3
 generalize to % 7 = o at r4 r4e b4
 have hq : (term : Int).tdiv 2 = ((term / 2 : Nat) : Int):=rfl
 have hwt : IntKind.i64.wrap (term : Int) = term:=w_nat (by omega)
 have hwi : IntKind.i64.wrap (idx : Int) = idx:=w_nat (by omega)
 refine aw_reg 128 (RG.go fun Q hQ=>?_)
 simp (disch:=first | (intros;contradiction) | omega | (simp only [zN];omega)) only [zS,zW,r1e,r2e,r3e,r4e,simprocAttr]
 repeat refine ⟨by (omega),?_⟩
 refine hQ (RG.nil ?_)
 simp only [zY]
 refine aw_joinS (Y:={ p : Int // p = if k≤6 then (term : Int) else 0 }) [1,4,5,6,7,17] (fun p=>[]) [] (fun p=>[(352,.box [.v (.int .i64 ((k : Int) + 1)),.v (.int .i64 g),.v (.int .i64 f),.v (.int .i64 o),.v (.int .i64 p.1),.v (.int .i64 0),.v (.int .i64 0),.v (.int .i64 0),.v (.bool false),.v (.slice none 0 0),.v (.int .i64 0),.v (.int .i64 0),.v (.slice none 0 0),.v (.slice none 0 0),.v (.slice none 0 0),.v (.int .i64 0),.v (.int .i64 0),.v (.int .i64 0),.v (.int .i64 0)])]) (by (repeat' (exact cl_fin))) ?_ ?_
 ·skip
  simp only [zX]
  refine aR 416 ?_
  refine aw_cond _ rfl trivial (fun ht=>?_) (fun hf=>?_)
  ·skip
   try simp at ht
   refine aS 496 (fun Q hQ=>by simp (disch:=intros;contradiction) only [zS,hwt,simprocAttr];exact hQ) ?_
   refine ⟨⟨(term : Int),by rw [if_pos (by omega)]⟩,?_⟩
   simp only [keepS,keepE,lk_cons,List.cons_append,List.nil_append,simprocAttr]
   refine Le.lit [] [] _ _ ?_ ?_ ?_ ?_
   ·simp only [zL,simprocAttr]
   ·simp only [zL,↓reduceIte]
   ·simp [rlook]
   ·(simp;done)
  try simp at hf
  simp only [zX]
  refine ⟨⟨0,by rw [if_neg (by omega)]⟩,?_⟩
  simp only [keepS,keepE,lk_cons,List.cons_append,List.nil_append,simprocAttr]
  refine Le.lit [] [] _ _ ?_ ?_ ?_ ?_
  ·simp only [zL,simprocAttr]
  ·simp only [zL,↓reduceIte]
  ·simp [rlook]
  ·(simp;done)
 rintro ⟨tt,htt⟩
 simp only [keepS,keepE,lk_cons,List.cons_append,List.nil_append,simprocAttr]
 refine aw_joinS (Y:={ p : MG // LawM p }) [17] (fun p=>[]) [] (fun p=>[(352,.box [.v (.int .i64 p.1.kind),.v (.int .i64 p.1.grp),.v (.int .i64 p.1.frm),.v (.int .i64 p.1.to),.v (.int .i64 p.1.term),.v (.int .i64 p.1.idx),.v (.int .i64 p.1.lterm),.v (.int .i64 p.1.com),.v (.bool p.1.ok),.sl (p.1.es.map erow),.v (.int .i64 p.1.bi),.v (.int .i64 p.1.bt),.sl (p.1.bc.map nrow),.sl (p.1.bd.map brow),.sl (p.1.d.map brow),.v (.int .i64 p.1.vol),.v (.int .i64 p.1.chk),.v (.int .i64 p.1.mark),.v (.int .i64 p.1.floor)])]) (by (repeat' (exact cl_fin))) ?_ ?_
 ·skip
  simp only [zX]
  refine aR 592 ?_
  refine aR 656 ?_
  refine aw_cond _ rfl trivial (fun ht=>?_) (fun hf=>?_)
  ·skip
   try simp at ht
   simp only [zX]
   have htt' : tt = term:=by rw [htt,if_pos (by omega)]
   subst htt'
   refine aw_cond _ rfl trivial (fun ht=>?_) (fun hf=>by simp at hf;omega)
   refine aw_reg 720 (RG.go fun Q hQ=>?_)
   simp (disch:=first | (intros;contradiction) | omega | (simp only [zN];omega)) only [zS,zW,hwt,hwi,simprocAttr]
   repeat refine ⟨by (omega),?_⟩
   refine hQ (RG.nil ?_)
   simp only [zX]
   refine ⟨⟨⟨(k : Int) + 1,g,f,o,term,idx,((term / 2 : Nat) : Int),0,false,[],0,0,[],[],[],0,0,0,0⟩,lawM_A (by omega) ⟨by omega,by omega⟩ ⟨by omega,by omega⟩ ⟨by omega,by omega⟩ ⟨by omega,by omega⟩ ⟨by omega,by omega⟩ ⟨by omega,by omega⟩⟩,?_⟩
   simp only [keepS,keepE,lk_cons,List.cons_append,List.nil_append,simprocAttr]
   refine Le.lit [] [] _ _ ?_ ?_ ?_ ?_
   ·simp only [zL,simprocAttr]
   ·simp only [zL,↓reduceIte]
    all_goals (try ((repeat' (((simp [];done))))))
   ·simp [rlook]
   ·(simp;done)
  try simp at hf
  simp only [zX]
  refine aR 896 ?_
  refine aw_cond _ rfl trivial (fun ht=>?_) (fun hf=>?_)
  ·skip
   try simp at ht
   simp only [zX]
   have htt' : tt = term:=by rw [htt,if_pos (by omega)]
   subst htt'
   refine aw_cond _ rfl trivial (fun ht=>?_) (fun hf=>by simp at hf;omega)
   refine aw_reg 960 (RG.go fun Q hQ=>?_)
   simp (disch:=first | (intros;contradiction) | omega | (simp only [zN];omega)) only [zS,zW,hwt,hwi,simprocAttr]
   repeat refine ⟨by (omega),?_⟩
   refine hQ (RG.nil ?_)
   simp only [zX]
   refine ⟨⟨⟨(k : Int) + 1,g,f,o,term,idx,((term / 2 : Nat) : Int),0,false,[],0,0,[],[],[],0,0,0,0⟩,lawM_A (by omega) ⟨by omega,by omega⟩ ⟨by omega,by omega⟩ ⟨by omega,by omega⟩ ⟨by omega,by omega⟩ ⟨by omega,by omega⟩ ⟨by omega,by omega⟩⟩,?_⟩
   simp only [keepS,keepE,lk_cons,List.cons_append,List.nil_append,simprocAttr]
   refine Le.lit [] [] _ _ ?_ ?_ ?_ ?_
   ·simp only [zL,simprocAttr]
   ·simp only [zL,↓reduceIte]
    all_goals (try ((repeat' (((simp [];done))))))
   ·simp [rlook]
   ·(simp;done)
  try simp at hf
  refine aR 1136 ?_
  refine aw_cond _ rfl trivial (fun ht=>?_) (fun hf=>?_)
  ·skip
   try simp at ht
   have htt' : tt = term:=by rw [htt,if_pos (by omega)]
   subst htt'
   refine aw_reg 1200 (RG.go fun Q hQ=>?_)
   simp (disch:=first | (intros;contradiction) | omega | (simp only [zN];omega)) only [zS,zW,hwt,hwi,simprocAttr]
   repeat refine ⟨by (omega),?_⟩
   refine hQ (RG.nil ?_)
   simp only [zX]
   refine ⟨⟨⟨(k : Int) + 1,g,f,o,term,idx,((term / 2 : Nat) : Int),0,false,[],0,0,[],[],[],0,0,0,0⟩,lawM_A (by omega) ⟨by omega,by omega⟩ ⟨by omega,by omega⟩ ⟨by omega,by omega⟩ ⟨by omega,by omega⟩ ⟨by omega,by omega⟩ ⟨by omega,by omega⟩⟩,?_⟩
   simp only [keepS,keepE,lk_cons,List.cons_append,List.nil_append,simprocAttr]
   refine Le.lit [] [] _ _ ?_ ?_ ?_ ?_
   ·simp only [zL,simprocAttr]
   ·simp only [zL,↓reduceIte]
    all_goals (try ((repeat' (((simp [];done))))))
   ·simp [rlook]
   ·(simp;done)
  try simp at hf
  simp only [zX]
  refine aR 1376 ?_
  refine aw_cond _ rfl trivial (fun ht=>?_) (fun hf=>?_)
  ·skip
   try simp at ht
   simp only [zX]
   have htt' : tt = term:=by rw [htt,if_pos (by omega)]
   subst htt'
   refine aw_cond _ rfl trivial (fun ht=>?_) (fun hf=>by simp at hf;omega)
   refine aR 1440 ?_
   refine ⟨⟨⟨(k : Int) + 1,g,f,o,term,0,0,0,ok,[],0,0,[],[],[],0,0,0,0⟩,lawM_B (by omega) ⟨by omega,by omega⟩ ⟨by omega,by omega⟩ ⟨by omega,by omega⟩ ⟨by omega,by omega⟩⟩,?_⟩
   simp only [keepS,keepE,lk_cons,List.cons_append,List.nil_append,simprocAttr]
   refine Le.lit [] [] _ _ ?_ ?_ ?_ ?_
   ·simp only [zL,simprocAttr]
   ·simp only [zL,↓reduceIte]
   ·simp [rlook]
   ·(simp;done)
  try simp at hf
  refine aR 1520 ?_
  refine aw_cond _ rfl trivial (fun ht=>?_) (fun hf=>?_)
  ·skip
   try simp at ht
   have htt' : tt = term:=by rw [htt,if_pos (by omega)]
   subst htt'
   refine aR 1584 ?_
   refine ⟨⟨⟨(k : Int) + 1,g,f,o,term,0,0,0,ok,[],0,0,[],[],[],0,0,0,0⟩,lawM_B (by omega) ⟨by omega,by omega⟩ ⟨by omega,by omega⟩ ⟨by omega,by omega⟩ ⟨by omega,by omega⟩⟩,?_⟩
   simp only [keepS,keepE,lk_cons,List.cons_append,List.nil_append,simprocAttr]
   refine Le.lit [] [] _ _ ?_ ?_ ?_ ?_
   ·simp only [zL,simprocAttr]
   ·simp only [zL,↓reduceIte]
   ·simp [rlook]
   ·(simp;done)
  try simp at hf
  simp only [zX]
  refine aR 1664 ?_
  refine aw_cond _ rfl trivial (fun ht=>?_) (fun hf=>?_)
  ·skip
   try simp at ht
   have htt' : tt = term:=by rw [htt,if_pos (by omega)]
   subst htt'
   have hk6 : (k : Int) + 1 = 6:=by omega
   rw [hk6]
   refine aS 1728 (fun Q hQ=>by simp (disch:=intros;contradiction) only [zS,hwi,simprocAttr];exact hQ) ?_
   refine ⟨⟨⟨6,g,f,o,term,idx,0,0,ok,[],0,0,[],[],[],0,0,0,0⟩,lawM_C ⟨by omega,by omega⟩ ⟨by omega,by omega⟩ ⟨by omega,by omega⟩ ⟨by omega,by omega⟩ ⟨by omega,by omega⟩⟩,?_⟩
   simp only [keepS,keepE,lk_cons,List.cons_append,List.nil_append,simprocAttr]
   refine Le.lit [] [] _ _ ?_ ?_ ?_ ?_
   ·simp only [zL,simprocAttr]
   ·simp only [zL,↓reduceIte]
   ·simp [rlook]
   ·(simp;done)
  try simp at hf
  simp only [zX]
  refine aR 1872 ?_
  refine aw_cond _ rfl trivial (fun ht=>?_) (fun hf=>?_)
  ·skip
   try simp at ht
   have htt' : tt = term:=by rw [htt,if_pos (by omega)]
   subst htt'
   have hk7 : (k : Int) + 1 = 7:=by omega
   rw [hk7]
   refine aS 1936 (fun Q hQ=>by simp (disch:=intros;contradiction) only [zS,hwt,hwi,simprocAttr];exact hQ) ?_
   refine ⟨⟨⟨7,g,f,o,term,0,0,0,false,[],idx,term,[0,6],[],[],0,0,0,0⟩,lawM_D ⟨by omega,by omega⟩ ⟨by omega,by omega⟩ ⟨by omega,by omega⟩ ⟨by omega,by omega⟩ ⟨by omega,by omega⟩⟩,?_⟩
   simp only [keepS,keepE,lk_cons,List.cons_append,List.nil_append,simprocAttr]
   refine Le.lit [2000] [] _ _ ?_ ?_ ?_ ?_
   ·simp only [zL,simprocAttr]
   ·simp only [zL,simprocAttr]
    all_goals (exact ⟨⟨_,_,rfl⟩,drows_nrow [0,6]⟩;skip)
   ·simp [rlook]
   ·(simp;done)
  try simp at hf
  simp only [zX]
  refine aR 2096 ?_
  refine aw_cond _ rfl trivial (fun ht=>?_) (fun hf=>?_)
  ·skip
   try simp at ht
   have htt' : tt = 0:=by rw [htt,if_neg (by omega)]
   subst htt'
   have hk8 : (k : Int) + 1 = 8:=by omega
   rw [hk8]
   refine aR 2160 ?_
   refine ⟨⟨⟨8,g,f,o,0,0,0,0,false,[],0,0,[],[],[ex],0,0,0,0⟩,lawM_E ⟨by omega,by omega⟩ ⟨by omega,by omega⟩ ⟨by omega,by omega⟩ h7⟩,?_⟩
   simp only [keepS,keepE,lk_cons,List.cons_append,List.nil_append,simprocAttr]
   refine Le.lit [2176] [] _ _ ?_ ?_ ?_ ?_
   ·simp only [zL,simprocAttr]
   ·simp only [zL,simprocAttr]
    all_goals (try ((repeat' (((simp [brow,C.isD];done))))))
   ·simp [rlook]
   ·(simp;done)
  try simp at hf
  simp only [zX]
  refine aR 2256 ?_
  refine aw_cond _ rfl trivial (fun ht=>?_) (fun hf=>?_)
  ·skip
   try simp at ht
   have htt' : tt = 0:=by rw [htt,if_neg (by omega)]
   subst htt'
   have hk9 : (k : Int) + 1 = 9:=by omega
   rw [hk9]
   refine aw_reg 2320 (RG.go fun Q hQ=>?_)
   simp (disch:=first | (intros;contradiction) | omega | (simp only [zN];omega)) only [zS,zW,r2e,hwt,hwi,simprocAttr]
   repeat refine ⟨by (omega),?_⟩
   refine hQ (RG.nil ?_)
   simp only [zX]
   refine ⟨⟨⟨9,g,f,o,0,0,0,0,false,[],0,0,[],[],[],g,ex,idx,term⟩,lawM_F ⟨by omega,by omega⟩ ⟨by omega,by omega⟩ ⟨by omega,by omega⟩ ⟨by omega,by omega⟩ ⟨by omega,by omega⟩ h7⟩,?_⟩
   simp only [keepS,keepE,lk_cons,List.cons_append,List.nil_append,simprocAttr]
   refine Le.lit [] [] _ _ ?_ ?_ ?_ ?_
   ·simp only [zL,simprocAttr]
   ·simp only [zL,↓reduceIte]
   ·simp [rlook]
   ·(simp;done)
  try simp at hf
  simp only [zX]
  omega
 rintro ⟨m,hm⟩
 simp only [keepS,keepE,lk_cons,List.cons_append,List.nil_append,simprocAttr]
 simp only [zX]
 have cP:=msg_Put_con m hm.ok
 rw [putM_ok hm.right] at cP
 have cR:=msg_Read_con _ (rest_put hm.right hm.ok.by')
 rw [readM_ok bP_wide hm.right] at cR
 have cS:=msg_Same_con m m hm.ok hm.ok
 rw [decide_eq_true (show m = m from rfl)] at cS
 refine aB 2624 ?_
 refine rC [] (cP) ?_ (hs:=(by exact .inr ⟨pureTC,trivial⟩))
 refine aE ?_
 refine aB 2768 ?_
 refine rC [] (cR) ?_ (hs:=(by exact .inr ⟨msgT_pure _ _,trivial⟩))
 refine aEs (fun Q hQ=>by simp (disch:=intros;contradiction) only [zS,simprocAttr];repeat refine ⟨by ((simp;done)),?_⟩;exact hQ) ?_
 refine aBs 2928 (fun Q hQ=>by simp (disch:=intros;contradiction) only [zS,zW,simprocAttr];repeat refine ⟨by ((simp;done)),?_⟩;exact hQ) ?_
 refine rG _ _ (cS) ?_
 refine aE ?_
 refine aF ?_
 refine aR 3152 ?_
 by_cases hk : m.kind = 8
 ·skip
  have hkb : (m.kind == 8) = true:=by rw [hk];rfl
  have cY:=msg_Put_con _ (y8_ok hm.ok)
  rw [putM_no (y8_not hm hk).1] at cY
  have cI:=msg_Right_con _ (y8_ok hm.ok)
  rw [(y8_not hm hk).1] at cI
  have cD:=msg_Same_con m _ hm.ok (y8_ok hm.ok)
  rw [decide_eq_false (y8_not hm hk).2] at cD
  refine aS 3232 (fun Q hQ=>by simp (disch:=intros;contradiction) only [zS,hkb,simprocAttr];exact hQ) ?_
  refine aw_cond _ rfl trivial (fun ht=>?_) (fun hf=>by cases hf)
  refine aR 3312 ?_
  refine aB 3376 ?_
  refine rC [] (cY) ?_ (hs:=(by exact .inr ⟨pureTC,trivial⟩))
  refine aE ?_
  refine aB 3520 ?_
  refine rG _ _ (cI) ?_
  refine aM ?_
  refine rG _ _ (cD) ?_
  refine aE ?_
  exact Fin.scalar (.inr rfl) rfl trivial rfl trivial
 have hkb : (m.kind == 8) = false:=by simpa using hk
 have cY:=msg_Put_con _ (yn_ok hm.ok)
 rw [putM_no (yn_not hm hk).1] at cY
 have cI:=msg_Right_con _ (yn_ok hm.ok)
 rw [(yn_not hm hk).1] at cI
 have cD:=msg_Same_con m _ hm.ok (yn_ok hm.ok)
 rw [decide_eq_false (yn_not hm hk).2] at cD
 refine aS 3776 (fun Q hQ=>by simp (disch:=intros;contradiction) only [zS,hkb,simprocAttr];exact hQ) ?_
 refine aw_cond _ rfl trivial (fun ht=>by cases ht) (fun hf=>?_)
 refine aR 3856 ?_
 refine awp_pre [(17,.c (.bp 352 0)),(22,.c (.bp 3168 0))] [(352,.box [.v (.int .i64 m.kind),.v (.int .i64 m.grp),.v (.int .i64 m.frm),.v (.int .i64 m.to),.v (.int .i64 m.term),.v (.int .i64 m.idx),.v (.int .i64 m.lterm),.v (.int .i64 m.com),.v (.bool m.ok),.sl (m.es.map erow),.v (.int .i64 m.bi),.v (.int .i64 m.bt),.sl (m.bc.map nrow),.sl (m.bd.map brow),.sl (m.d.map brow),.v (.int .i64 m.vol),.v (.int .i64 m.chk),.v (.int .i64 m.mark),.v (.int .i64 m.floor)]),(3168,.box [.v (.int .i64 m.kind),.v (.int .i64 m.grp),.v (.int .i64 m.frm),.v (.int .i64 m.to),.v (.int .i64 m.term),.v (.int .i64 m.idx),.v (.int .i64 m.lterm),.v (.int .i64 m.com),.v (.bool m.ok),.sl (m.es.map erow),.v (.int .i64 m.bi),.v (.int .i64 m.bt),.sl (m.bc.map nrow),.sl (m.bd.map brow),.sl ([1].map brow),.v (.int .i64 m.vol),.v (.int .i64 m.chk),.v (.int .i64 m.mark),.v (.int .i64 m.floor)])] ?_ ?_
 ·skip
  refine Le.lit [3856] [] _ _ ?_ ?_ ?_ ?_
  ·simp only [zL,simprocAttr]
  ·simp only [zL,simprocAttr]
   all_goals (exact ⟨⟨_,_,rfl⟩,drows_brow [1]⟩;skip)
  ·simp [rlook]
  ·(simp;done)
 refine aB 3936 ?_
 refine rC [] (cY) ?_ (hs:=(by exact .inr ⟨pureTC,trivial⟩))
 refine aE ?_
 refine aB 4080 ?_
 refine rG _ _ (cI) ?_
 refine aM ?_
 refine rG _ _ (cD) ?_
 refine aE ?_
 exact Fin.scalar (.inr rfl) rfl trivial rfl trivial

end Go.Abs

