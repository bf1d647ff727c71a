/- What the functions that the law comes to do, part 1. No condition. -/
import Derived.Test.YticoglgfoolppaaGreatCode
set_option linter.unusedVariables false
set_option linter.unusedSimpArgs false
set_option linter.unnecessarySimpa false
namespace Go.Abs
open Go Go.Proofs
set_option maxRecDepth 100000
set_option linter.unusedSimpArgs false

theorem slices_Clone_byte_byte_con (rows : List (List C)) (hd : isDRows rows) (h1 : ∀ r ∈ rows,r.length = 1) (hb : rows.length≤140737488355328) : Con Tryz.prog 97 [.c (.sl rows)] [] (.c (.osl 0)) [.arr 5 1 rows false]:=by
 by_cases hr : rows = []
 ·subst hr
  refine Con.split1 ?_ fun ad cap=>?_
  ·skip
   refine C_slices_Clone_byte_byte nl nl ?_
   simp only [cz,A_slices_Clone_byte_byte,argL,objL,List.length_nil,zX]
   refine aR 16 ?_
   refine aR 160 ?_
   refine aT ?_
   refine aR 320 ?_
   exact Fin.ownNil (.inr rfl) rfl trivial (by decide)
  ·skip
   refine C_slices_Clone_byte_byte nl nl ?_
   simp only [cz,A_slices_Clone_byte_byte,argL,objL,List.length_nil,zX]
   refine aR 16 ?_
   refine aR 160 ?_
   refine aF ?_
   refine aw_reg 320 (RG.go fun Q hQ=>?_)
   simp only [zS,simprocAttr]
   refine ⟨by simp,hQ (RG.nil ?_)⟩
   simp only [zX]
   refine Fin.objs [] [(0,352)] (.inr rfl) rfl trivial ?_ ?_ ?_ ?_
   ·skip
    simp only [zL,simprocAttr]
   ·skip
    simp only [zL,simprocAttr]
    simp
   ·simp [objL]
   ·simp
 ·skip
  refine C_slices_Clone_byte_byte nl nl ?_
  simp only [cz,A_slices_Clone_byte_byte,argL,objL,List.length_nil,zX]
  refine aR 16 ?_
  refine aw_reg 160 (RG.go fun Q hQ=>?_)
  simp only [zS,simprocAttr]
  refine ⟨hr,hQ (RG.nil ?_)⟩
  simp only [zX]
  refine aF ?_
  refine aw_reg 320 (RG.go fun Q hQ=>?_)
  simp only [zS,simprocAttr]
  refine ⟨⟨h1,by omega⟩,hQ (RG.nil ?_)⟩
  simp only [zX]
  refine Fin.objs [] [(0,352)] (.inr rfl) rfl trivial ?_ ?_ ?_ ?_
  ·skip
   simp only [zL,simprocAttr]
  ·skip
   simp only [zL,simprocAttr]
   exact hd
  ·simp [objL]
  ·simp


def rdN (i acc : Nat) : List Nat→Nat × Nat × Nat
 | []=>(0,0,21)
 | c :: r=>if i = 9∧1 < c then (0,0,20) else
  if 128≤c then rdN (i + 1) (acc + c % 128 * 128 ^ i) r
  else if 0 < i∧c = 0 then (0,0,20) else (acc + c % 128 * 128 ^ i,i + 1,0)

theorem andNot128 (c : Nat) (h : c < 256) : bitsI .andNot .u8 c 128 = ((c % 128 : Nat) : Int):=by
 have h1 : ∀ k : Fin 256,bitsI .andNot .u8 (k.val : Int) 128 = ((k.val % 128 : Nat) : Int):=by decide
 exact h1 ⟨c,h⟩

theorem orNum (i acc c : Nat) (hi : i≤9) (hacc : acc < 128 ^ i) (hc : c < 256) (h9 : i = 9→c≤1) :
  bitsI .or .u64 acc (IntKind.u64.wrap (IntKind.u64.wrap (bitsI .andNot .u8 c 128) * 2 ^ min (IntKind.i64.wrap (7 * i)).toNat IntKind.u64.bits)) = ((acc + c % 128 * 128 ^ i : Nat) : Int):=by
 have e1 : min (IntKind.i64.wrap (7 * (i : Int))).toNat IntKind.u64.bits = 7 * i:=by
  rw [w64 _ (by omega) (by omega)]
  have : IntKind.u64.bits = 64:=rfl
  omega
 have e3 : (128 : Nat) ^ i = 2 ^ (7 * i):=by rw [Nat.pow_mul]
 have hb : c % 128 * 128 ^ i < 9223372036854775808 * 2:=by
  rcases Nat.lt_or_ge i 9 with h | h
  ·have h1 : 128 ^ i≤128 ^ 8:=Nat.pow_le_pow_right (by omega) (by omega)
   have h2 : c % 128 * 128 ^ i≤127 * 128 ^ 8:=Nat.mul_le_mul (by omega) h1
   omega
  ·have : i = 9:=by omega
   subst this
   have:=h9 rfl
   have h2 : c % 128 * 128 ^ 9≤1 * 128 ^ 9:=Nat.mul_le_mul_right _ (by omega)
   omega
 have ha : acc < 18446744073709551616:=by
  have h1 : 128 ^ i≤128 ^ 9:=Nat.pow_le_pow_right (by omega) hi
  omega
 have e4 : IntKind.u64.wrap (((c % 128 : Nat) : Int)) = ((c % 128 : Nat) : Int):=by rw [w_u64];omega
 have e5 : (((c % 128 : Nat) : Int)) * 2 ^ (7 * i) = ((c % 128 * 128 ^ i : Nat) : Int):=by rw [e3];push_cast;rfl
 have e6 : IntKind.u64.wrap ((c % 128 * 128 ^ i : Nat) : Int) = ((c % 128 * 128 ^ i : Nat) : Int):=by rw [w_u64];omega
 rw [andNot128 c hc,e4,e1,e5,e6]
 show IntKind.u64.wrap ((BitVec.ofInt 64 (acc : Int) ||| BitVec.ofInt 64 ((c % 128 * 128 ^ i : Nat) : Int)).toNat : Int) = _
 have e7 : (BitVec.ofInt 64 (acc : Int) ||| BitVec.ofInt 64 ((c % 128 * 128 ^ i : Nat) : Int)).toNat = acc + c % 128 * 128 ^ i:=by
  rw [BitVec.ofInt_natCast,BitVec.ofInt_natCast,BitVec.toNat_or,BitVec.toNat_ofNat,BitVec.toNat_ofNat,Nat.mod_eq_of_lt (by omega),Nat.mod_eq_of_lt (by omega),Nat.or_comm]
  have h:=Nat.shiftLeft_add_eq_or_of_lt (b:=acc) (i:=7 * i) (by rw [← e3];exact hacc) (c % 128)
  rw [Nat.shiftLeft_eq,← e3] at h
  rw [← h,Nat.add_comm]
 rw [e7,w_u64]
 have hs : acc + c % 128 * 128 ^ i < 18446744073709551616:=by
  have h1 : acc + c % 128 * 128 ^ i < (c % 128 + 1) * 128 ^ i:=by rw [Nat.add_mul];omega
  rcases Nat.lt_or_ge i 9 with h | h
  ·have h1' : 128 ^ i≤128 ^ 8:=Nat.pow_le_pow_right (by omega) (by omega)
   have h2 : (c % 128 + 1) * 128 ^ i≤128 * 128 ^ 8:=Nat.mul_le_mul (by omega) h1'
   omega
  ·have : i = 9:=by omega
   subst this
   have:=h9 rfl
   have h2 : (c % 128 + 1) * 128 ^ 9≤2 * 128 ^ 9:=Nat.mul_le_mul_right _ (by omega)
   omega
 omega

abbrev Rd (l : List Nat) (e : Nat) : Ent:=.box [.sl (l.map brow),.v (.int .i64 e)]

def numR (most : Nat) (l : List Nat) (e : Nat) : Nat × List Nat × Nat :=
 if e≠0 then (0,l,e) else
 if (rdN 0 0 l).2.2≠0 then (0,[],(rdN 0 0 l).2.2) else
 if most < (rdN 0 0 l).1 then (0,[],22) else ((rdN 0 0 l).1,l.drop (rdN 0 0 l).2.1,0)

theorem numR_mem {most : Nat} {l : List Nat} {e : Nat} (hl : ∀ c ∈ l,c < 256) : ∀ c ∈ (numR most l e).2.1,c < 256:=by
 unfold numR
 split
 ·exact hl
 ·split
  ·simp
  ·split
   ·simp
   ·intro c hc;exact hl c (List.mem_of_mem_drop hc)

theorem numR_len {most : Nat} {l : List Nat} {e : Nat} : (numR most l e).2.1.length≤l.length:=by
 unfold numR
 split
 ·exact Nat.le_refl _
 ·split
  ·simp
  ·split
   ·simp
   ·simp

def lumpR (most : Nat) (l : List Nat) (e : Nat) : List Nat × List Nat × Nat :=
 if (numR most l e).2.2≠0 then ([],(numR most l e).2.1,(numR most l e).2.2) else
 if (numR most l e).2.1.length < (numR most l e).1 then ([],[],21) else ((numR most l e).2.1.take (numR most l e).1,(numR most l e).2.1.drop (numR most l e).1,0)

end Go.Abs

namespace Go.Abs
open Go Go.Proofs
set_option maxRecDepth 100000
set_option linter.unusedSimpArgs false

theorem mementoref1_Put_con (l : List Nat) (hb : l.length * 10≤140737488355328) (hl : ∀ n ∈ l,n < 18446744073709551616) : Con Tryz.prog 83 [.c (.sl (l.map urow))] [] (.c (.osl 0)) [.arr 5 1 ((putS l).map brow) false]:=by
 refine C_mementoref1_Put nl nl ?_
 simp only [cz,A_mementoref1_Put,argL,objL,List.length_nil,zX]
 refine aR 16 ?_
 refine aR 160 ?_
 refine aR 320 ?_
 refine aw_loop (X:={ i : Nat // i≤l.length }) (fun i=>mkSt [(3,.c (.osl 1000)),(0,.c (.sl (l.map urow))),(4,I i.1)] [(1000,.arr 5 1 ((putS (l.take i.1)).map brow) false)]) (fun i=>l.length - i.1) ⟨0,Nat.zero_le _⟩ ?_ ?_
 ·refine (Le.own 3 1000 5 1 rfl rfl (by decide)).trans (Le.lit [] [] _ _ ?_ ?_ ?_ ?_)
  ·skip
   simp only [zL,simprocAttr]
  ·skip
   simp only [zL,simprocAttr]
   simp [putS]
  ·simp
  ·simp
 rintro ⟨i,hi⟩
 simp only [zX]
 refine aR 480 ?_
 refine aw_cond _ rfl trivial (fun ht=>?_) (fun hf=>?_)
 rotate_left
 ·skip
  simp only [zX,↓reduceIte]
  refine aR 640 ?_
  have hi' : i = l.length:=by simp at hf;omega
  subst hi'
  refine Fin.objs [] [(0,1000)] (.inr rfl) rfl trivial ?_ ?_ ?_ ?_
  ·skip
   simp only [zL,simprocAttr]
  ·skip
   simp only [zL,simprocAttr]
   simp [brow,C.isD]
  ·simp [objL]
  ·simp
 have hi' : i < l.length:=by simp at ht;omega
 have hr : (List.map urow l)[(i : Int).toNat]?.getD [] = [.v (.int .u64 l[i])]:=by simp [hi',urow]
 simp only [zX]
 refine aw_reg 640 (RG.go fun Q hQ=>?_)
 simp only [zS,hr,simprocAttr]
 refine ⟨by simp;omega,hQ (RG.nil ?_)⟩
 simp only [zX]
 refine aw_loop (X:={ p : Nat × List Nat // p.2 ++ num7 p.1 = putS (l.take i) ++ num7 l[i]∧p.1 < 18446744073709551616 }) (fun p=>mkSt [(3,.c (.osl 1000)),(5,.c (.v (.int .u64 p.1.1))),(0,.c (.sl (l.map urow))),(4,I i)] [(1000,.arr 5 1 (p.1.2.map brow) false)]) (fun p=>p.1.1) ⟨(l[i],putS (l.take i)),rfl,hl _ (List.getElem_mem hi')⟩ ?_ ?_
 ·refine Le.lit [] [] _ _ ?_ ?_ ?_ ?_
  ·skip
   simp only [zL,simprocAttr]
  ·skip
   simp only [zL,simprocAttr]
   simp [brow,C.isD]
  ·simp
  ·simp
 rintro ⟨⟨n,acc⟩,hp,hn⟩
 simp only [zX]
 refine aR 800 ?_
 refine aw_cond _ rfl trivial (fun ht=>?_) (fun hf=>?_)
 ·have hn' : 128≤n:=by simp at ht;omega
  have hlen : acc.length + (num7 n).length≤l.length * 10:=by
   have h0:=putS_len (l.take (i + 1)) fun m hm=>hl m (List.mem_of_mem_take hm)
   rw [putS_take l i hi',← hp] at h0
   simp at h0
   omega
  have hpos:=num7_pos n
  simp only [zX]
  refine aw_reg 1200 (RG.go fun Q hQ=>?_)
  simp only [zS,simprocAttr]
  refine ⟨⟨by simp,by simp;omega⟩,hQ (RG.nil ?_)⟩
  simp only [zX]
  refine aR 1400 ?_
  refine ⟨⟨(n / 128,acc ++ [n % 128 + 128]),?_,by simp only;omega⟩,?_,by simp only;omega⟩
  ·have h7 : num7 n = (n % 128 + 128) :: num7 (n / 128):=by rw [num7,if_neg (by omega)]
   rw [← hp,h7]
   simp
  refine Le.lit [] [(1000,1280)] _ _ ?_ ?_ ?_ ?_
  ·skip
   simp only [zL,simprocAttr]
   rw [shr7]
  ·skip
   simp only [zL,simprocAttr]
   refine ⟨by simp [or128,brow],drows_brow _⟩
  ·simp
  ·simp
 have hn' : n < 128:=by simp at hf;omega
 have hlen : acc.length + (num7 n).length≤l.length * 10:=by
  have h0:=putS_len (l.take (i + 1)) fun m hm=>hl m (List.mem_of_mem_take hm)
  rw [putS_take l i hi',← hp] at h0
  simp at h0
  omega
 have hpos:=num7_pos n
 simp only [zX,↓reduceIte]
 refine aw_reg 1200 (RG.go fun Q hQ=>?_)
 simp only [zS,simprocAttr]
 refine ⟨⟨by simp,by simp;omega⟩,hQ (RG.nil ?_)⟩
 simp only [zX]
 refine aR 1400 ?_
 refine ⟨⟨i + 1,hi'⟩,?_,by simp;omega⟩
 refine Le.lit [] [(1000,1264)] _ _ ?_ ?_ ?_ ?_
 ·skip
  simp only [zL,simprocAttr]
  rw [w64 _ (by omega) (by omega)];rfl
 ·skip
  simp only [zL,simprocAttr]
  refine ⟨?_,drows_brow _⟩
  rw [putS_take l i hi',← hp,num7,if_pos hn',u8wrap n hn']
  simp [brow]
 ·simp
 ·simp

theorem mementoref1_Reader_fail_con (rows : List (List C)) (e x : Int) : Con Tryz.prog 106 [.c (.bp 0 0),I x] [.box [.sl rows,.v (.int .i64 e)]] (.tup []) [.box [.sl [],.v (.int .i64 x)]]:=by
 refine C_mementoref1_Reader_fail nl nl ?_
 simp only [cz,A_mementoref1_Reader_fail,argL,objL,List.length_nil,List.length_cons,Nat.zero_add]
 refine aw_reg 16 (RG.go fun Q hQ=>?_)
 simp only [zS,simprocAttr]
 refine hQ (RG.nil ?_)
 refine Fin.objs [] [] (.inl rfl) rfl trivial ?_ ?_ (by simp [objL,rlook]) (by simp [objL,rlook])
 ·skip
  simp only [zL]
 ·skip
  simp only [zL,↓reduceIte]

theorem mementoref1_Lump_con (l : List Nat) (hb : l.length≤100000000000000) : Con Tryz.prog 85 [.c (.sl (l.map brow))] [] (.c (.osl 0)) [.arr 5 1 ((num7 l.length ++ l).map brow) false]:=by
 have hw : IntKind.u64.wrap ((l.map brow).length : Int) = (l.length : Int):=by rw [w_u64,List.length_map];omega
 have hl:=num7_len l.length (by omega)
 refine C_mementoref1_Lump nl nl ?_
 simp only [cz,A_mementoref1_Lump,argL,objL,List.length_nil,zX]
 refine aR 16 ?_
 refine aBs 160 (fun Q hQ=>by simp only [zS,hw,simprocAttr];exact hQ) ?_
 refine RG.callo [] [208] (mementoref1_Put_con [l.length] (by simp) (by simp;omega)) (.mk (tr_cons (tr_view (by simp) rfl (by simp [isDRows,urow,C.isD])) tr_nil) (trivial) (by simp) (by simp) (views1 rfl trivial) (by simp [lkE_cons,lkE_nil]) (by simp only [List.mem_singleton,forall_eq,Ent.pure];exact drows_brow _) (by simp) (by simp)) ?_
 refine RG.go fun Q hQ=>?_
 simp only [zS,simprocAttr]
 have hp : putS [l.length] = num7 l.length:=by simp [putS]
 refine ⟨⟨by simp [brow],by simp [hp];omega⟩,hQ (RG.nil ?_)⟩
 simp only [zX]
 refine Fin.objs [] [(0,256)] (.inr rfl) rfl (by exact trivial) ?_ ?_ (by simp [objL,rlook]) (by (simp [objL,rlook];done))
 ·simp only [zL,simprocAttr]
 ·simp only [zL,simprocAttr]
  all_goals (exact ⟨by rw [hp,List.map_append],drows_brow _⟩)


theorem and127 (c : Nat) (h : c < 256) : bitsI .and .u8 c 127 = ((c % 128 : Nat) : Int):=by
 have h1 : ∀ k : Fin 256,bitsI .and .u8 (k.val : Int) 127 = ((k.val % 128 : Nat) : Int):=by decide
 exact h1 ⟨c,h⟩

theorem mementoref1_Reader_Num_con (l : List Nat) (e most : Nat) (hl : ∀ c ∈ l,c < 256) (hb : l.length≤140737488355328) : Con Tryz.prog 87 [.c (.bp 0 0),.c (.v (.int .u64 most))] [Rd l e] (.c (.v (.int .u64 (numR most l e).1))) [Rd (numR most l e).2.1 (numR most l e).2.2]:=by
 generalize hN : numR most l e = r
 unfold numR at hN
 refine C_mementoref1_Reader_Num nl nl ?_
 simp only [cz,A_mementoref1_Reader_Num,argL,objL,List.length_nil,List.length_cons,Nat.zero_add,zX]
 refine aR 16 ?_
 refine aR 160 ?_
 refine aw_cond _ rfl trivial (fun ht=>?_) (fun hf=>?_)
 ·skip
  simp only [zX]
  refine aR 320 ?_
  have he : e≠0:=by simp at ht;omega
  rw [if_pos he] at hN
  subst hN
  refine Fin.objs [] [] (.inr rfl) rfl (by exact trivial) ?_ ?_ (by simp [objL,rlook]) (by (simp [objL,rlook];done))
  ·simp only [zL,simprocAttr]
  ·simp only [zL,↓reduceIte]
 have he : e = 0:=by simp at hf;omega
 subst he
 rw [if_neg (by simp)] at hN
 simp only [zX]
 refine aR 400 ?_
 refine aR 480 ?_
 refine aw_loop (X:={ p : Nat × Nat // p.1≤l.length∧p.1≤9∧p.2 < 128 ^ p.1∧rdN p.1 p.2 (l.drop p.1) = rdN 0 0 l }) (fun p=>mkSt [(0,.c (.bp 0 0)),(1,.c (.v (.int .u64 most))),(5,.c (.v (.int .u64 p.1.2))),(6,I p.1.1)] [(0,Rd l 0)]) (fun p=>l.length - p.1.1) ⟨(0,0),by simp⟩ ?_ ?_
 ·refine Le.lit [] [] _ _ ?_ ?_ (by simp) (by simp [rlook])
  ·skip
   simp only [zL,simprocAttr]
  ·skip
   simp only [zL,↓reduceIte]
 rintro ⟨⟨i,acc⟩,hi,hi9,hacc,hrd⟩
 simp only at hi hi9 hacc hrd
 simp only [zX]
 refine aR 600 ?_
 refine aw_cond _ rfl trivial (fun ht=>?_) (fun hf=>?_)
 rotate_left
 ·skip
  simp only [zX,↓reduceIte]
  have hi' : i = l.length:=by simp at hf;omega
  rw [hi',List.drop_length,rdN] at hrd
  rw [← hrd] at hN
  subst hN
  refine aB 800 ?_
  refine rO [0] [] (mementoref1_Reader_fail_con (l.map brow) 0 21) ?_
  refine aE ?_
  refine aR 1000 ?_
  refine Fin.objs [] [] (.inr rfl) rfl (by exact trivial) ?_ ?_ (by simp [objL,rlook]) (by (simp [objL,rlook];done))
  ·simp only [zL,simprocAttr]
  ·simp only [zL,simprocAttr]
 have hi' : i < l.length:=by simp at ht;omega
 have hr : (List.map brow l)[(i : Int).toNat]?.getD [] = [.v (.int .u8 l[i])]:=by simp [hi',brow]
 have hc:=hl _ (List.getElem_mem hi')
 rw [List.drop_eq_getElem_cons hi',rdN] at hrd
 generalize l[i] = c at hr hc hrd
 simp only [zX]
 refine aw_reg 800 (RG.go fun Q hQ=>?_)
 simp only [zS,hr,simprocAttr]
 refine ⟨by simp;omega,hQ (RG.nil ?_)⟩
 simp only [zX]
 refine aR 1000 ?_
 refine aw_cond _ rfl trivial (fun ht2=>?_) (fun hf2=>?_)
 ·have hcc : i = 9∧1 < c:=by simp at ht2;omega
  rw [if_pos hcc] at hrd
  rw [← hrd] at hN
  subst hN
  simp only [zX]
  refine aB 1200 ?_
  refine rO [0] [] (mementoref1_Reader_fail_con (l.map brow) 0 20) ?_
  refine aE ?_
  refine aR 1400 ?_
  refine Fin.objs [] [] (.inr rfl) rfl (by exact trivial) ?_ ?_ (by simp [objL,rlook]) (by (simp [objL,rlook];done))
  ·simp only [zL,simprocAttr]
  ·simp only [zL,simprocAttr]
 have hcc : ¬ (i = 9∧1 < c):=by simp at hf2;omega
 rw [if_neg hcc] at hrd
 have hor:=orNum i acc c hi9 hacc hc (by omega)
 rw [andNot128 c hc] at hor
 have h127:=and127 c hc
 simp only [zX]
 refine aw_reg 1200 (RG.go fun Q hQ=>?_)
 simp only [zS,h127,hor,simprocAttr]
 refine ⟨by rw [w64 _ (by omega) (by omega)];omega,hQ (RG.nil ?_)⟩
 simp only [zX]
 refine aR 1400 ?_
 refine aw_cond _ rfl trivial (fun ht3=>?_) (fun hf3=>?_)
 rotate_left
 ·have hc3 : 128≤c:=by simp at hf3;omega
  rw [if_pos hc3] at hrd
  simp only [zX]
  refine aR 1600 ?_
  refine ⟨⟨(i + 1,acc + c % 128 * 128 ^ i),by simp only;omega,by simp only;omega,?_,hrd⟩,?_,by simp only;omega⟩
  ·simp only
   have h1 : c % 128≤127:=by omega
   have h2:=Nat.mul_le_mul_right (128 ^ i) h1
   have h3 : 128 ^ (i + 1) = 128 * 128 ^ i:=by rw [Nat.pow_succ,Nat.mul_comm]
   omega
  ·refine Le.lit [] [] _ _ ?_ ?_ (by simp) (by simp [rlook])
   ·skip
    simp only [zL,simprocAttr]
    rw [w64 _ (by omega) (by omega)];rfl
   ·skip
    simp only [zL,↓reduceIte]
 have hc3 : ¬ 128≤c:=by simp at ht3;omega
 rw [if_neg hc3] at hrd
 simp only [zX]
 refine aR 1600 ?_
 refine aw_cond _ rfl trivial (fun ht4=>?_) (fun hf4=>?_)
 ·have hc4 : 0 < i∧c = 0:=by simp at ht4;omega
  rw [if_pos hc4] at hrd
  rw [← hrd] at hN
  subst hN
  simp only [zX]
  refine aB 1800 ?_
  refine rO [0] [] (mementoref1_Reader_fail_con (l.map brow) 0 20) ?_
  refine aE ?_
  refine aR 2000 ?_
  refine Fin.objs [] [] (.inr rfl) rfl (by exact trivial) ?_ ?_ (by simp [objL,rlook]) (by (simp [objL,rlook];done))
  ·simp only [zL,simprocAttr]
  ·simp only [zL,simprocAttr]
 have hc4 : ¬ (0 < i∧c = 0):=by simp at hf4;omega
 rw [if_neg hc4] at hrd
 rw [← hrd] at hN
 simp only [ne_eq,not_true_eq_false,if_false] at hN
 simp only [zX]
 refine aR 1800 ?_
 refine aw_cond _ rfl trivial (fun ht5=>?_) (fun hf5=>?_)
 ·have hm : most < acc + c % 128 * 128 ^ i:=by simp only [decide_eq_true_eq] at ht5;omega
  rw [if_pos hm] at hN
  subst hN
  simp only [zX]
  refine aB 2000 ?_
  refine rO [0] [] (mementoref1_Reader_fail_con (l.map brow) 0 22) ?_
  refine aE ?_
  refine aR 2200 ?_
  refine Fin.objs [] [] (.inr rfl) rfl (by exact trivial) ?_ ?_ (by simp [objL,rlook]) (by (simp [objL,rlook];done))
  ·simp only [zL,simprocAttr]
  ·simp only [zL,↓reduceIte]
 have hm : ¬ most < acc + c % 128 * 128 ^ i:=by simp only [decide_eq_false_iff_not] at hf5;omega
 rw [if_neg hm] at hN
 subst hN
 have hwi : IntKind.i64.wrap ((i : Int) + 1) = ((i + 1 : Nat) : Int):=by rw [w64 _ (by omega) (by omega)];rfl
 have hd : ((l.map brow).take ((l.map brow).length : Int).toNat).drop ((i + 1 : Nat) : Int).toNat = (l.drop (i + 1)).map brow:=by rw [Int.toNat_natCast,Int.toNat_natCast,List.take_of_length_le (Nat.le_refl _),List.map_drop]
 simp only [zX]
 refine aw_reg 2000 (RG.go fun Q hQ=>?_)
 simp only [zS,hwi,hd,simprocAttr]
 refine ⟨⟨by omega,by simp;omega,by simp,brow_len _⟩,hQ (RG.nil ?_)⟩
 simp only [zX]
 refine aR 2200 ?_
 refine Fin.objs [] [] (.inr rfl) rfl (by exact trivial) ?_ ?_ (by simp [objL,rlook]) (by (simp [objL,rlook];done))
 ·simp only [zL,simprocAttr]
 ·simp only [zL,↓reduceIte]

theorem mementoref1_Reader_Lump_con (l : List Nat) (e most : Nat) (hl : ∀ c ∈ l,c < 256) (hb : l.length≤140737488355328) (hm : most < 9223372036854775808) :
  Con Tryz.prog 107 [.c (.bp 0 0),I most] [Rd l e] (.c (.sl ((lumpR most l e).1.map brow))) [Rd (lumpR most l e).2.1 (lumpR most l e).2.2]:=by
 have hw : IntKind.u64.wrap (most : Int) = (most : Int):=by rw [w_u64];omega
 have hmx : (if (0 : Int) > (most : Int) then (0 : Int) else (most : Int)) = (most : Int):=by split <;> omega
 have hlen:=numR_len (most:=most) (l:=l) (e:=e)
 have hnum:=mementoref1_Reader_Num_con l e most hl hb
 generalize hN : lumpR most l e = r
 unfold lumpR at hN
 generalize numR most l e = q at hN hlen hnum
 obtain ⟨n,l',e'⟩:=q
 simp only at hN hlen hnum
 have hw2 : IntKind.u64.wrap ((l'.map brow).length : Int) = (l'.length : Int):=by rw [w_u64,List.length_map];omega
 refine C_mementoref1_Reader_Lump nl nl ?_
 simp only [cz,A_mementoref1_Reader_Lump,argL,objL,List.length_nil,List.length_cons,Nat.zero_add,zX]
 refine aR 16 ?_
 refine aBs 160 (fun Q hQ=>by simp only [zS,foldMx,hmx,hw,simprocAttr];exact hQ) ?_
 refine rO [0] [] (hnum) ?_
 refine aE ?_
 refine aR 400 ?_
 refine aw_cond _ rfl trivial (fun ht=>?_) (fun hf=>?_)
 ·have he : e'≠0:=by simp at ht;omega
  rw [if_pos he] at hN
  subst hN
  simp only [zX]
  refine aR 600 ?_
  refine Fin.objs [] [] (.inr rfl) rfl (by exact trivial) ?_ ?_ (by simp [objL,rlook]) (by (simp [objL,rlook];done))
  ·simp only [zL,simprocAttr]
  ·simp only [zL,↓reduceIte]
 have he : e' = 0:=by simp at hf;omega
 subst he
 rw [if_neg (by simp)] at hN
 simp only [zX]
 refine aS 600 (fun Q hQ=>by simp only [zS,hw2,simprocAttr];exact hQ) ?_
 refine aw_cond _ rfl trivial (fun ht=>?_) (fun hf=>?_)
 ·have h2 : l'.length < n:=by simp at ht;omega
  rw [if_pos h2] at hN
  subst hN
  simp only [zX]
  refine aB 800 ?_
  refine rO [0] [] (mementoref1_Reader_fail_con (l'.map brow) 0 21) ?_
  refine aE ?_
  refine aR 1000 ?_
  refine Fin.objs [] [] (.inr rfl) rfl (by exact trivial) ?_ ?_ (by simp [objL,rlook]) (by (simp [objL,rlook];done))
  ·simp only [zL,simprocAttr]
  ·simp only [zL,↓reduceIte]
 have h2 : ¬ l'.length < n:=by simp at hf;omega
 rw [if_neg h2] at hN
 subst hN
 have ht1 : (l'.map brow).take (n : Int).toNat = (l'.take n).map brow:=by simp
 have ht2 : ((l'.map brow).take ((l'.map brow).length : Int).toNat).drop (n : Int).toNat = (l'.drop n).map brow:=by rw [Int.toNat_natCast,Int.toNat_natCast,List.take_of_length_le (Nat.le_refl _),List.map_drop]
 simp only [zX]
 refine aw_reg 800 (RG.go fun Q hQ=>?_)
 simp only [zS,ht1,simprocAttr]
 refine ⟨⟨by omega,by simp;omega,brow_len _⟩,hQ (RG.nil ?_)⟩
 simp only [zX]
 refine aw_reg 1200 (RG.go fun Q hQ=>?_)
 simp only [zS,ht2,simprocAttr]
 refine ⟨⟨by omega,by simp;omega,by simp,brow_len _⟩,hQ (RG.nil ?_)⟩
 simp only [zX]
 refine aR 1400 ?_
 refine Fin.objs [] [] (.inr rfl) rfl (by exact trivial) ?_ ?_ (by simp [objL,rlook]) (by (simp [objL,rlook];done))
 ·simp only [zL,simprocAttr]
 ·simp only [zL,↓reduceIte]

end Go.Abs

namespace Go.Abs
open Go Go.Proofs
set_option maxRecDepth 100000
set_option linter.unusedSimpArgs false

theorem toList_go (b : ByteArray) : ∀ (k i : Nat) (r : List UInt8),b.size - i = k→ByteArray.toList.loop b i r = r.reverse ++ b.data.toList.drop i
 | 0,i,r,h=>by
  rw [ByteArray.toList.loop,if_neg (by omega),List.drop_eq_nil_of_le (by have : b.data.toList.length = b.size:=rfl;omega)];simp
 | k + 1,i,r,h=>by
  have hi : i < b.size:=by omega
  rw [ByteArray.toList.loop,if_pos hi,toList_go b k (i + 1) _ (by omega)]
  have hi' : i < b.data.toList.length:=hi
  rw [List.drop_eq_getElem_cons hi',List.reverse_cons,List.append_assoc]
  congr 1
  have : b.get! i = b.data.toList[i]:=by
   have h2 : b.get! i = b.data[i]!:=rfl
   rw [h2,getElem!_pos b.data i hi];rfl
  rw [this];rfl

theorem ba_toList (b : ByteArray) : b.toList = b.data.toList:=by
 have:=toList_go b _ 0 [] rfl
 simpa [ByteArray.toList] using this

theorem rowByte_map (l : List Nat) : (l.map brow).map rowByte = l.map UInt8.ofNat:=by
 rw [List.map_map]
 refine List.map_congr_left fun n _=>?_
 simp [brow,rowByte]

theorem u8_inj {a b : Nat} (ha : a < 256) (hb : b < 256) (h : UInt8.ofNat a = UInt8.ofNat b) : a = b:=by
 have:=congrArg UInt8.toNat h
 simp at this
 omega

theorem map_u8_inj : ∀ {l m : List Nat},(∀ c ∈ l,c < 256)→(∀ c ∈ m,c < 256)→l.map UInt8.ofNat = m.map UInt8.ofNat→l = m
 | [],[],_,_,_=>rfl
 | a :: l,b :: m,hl,hm,h=>by
  simp only [List.map_cons,List.cons.injEq] at h
  rw [u8_inj (hl a (by simp)) (hm b (by simp)) h.1,map_u8_inj (fun c hc=>hl c (by simp [hc])) (fun c hc=>hm c (by simp [hc])) h.2]
 | [],_ :: _,_,_,h=>by simp at h
 | _ :: _,[],_,_,h=>by simp at h

theorem str_eq (l m : List Nat) (hl : ∀ c ∈ l,c < 256) (hm : ∀ c ∈ m,c < 256) :
  ((⟨((l.map brow).map rowByte).toArray⟩ : ByteArray).toList == (⟨((m.map brow).map rowByte).toArray⟩ : ByteArray).toList) = decide (l = m):=by
 rw [ba_toList,ba_toList,rowByte_map,rowByte_map]
 by_cases h : l = m
 ·subst h;simp
 ·have : l.map UInt8.ofNat≠m.map UInt8.ofNat:=fun hh=>h (map_u8_inj hl hm hh)
  simp [h,this]

theorem isByteRow_brow (l : List Nat) : ∀ r ∈ l.map brow,isByteRow r:=by
 intro r hr
 obtain ⟨n,_,rfl⟩:=List.mem_map.1 hr
 exact ⟨n,rfl⟩

end Go.Abs

namespace Go.Abs
open Go Go.Proofs
set_option maxRecDepth 100000
set_option linter.unusedSimpArgs false
set_option maxHeartbeats 2000000

structure IT where
 b : Int
 d : List Nat
structure WR where
 s : Int
 its : List IT
structure VOL where
 id : Int
 blocks : Int
 size : Int
 per : Int
 place : List Int
 total : Int
 next : Int
 hid : Bool
 floor : Int
 pins : List Int
 ws : List WR
structure CMD where
 kind : Int
 vol : Int
 blocks : Int
 size : Int
 per : Int
 place : List Int
 total : Int
 at' : Int
 index : Int
 items : List IT

def nrow (n : Int) : List C:=[.v (.int .i64 n)]
def itC (b : Int) (d : List Nat) : List C:=[.v (.int .i64 b),.sl (d.map brow)]
def irow (x : IT) : List C:=itC x.b x.d
def wrC (s : Int) (its : List IT) : List C:=[.v (.int .i64 s),.sl (its.map irow)]
def wrow (w : WR) : List C:=wrC w.s w.its
def vC (id blocks size per : Int) (place : List Int) (total next : Int) (hid : Bool) (floor : Int) (pins : List Int) (ws : List WR) : List C :=
 [.v (.int .i64 id),.v (.int .i64 blocks),.v (.int .i64 size),.v (.int .i64 per),.sl (place.map nrow),.v (.int .i64 total),.v (.int .i64 next),.v (.bool hid),.v (.int .i64 floor),.sl (pins.map nrow),.sl (ws.map wrow)]
def volC (v : VOL) : List C:=vC v.id v.blocks v.size v.per v.place v.total v.next v.hid v.floor v.pins v.ws
def cC (kind vol blocks size per : Int) (place : List Int) (total at' index : Int) (items : List IT) : List C :=
 [.v (.int .i64 kind),.v (.int .i64 vol),.v (.int .i64 blocks),.v (.int .i64 size),.v (.int .i64 per),.sl (place.map nrow),.v (.int .i64 total),.v (.int .i64 at'),.v (.int .i64 index),.sl (items.map irow)]
def cmdC (c : CMD) : List C:=cC c.kind c.vol c.blocks c.size c.per c.place c.total c.at' c.index c.items

theorem drows_nrow (l : List Int) : isDRows (l.map nrow):=by
 intro r hr c hc
 obtain ⟨p,_,rfl⟩:=List.mem_map.1 hr
 simp only [nrow,List.mem_singleton] at hc
 subst hc;rfl
theorem drows_irow (l : List IT) : isDRows (l.map irow):=by
 intro r hr c hc
 obtain ⟨p,_,rfl⟩:=List.mem_map.1 hr
 simp only [irow,itC,List.mem_cons,List.not_mem_nil,or_false] at hc
 rcases hc with rfl | rfl <;> rfl
theorem drows_wrow (l : List WR) : isDRows (l.map wrow):=by
 intro r hr c hc
 obtain ⟨p,_,rfl⟩:=List.mem_map.1 hr
 simp only [wrow,wrC,List.mem_cons,List.not_mem_nil,or_false] at hc
 rcases hc with rfl | rfl <;> rfl
theorem irow_len (l : List IT) : ∀ r ∈ l.map irow,r.length = 2:=by
 intro r hr;obtain ⟨p,_,rfl⟩:=List.mem_map.1 hr;rfl
theorem wrow_len (l : List WR) : ∀ r ∈ l.map wrow,r.length = 2:=by
 intro r hr;obtain ⟨p,_,rfl⟩:=List.mem_map.1 hr;rfl

def i64 (n : Int) : Prop:=-9223372036854775808≤n∧n≤9223372036854775807

theorem all_succ {α : Type} {p : α→Bool} {l : List α} {i : Nat} (hi : i < l.length) : (l.take (i + 1)).all p = ((l.take i).all p && p l[i]):=by
 rw [take_one l i hi,List.all_append];simp
theorem all_no {α : Type} {p : α→Bool} {l : List α} {i : Nat} (hi : i < l.length) (h : p l[i] = false) : l.all p = false:=by
 rw [Bool.eq_false_iff];intro ha
 have:=List.all_eq_true.1 ha _ (List.getElem_mem hi)
 rw [h] at this;cases this
theorem all_yes {α : Type} {p : α→Bool} {l : List α} {i : Nat} (h : ¬ i < l.length) (ha : (l.take i).all p = true) : l.all p = true:=by
 rwa [List.take_of_length_le (by omega)] at ha
theorem map_get {α β : Type} (f : α→β) {l : List α} {i : Nat} (hi : i < l.length) (d : β) : ((l.map f)[((i : Int)).toNat]?).getD d = f l[i]:=by
 simp [hi]
theorem wi (i n : Nat) (h : i < n) (hn : n≤9223372036854775807) : IntKind.i64.wrap ((i : Int) + 1) = ((i + 1 : Nat) : Int):=by
 rw [w64 _ (by omega) (by omega)];rfl

theorem min_if (a b : Int) : min a b = if b < a then b else a:=by split <;> omega
theorem max_if (a b : Int) : max a b = if a < b then b else a:=by split <;> omega

def lenV (v : VOL) : Int:=v.ws.length
def lowL (n : Int) (pins : List Int) : Int:=pins.foldl min n
def lowV (v : VOL) : Int:=lowL v.ws.length v.pins
def chunksN (b p : Int) : Int:=(b + p - 1).tdiv p
def inR (n a b : Int) : Bool:=decide (a≤n) && decide (n≤b)

theorem volume_Len_con (v : VOL) : Con Tryz.prog 53 [.agg (volC v)] [] (I (lenV v)) []:=by
 refine C_volume_Len nl nl ?_
 simp only [cz,A_volume_Len,argL,objL,List.length_nil,zX]
 refine aS 16 (fun Q hQ=>by simp only [zS,volC,vC,simprocAttr];exact hQ) ?_
 refine aR 80 ?_
 exact Fin.i (.inr rfl) rfl trivial (by simp [lenV])

theorem mementoref16_Len_con (v : VOL) : Con Tryz.prog 10 [.agg (volC v)] [] (I (lenV v)) []:=by
 refine C_mementoref16_Len nl nl ?_
 simp only [cz,A_mementoref16_Len,argL,objL,List.length_nil,zX]
 refine aS 16 (fun Q hQ=>by simp only [zS,volC,vC,simprocAttr];exact hQ) ?_
 refine aR 80 ?_
 exact Fin.i (.inr rfl) rfl trivial (by simp [lenV])

theorem lowL_succ (n : Int) (l : List Int) (i : Nat) (hi : i < l.length) : lowL n (l.take (i + 1)) = min (lowL n (l.take i)) l[i]:=by
 rw [take_one l i hi];simp only [lowL,List.foldl_append];rfl

theorem mementoref16_Low_con (v : VOL) (hb : v.pins.length≤1000000) : Con Tryz.prog 109 [.agg (volC v)] [] (I (lowV v)) []:=by
 refine C_mementoref16_Low nl nl ?_
 simp only [cz,A_mementoref16_Low,argL,objL,List.length_nil,zX]
 refine aS 16 (fun Q hQ=>by simp only [zS,volC,vC,simprocAttr];exact hQ) ?_
 refine aB 80 ?_
 refine rC [] (mementoref16_Len_con v) ?_
 refine aE ?_
 refine aR 160 ?_
 refine aw_loopK (X:={ i : Nat // i≤v.pins.length }) [1] (fun i=>[(3,I (lowL (lenV v) (v.pins.take i.1))),(4,I i.1)]) [16] (fun i=>[]) (fun i=>v.pins.length - i.1) (⟨0,by omega⟩) ?_ ?_
 ·skip
  simp only [keepS,keepE,Option.getD_some,lk_cons,lkE_cons,List.cons_append,List.nil_append,simprocAttr]
  refine Le.lit [] [] _ _ ?_ ?_ ?_ ?_
  ·simp only [zL,simprocAttr]
   all_goals (rfl)
  ·simp only [zL,↓reduceIte]
  ·simp [rlook]
  ·(simp;done)
 rintro ⟨i,hi⟩
 simp only [keepS,keepE,Option.getD_some,lk_cons,lkE_cons,List.cons_append,List.nil_append,simprocAttr]
 simp only [zX]
 refine aR 208 ?_
 refine aw_cond _ rfl trivial (fun ht=>?_) (fun hf=>?_)
 ·have hi' : i < v.pins.length:=by simpa using ht
  have hr : ((v.pins.map nrow)[((i : Int)).toNat]?).getD [] = [.v (.int .i64 v.pins[i])]:=map_get nrow hi' []
  simp only [zX]
  refine aS 320 (fun Q hQ=>by simp only [zS,hr,simprocAttr];repeat refine ⟨by ((simp;omega)),?_⟩;exact hQ) ?_
  refine aS 480 (fun Q hQ=>by simp only [zS,wi i _ hi' (by omega),simprocAttr];exact hQ) ?_
  refine ⟨⟨i + 1,hi'⟩,?_,by simp only;omega⟩
  refine Le.lit [] [] _ _ ?_ ?_ ?_ ?_
  ·simp only [zL,simprocAttr]
   all_goals (rw [lowL_succ _ _ _ hi',min_if])
  ·simp only [zL,↓reduceIte]
  ·simp [rlook]
  ·(simp;done)
 have hi' : i = v.pins.length:=by simp at hf;omega
 simp only [zX,↓reduceIte]
 refine aR 560 ?_
 exact Fin.i (.inr rfl) rfl trivial (by rw [hi',List.take_length];rfl)

end Go.Abs

namespace Go.Abs
open Go Go.Proofs
set_option maxRecDepth 100000
set_option linter.unusedSimpArgs false
set_option maxHeartbeats 2000000

theorem slices_Clone_api_Item_api_Item_con (rows : List (List C)) (hd : isDRows rows) (h1 : ∀ r ∈ rows,r.length = 2) (hb : rows.length≤1000000) : Con Tryz.prog 96 [.c (.sl rows)] [] (.c (.osl 0)) [.arr 96 2 rows false]:=by
 by_cases hr : rows = []
 ·subst hr
  refine Con.split1 ?_ fun ad cap=>?_
  ·skip
   refine C_slices_Clone_api_Item_api_Item nl nl ?_
   simp only [cz,A_slices_Clone_api_Item_api_Item,argL,objL,List.length_nil,zX]
   refine aR 16 ?_
   refine aR 160 ?_
   refine aT ?_
   refine aR 320 ?_
   exact Fin.ownNil (.inr rfl) rfl trivial (by decide)
  ·skip
   refine C_slices_Clone_api_Item_api_Item nl nl ?_
   simp only [cz,A_slices_Clone_api_Item_api_Item,argL,objL,List.length_nil,zX]
   refine aR 16 ?_
   refine aR 160 ?_
   refine aF ?_
   refine aw_reg 320 (RG.go fun Q hQ=>?_)
   simp only [zS,simprocAttr]
   refine ⟨by simp,hQ (RG.nil ?_)⟩
   simp only [zX]
   refine Fin.objs [] [(0,352)] (.inr rfl) rfl trivial ?_ ?_ ?_ ?_
   ·skip
    simp only [zL,simprocAttr]
   ·skip
    simp only [zL,simprocAttr]
    simp
   ·simp [objL]
   ·simp
 ·skip
  refine C_slices_Clone_api_Item_api_Item nl nl ?_
  simp only [cz,A_slices_Clone_api_Item_api_Item,argL,objL,List.length_nil,zX]
  refine aR 16 ?_
  refine aw_reg 160 (RG.go fun Q hQ=>?_)
  simp only [zS,simprocAttr]
  refine ⟨hr,hQ (RG.nil ?_)⟩
  simp only [zX]
  refine aF ?_
  refine aw_reg 320 (RG.go fun Q hQ=>?_)
  simp only [zS,simprocAttr]
  refine ⟨⟨h1,by omega⟩,hQ (RG.nil ?_)⟩
  simp only [zX]
  refine Fin.objs [] [(0,352)] (.inr rfl) rfl trivial ?_ ?_ ?_ ?_
  ·skip
   simp only [zL,simprocAttr]
  ·skip
   simp only [zL,simprocAttr]
   exact hd
  ·simp [objL]
  ·simp




def shapeP (id blocks size per : Int) (place : List Int) (total : Int) : Bool :=
 inR id 0 7 && inR blocks 1 256 && inR size 1 32 && inR per 1 blocks && decide ((place.length : Int) = chunksN blocks per) && inR total 0 1099511627776 && place.all fun n=>inR n 1 7
def shapeV (v : VOL) : Bool:=shapeP v.id v.blocks v.size v.per v.place v.total

end Go.Abs

namespace Go.Abs
open Go Go.Proofs
set_option maxRecDepth 100000
set_option linter.unusedSimpArgs false
set_option maxHeartbeats 2000000

theorem inR_iff (n a b : Int) : inR n a b = true ↔ a≤n∧n≤b:=by simp [inR]

end Go.Abs

namespace Go.Abs
open Go Go.Proofs
set_option maxRecDepth 100000
set_option linter.unusedSimpArgs false
set_option maxHeartbeats 2000000

def seenM (l : List IT) : List (Value × List C):=l.map fun x=>(.int .i64 x.b,[.v (.bool true)])

def itOk (blocks size : Int) (x : IT) : Bool:=decide (0≤x.b) && decide (x.b < blocks) && decide ((x.d.length : Int) = size)
def onceB : List IT→Bool
 | []=>true
 | x :: l=>!(l.any fun y=>decide (y.b = x.b)) && onceB l
def itemsR (blocks size : Int) (l : List IT) : Bool:=decide (1≤l.length) && decide (l.length≤8) && l.all (itOk blocks size) && onceB l

theorem onceB_append : ∀ (l : List IT) (x : IT),onceB (l ++ [x]) = (onceB l && !(l.any fun y=>decide (y.b = x.b)))
 | [],x=>by simp [onceB]
 | y :: l,x=>by
  simp only [List.cons_append,onceB,onceB_append l x,List.any_append,List.any_cons,List.any_nil,Bool.or_false]
  by_cases h : y.b = x.b
  ·simp [h]
  ·have h' : ¬ x.b = y.b:=fun e=>h e.symm
   simp only [decide_eq_false h,decide_eq_false h',Bool.or_false,Bool.false_or]
   cases l.any (fun z=>decide (z.b = y.b)) <;> cases onceB l <;> cases l.any (fun z=>decide (z.b = x.b)) <;> rfl

theorem onceB_take {l : List IT} : onceB l = true→∀ i,onceB (l.take i) = true:=by
 induction l with
 | nil=>intro _ i;simp [onceB]
 | cons x l ih =>
  intro h i
  simp only [onceB,Bool.and_eq_true,Bool.not_eq_true'] at h
  cases i with
  | zero=>rfl
  | succ i =>
   simp only [List.take_succ_cons,onceB,Bool.and_eq_true,Bool.not_eq_true']
   refine ⟨?_,ih h.2 i⟩
   rw [Bool.eq_false_iff] at h ⊢
   intro hh
   refine h.1 ?_
   obtain ⟨y,hy,he⟩:=List.any_eq_true.1 hh
   exact List.any_eq_true.2 ⟨y,List.mem_of_mem_take hy,he⟩

theorem keyEq_i64 (n m : Int) : keyEq (.int .i64 n) (.int .i64 m) = decide (n = m):=by
 rw [show keyEq (.int .i64 n) (.int .i64 m) = (n == m) from by simp [keyEq]];rfl

theorem mfind_seen (n : Int) : ∀ l : List IT,mfind (seenM l) (.int .i64 n) = if (l.any fun y=>decide (y.b = n)) = true then some [.v (.bool true)] else none
 | []=>rfl
 | x :: l=>by
  have:=mfind_seen n l
  simp only [seenM,List.map_cons,mfind,keyEq_i64,List.any_cons] at this ⊢
  by_cases h : n = x.b
  ·simp [h]
  ·have h' : ¬ x.b = n:=fun e=>h e.symm
   simp only [decide_eq_false h,decide_eq_false h',Bool.false_eq_true,if_false,this,Bool.false_or]

theorem mset_seen (x : IT) : ∀ l : List IT,(l.any fun y=>decide (y.b = x.b)) = false→mset (seenM l) (.int .i64 x.b) [.v (.bool true)] = seenM (l ++ [x])
 | [],_=>rfl
 | y :: l,h=>by
  simp only [List.any_cons,Bool.or_eq_false_iff,decide_eq_false_iff_not] at h
  have:=mset_seen x l h.2
  simp only [seenM,List.map_cons,List.cons_append,mset,keyEq_i64] at this ⊢
  rw [decide_eq_false (fun e=>h.1 e.symm),if_neg (by simp),this]

theorem seen_keys (l : List IT) (n : Int) : ∀ p ∈ seenM l,sameK (.int .i64 n) p.1:=by
 intro p hp
 obtain ⟨x,_,rfl⟩:=List.mem_map.1 hp
 rfl

theorem mementoref13_ItemsRight_con (blocks size : Int) (l : List IT) (hb : l.length≤1000000) (hd : ∀ x ∈ l,x.d.length≤1000000) : Con Tryz.prog 92 [I blocks,I size,.c (.sl (l.map irow))] [] (B (itemsR blocks size l)) []:=by
 refine C_mementoref13_ItemsRight nl nl ?_
 simp only [cz,A_mementoref13_ItemsRight,argL,objL,List.length_nil,Nat.zero_add,zX,simprocAttr]
 refine aR 16 ?_
 refine aS 64 (fun Q hQ=>by simp only [zS,simprocAttr];repeat refine ⟨by ((simp;done)),?_⟩;exact hQ) ?_
 refine aw_cond _ rfl trivial (fun ht=>?_) (fun hf=>?_)
 ·skip
  simp only [zX]
  refine aR 224 ?_
  refine Fin.b (.inr rfl) rfl trivial ?_
  rw [eq_comm,Bool.eq_false_iff]
  intro hs
  simp [itemsR] at hs ht
  omega
 have hlen : 1≤l.length∧l.length≤8:=by simp at hf;omega
 simp only [zX]
 refine aR 272 ?_
 refine aw_loopK (X:={ i : Nat // i≤l.length∧(l.take i).all (itOk blocks size) = true∧onceB (l.take i) = true }) [0,1,2] (fun i=>[(7,I i.1)]) [] (fun i=>[]) (fun i=>l.length - i.1) (⟨0,by omega,rfl,rfl⟩) ?_ ?_
 ·skip
  simp only [keepS,keepE,lk_cons,List.cons_append,List.nil_append,simprocAttr]
  refine Le.lit [] [] _ _ ?_ ?_ ?_ ?_
  ·simp only [zL,simprocAttr]
  ·simp only [zL,simprocAttr]
  ·simp [rlook]
  ·(simp;done)
 rintro ⟨i,hi,hall,honce⟩
 simp only [keepS,keepE,lk_cons,List.cons_append,List.nil_append,simprocAttr]
 simp only [zX]
 refine aR 320 ?_
 refine aw_cond _ rfl trivial (fun ht=>?_) (fun hf=>?_)
 ·have hi' : i < l.length:=by simpa using ht
  have hr : ((l.map irow)[((i : Int)).toNat]?).getD [] = [.v (.int .i64 l[i].b),.sl (l[i].d.map brow)]:=map_get irow hi' []
  have hdl:=hd _ (List.getElem_mem hi')
  simp only [zX]
  refine aw_reg 416 (RG.go fun Q hQ=>?_)
  simp only [zS,hr,simprocAttr]
  repeat refine ⟨by (first | (simp;omega) | (simp;done)),?_⟩
  refine hQ (RG.nil ?_)
  simp only [zX]
  refine aw_cond _ rfl trivial (fun ht=>?_) (fun hf=>?_)
  ·skip
   simp only [zX]
   refine aR 848 ?_
   refine Fin.b (.inr rfl) rfl trivial ?_
   rw [eq_comm,Bool.eq_false_iff]
   intro hs
   simp only [itemsR,Bool.and_eq_true] at hs
   have h1:=List.all_eq_true.1 hs.1.2 _ (List.getElem_mem hi')
   simp [itOk] at h1 ht
   omega
  have hok : itOk blocks size l[i] = true:=by
   simp at hf
   simp [itOk];omega
  simp only [zX]
  refine aR 896 ?_
  refine aw_loopK (X:={ k : Nat // k≤i∧((l.take k).any fun y=>decide (y.b = l[i].b)) = false }) [0,1,2,7] (fun k=>[(8,I k.1)]) [] (fun k=>[]) (fun k=>i - k.1) (⟨0,by omega,rfl⟩) ?_ ?_
  ·skip
   simp only [keepS,keepE,lk_cons,List.cons_append,List.nil_append,simprocAttr]
   refine Le.lit [] [] _ _ ?_ ?_ ?_ ?_
   ·simp only [zL,simprocAttr]
   ·simp only [zL,simprocAttr]
   ·simp [rlook]
   ·(simp;done)
  rintro ⟨k,hk,hany⟩
  simp only [keepS,keepE,lk_cons,List.cons_append,List.nil_append,simprocAttr]
  simp only [zX]
  refine aR 944 ?_
  refine aw_cond _ rfl trivial (fun ht=>?_) (fun hf=>?_)
  ·have hk' : k < i:=by simpa using ht
   have hkl : k < l.length:=by omega
   have hrk : ((l.map irow)[((k : Int)).toNat]?).getD [] = [.v (.int .i64 l[k].b),.sl (l[k].d.map brow)]:=map_get irow hkl []
   simp only [zX]
   refine aw_draw 1024 (RG.go fun Q hQ=>?_)
   simp only [zS,hr,hrk,simprocAttr]
   repeat refine ⟨by ((simp;omega)),?_⟩
   refine hQ (RG.nil ⟨by decide +kernel,?_⟩)
   simp only [zX]
   refine aw_cond _ rfl trivial (fun ht=>?_) (fun hf=>?_)
   ·skip
    simp only [zX]
    refine aR 1232 ?_
    refine Fin.b (.inr rfl) rfl trivial ?_
    rw [eq_comm,Bool.eq_false_iff]
    intro hs
    simp only [itemsR,Bool.and_eq_true] at hs
    have h2:=onceB_take hs.2 (i + 1)
    rw [take_one l i hi',onceB_append] at h2
    simp only [Bool.and_eq_true,Bool.not_eq_true'] at h2
    have h3:=List.any_eq_false.1 h2.2 l[k] (by
     refine List.mem_iff_getElem.2 ⟨k,by simp;omega,by simp⟩)
    simp at h3 ht
    exact h3 ht
   have hne : ¬ l[k].b = l[i].b:=by simpa using hf
   simp only [zX]
   refine aS 1280 (fun Q hQ=>by simp only [zS,wi k _ hkl (by omega),simprocAttr];exact hQ) ?_
   refine ⟨⟨k + 1,hk',by rw [take_one l k hkl,List.any_append,hany];simp [hne]⟩,?_,by simp only;omega⟩
   refine Le.lit [] [] _ _ ?_ ?_ ?_ ?_
   ·simp only [zL,simprocAttr]
   ·simp only [zL,simprocAttr]
   ·simp [rlook]
   ·(simp;done)
  have hki : k = i:=by simp at hf;omega
  rw [hki] at hany
  simp only [zX,↓reduceIte]
  refine aS 1360 (fun Q hQ=>by simp only [zS,wi i _ hi' (by omega),simprocAttr];exact hQ) ?_
  refine ⟨⟨i + 1,hi',by rw [all_succ hi',hall,hok];rfl,by rw [take_one l i hi',onceB_append,honce,hany];rfl⟩,?_,by simp only;omega⟩
  refine Le.lit [] [] _ _ ?_ ?_ ?_ ?_
  ·simp only [zL,simprocAttr]
  ·simp only [zL,simprocAttr]
  ·simp [rlook]
  ·(simp;done)
 have hi' : i = l.length:=by simp at hf;omega
 rw [hi',List.take_length] at hall honce
 simp only [zX,↓reduceIte]
 refine aR 1440 ?_
 refine Fin.b (.inr rfl) rfl trivial ?_
 simp [itemsR,hall,honce,hlen]

end Go.Abs

namespace Go.Abs
open Go Go.Proofs
set_option maxRecDepth 100000
set_option linter.unusedSimpArgs false
set_option maxHeartbeats 2000000

def pinsR (n : Int) : Int→List Int→Bool
 | _,[]=>true
 | last,p :: l=>decide (last≤p) && decide (p≤n) && pinsR n p l
def wsR (blocks size : Int) : Nat→List WR→Bool
 | _,[]=>true
 | i,w :: l=>decide (w.s = i + 1) && itemsR blocks size w.its && wsR blocks size (i + 1) l
def rightV (v : VOL) : Bool :=
 shapeV v && inR v.next 0 v.total && (v.hid || decide (v.next = v.total)) && (!v.hid || decide (v.total≠0)) && decide (0≤v.floor) && decide (v.floor≤lenV v) &&
  pinsR (lenV v) v.floor v.pins && wsR v.blocks v.size 0 v.ws

structure Vok (v : VOL) : Prop where
 place : v.place.length≤1000000
 pins : v.pins.length≤1000000
 ws : v.ws.length≤1000000
 its : ∀ w ∈ v.ws,w.its.length≤1000000∧∀ x ∈ w.its,x.d.length≤1000000

theorem drop_get {α : Type} {l : List α} {i : Nat} (h : i < l.length) : l.drop i = l[i] :: l.drop (i + 1):=List.drop_eq_getElem_cons h

end Go.Abs

namespace Go.Abs
open Go Go.Proofs
set_option maxRecDepth 100000
set_option linter.unusedSimpArgs false
set_option maxHeartbeats 2000000

theorem hist_behind_1_con (l : List IT) (t : Int) (i : Nat) (hi : i < l.length) (hl : l.length≤1000000) : Con Tryz.prog 111 [I i,.c (.bp 0 0),.c (.bp 1 0)] [.box [.sl (l.map irow)],.box [.v (.int .i64 t)]] (B (decide (l[i].b > t))) [.box [.sl (l.map irow)],.box [.v (.int .i64 t)]]:=by
 have hr : ((l.map irow)[((i : Int)).toNat]?).getD [] = [.v (.int .i64 l[i].b),.sl (l[i].d.map brow)]:=map_get irow hi []
 refine C_hist_behind_1 nl nl ?_
 simp only [cz,A_hist_behind_1,argL,objL,List.length_nil,List.length_cons,Nat.zero_add,zX,simprocAttr]
 refine aR 16 ?_
 refine aSD 64 (fun Q hQ=>by simp only [zS,hr,simprocAttr];repeat refine ⟨by ((simp;omega)),?_⟩;exact hQ) ?_
 refine Fin.objs [] [] (.inr rfl) rfl (by exact trivial) ?_ ?_ (by simp [objL,rlook]) (by (intro k hk;simp [objL,rlook];omega))
 ·simp only [zL,simprocAttr]
 ·simp only [zL,simprocAttr]

theorem sort_Search_con (l : List IT) (t : Int) (k : Nat) (hl : l.length≤1000000) (hk : k≤l.length) (h1 : ∀ i (hi : i < l.length),i < k→l[i].b≤t) (h2 : ∀ i (hi : i < l.length),k≤i→t < l[i].b) :
  Con Tryz.prog 110 [I l.length,.c (.fn 111 [.bp 0 0,.bp 1 0])] [.box [.sl (l.map irow)],.box [.v (.int .i64 t)]] (I k) [.box [.sl (l.map irow)],.box [.v (.int .i64 t)]]:=by
 refine C_sort_Search nl nl ?_
 simp only [cz,A_sort_Search,argL,objL,List.length_nil,List.length_cons,Nat.zero_add,zX,simprocAttr]
 refine aR 16 ?_
 refine aR 64 ?_
 refine aw_loopK (X:={ p : Nat × Nat // p.1≤k∧k≤p.2∧p.2≤l.length }) [1] (fun p=>[(5,I p.1.1),(6,I p.1.2)]) [0,1] (fun p=>[]) (fun p=>p.1.2 - p.1.1) (⟨(0,l.length),by omega,hk,by omega⟩) ?_ ?_
 ·skip
  simp only [keepS,keepE,Option.getD_some,lk_cons,lkE_cons,List.cons_append,List.nil_append,simprocAttr]
  refine Le.lit [] [] _ _ ?_ ?_ ?_ ?_
  ·simp only [zL,simprocAttr]
  ·simp only [zL,simprocAttr]
  ·simp [rlook]
  ·(intro k hk;simp [rlook];omega)
 rintro ⟨⟨i,j⟩,hi,hj,hjl⟩
 simp only at hi hj hjl
 simp only [keepS,keepE,Option.getD_some,lk_cons,lkE_cons,List.cons_append,List.nil_append,simprocAttr]
 simp only [zX]
 refine aR 144 ?_
 refine aw_cond _ rfl trivial (fun ht=>?_) (fun hf=>?_)
 ·have hij : i < j:=by simpa using ht
  have w1 : IntKind.i64.wrap ((i : Int) + j) = ((i + j : Nat) : Int):=by rw [w64 _ (by omega) (by omega)];omega
  have w2 : IntKind.u64.wrap ((i + j : Nat) : Int) = ((i + j : Nat) : Int):=by rw [w_u64];omega
  have w3 : ((i + j : Nat) : Int).fdiv (2 ^ min 1 IntKind.u64.bits) = (((i + j) / 2 : Nat) : Int):=by
   rw [show (2 : Int) ^ min 1 IntKind.u64.bits = 2 from rfl,Int.fdiv_eq_ediv_of_nonneg _ (by omega)];omega
  have w4 : IntKind.i64.wrap (((i + j) / 2 : Nat) : Int) = (((i + j) / 2 : Nat) : Int):=w64 _ (by omega) (by omega)
  simp only [zX]
  refine aS 224 (fun Q hQ=>by simp only [zS,w1,w2,w3,w4,simprocAttr];exact hQ) ?_
  obtain ⟨h,hh⟩ : ∃ h,h = (i + j) / 2:=⟨_,rfl⟩
  rw [← hh]
  have hhl : h < l.length:=by omega
  refine aB 368 ?_
  refine RG.callvo [0,1] [] rfl trivial (hist_behind_1_con l t h hhl hl) (.mk (tr_cons tr_v (tr_cons (tr_bp rfl) (tr_cons (tr_bp rfl) tr_nil))) (by simp only [zT,simprocAttr]) (by simp) (by simp) trivial (by simp [lkE_cons,lkE_nil]) (by simp [Ent.pure]) (by simp) (by simp)) ?_
  refine aE ?_
  refine aw_cond _ rfl trivial (fun ht=>?_) (fun hf=>?_)
  ·have hkh : h < k:=by
    simp at ht
    rcases Nat.lt_or_ge h k with g | g
    ·exact g
    ·have:=h2 h hhl g;omega
   refine aS 464 (fun Q hQ=>by simp only [zS,wi h _ hhl (by omega),simprocAttr];exact hQ) ?_
   refine ⟨⟨(h + 1,j),by simp only;omega⟩,?_,by simp only;omega⟩
   refine Le.lit [] [] _ _ ?_ ?_ ?_ ?_
   ·simp only [zL,simprocAttr]
   ·simp only [zL,simprocAttr]
   ·simp [rlook]
   ·(intro k hk;simp [rlook];omega)
  have hkh : k≤h:=by
   simp at hf
   rcases Nat.lt_or_ge h k with g | g
   ·have:=h1 h hhl g;omega
   ·exact g
  refine aR 544 ?_
  refine ⟨⟨(i,h),by simp only;omega⟩,?_,by simp only;omega⟩
  refine Le.lit [] [] _ _ ?_ ?_ ?_ ?_
  ·simp only [zL,simprocAttr]
  ·simp only [zL,simprocAttr]
  ·simp [rlook]
  ·(intro k hk;simp [rlook];omega)
 have hij : i = k:=by simp at hf;omega
 subst hij
 simp only [zX,↓reduceIte]
 refine aR 608 ?_
 refine Fin.objs [] [] (.inr rfl) rfl (by exact trivial) ?_ ?_ (by simp [objL,rlook]) (by (intro k hk;simp [objL,rlook];omega))
 ·simp only [zL,simprocAttr]
 ·simp only [zL,simprocAttr]

def behN (t : Int) (l : List IT) : Nat:=(l.takeWhile fun x=>decide (x.b≤t)).length
def rise : List IT→Prop
 | []=>True
 | x :: l=>(∀ y ∈ l,x.b≤y.b)∧rise l

theorem behN_le (t : Int) (l : List IT) : behN t l≤l.length:=(List.takeWhile_prefix _).length_le
theorem behN_lt (t : Int) : ∀ (l : List IT) (i : Nat) (hi : i < l.length),i < behN t l→l[i].b≤t
 | x :: l,i,hi,h=>by
  unfold behN at h
  rw [List.takeWhile_cons] at h
  split at h
  ·rename_i hx
   cases i with
   | zero=>simpa using hx
   | succ i=>exact behN_lt t l i (by simpa using hi) (by simpa [behN] using h)
  ·simp at h
theorem rise_le : ∀ (l : List IT),rise l→∀ i j (hi : i < l.length) (hj : j < l.length),i≤j→l[i].b≤l[j].b
 | x :: l,h,0,0,_,_,_=>by simp
 | x :: l,h,0,j + 1,_,hj,_=>h.1 _ (List.getElem_mem (by simpa using hj))
 | x :: l,h,i + 1,j + 1,hi,hj,hij=>rise_le l h.2 i j (by simpa using hi) (by simpa using hj) (by omega)
theorem behN_ge (t : Int) (l : List IT) (hr : rise l) (i : Nat) (hi : i < l.length) (h : behN t l≤i) : t < l[i].b:=by
 have hb : behN t l < l.length:=by omega
 have h0 : t < l[behN t l].b:=by
  have key : ∀ (l : List IT) (hb : behN t l < l.length),t < l[behN t l].b:=by
   intro l
   induction l with
   | nil=>intro hb;simp at hb
   | cons x l ih =>
    intro hb
    by_cases hx : x.b≤t
    ·have e : behN t (x :: l) = behN t l + 1:=by simp [behN,hx]
     have:=ih (by rw [e] at hb;simpa using hb)
     simp only [e,List.getElem_cons_succ];exact this
    ·have e : behN t (x :: l) = 0:=by simp [behN,hx]
     simp only [e,List.getElem_cons_zero];omega
  exact key l hb
 have:=rise_le l hr (behN t l) i hb hi h
 omega

theorem hist_behind_con (l : List IT) (t : Int) (hl : l.length≤1000000) (hr : rise l) : Con Tryz.prog 95 [.c (.sl (l.map irow)),I t] [] (I (behN t l)) []:=by
 have cS:=sort_Search_con l t (behN t l) hl (behN_le t l) (behN_lt t l) (behN_ge t l hr)
 refine C_hist_behind nl nl ?_
 simp only [cz,A_hist_behind,argL,objL,List.length_nil,Nat.zero_add,zX]
 refine aR 16 ?_
 refine aBs 96 (fun Q hQ=>by simp only [zS,List.length_map,simprocAttr];repeat refine ⟨by ((simp;done)),?_⟩;exact hQ) ?_
 refine RG.callo [16,32] [] (cS) (.mk (tr_cons tr_v (tr_cons ⟨rfl,⟨rfl,rfl⟩,⟨rfl,rfl⟩,trivial⟩ tr_nil)) (by (simp only [zT,simprocAttr];done)) (by simp) (by simp) (trivial) (by (simp [];done)) (by (simp [Ent.pure];done)) (by simp) (by simp)) ?_
 refine aE ?_
 exact Fin.scalar (.inr rfl) rfl trivial rfl trivial

end Go.Abs

namespace Go.Abs
open Go Go.Proofs
set_option maxRecDepth 100000
set_option linter.unusedSimpArgs false
set_option maxHeartbeats 2000000

theorem cloneB_con (d : List Nat) (hb : d.length≤1000000) : Con Tryz.prog 97 [.c (.sl (d.map brow))] [] (.c (.sl (d.map brow))) [] :=
 (slices_Clone_byte_byte_con (d.map brow) (drows_brow d) (brow_len d) (by simp;omega)).rows (drows_brow d)
theorem hist_At_con (l : List IT) (t : Int) (hl : l.length≤1000000) (hr : rise l) (hd : ∀ x ∈ l,x.d.length≤1000000) :
  Con Tryz.prog 93 [.c (.sl (l.map irow)),I t] [] (.tup [.c (.sl (((l.take (behN t l)).getLast?.elim [] (·.d)).map brow)),B (decide (0 < behN t l))]) []:=by
 have hk:=behN_le t l
 have cB:=hist_behind_con l t hl hr
 generalize behN t l = k at *
 refine C_hist_At nl nl ?_
 simp only [cz,A_hist_At,argL,objL,List.length_nil,Nat.zero_add,zX]
 refine aR 16 ?_
 refine aB 80 ?_
 refine rC [] (cB) ?_
 refine aE ?_
 refine aR 176 ?_
 refine aw_cond _ rfl trivial (fun ht=>?_) (fun hf=>?_)
 ·have hk0 : k = 0:=by simp at ht;omega
  subst hk0
  simp only [zX]
  refine aR 240 ?_
  refine Fin.data [] (.inr rfl) rfl (by (exact trivial)) ?_
  simp only [zL,simprocAttr]
  all_goals (simp)
 have hk0 : 0 < k:=by simp at hf;omega
 have hk1 : k - 1 < l.length:=by omega
 have hw : IntKind.i64.wrap ((k : Int) - 1) = ((k - 1 : Nat) : Int):=by rw [w64 _ (by omega) (by omega)];omega
 have hr1 : ((l.map irow)[(((k - 1 : Nat) : Int)).toNat]?).getD [] = [.v (.int .i64 l[k - 1].b),.sl (l[k - 1].d.map brow)]:=map_get irow hk1 []
 have hdl:=hd _ (List.getElem_mem hk1)
 have hlast : (l.take k).getLast?.elim [] (·.d) = l[k - 1].d:=by
  obtain ⟨j,rfl⟩ : ∃ j,k = j + 1:=⟨k - 1,by omega⟩
  simp only [Nat.add_sub_cancel]
  rw [take_one l j (by omega),List.getLast?_concat];rfl
 rw [hlast,decide_eq_true hk0]
 simp only [zX]
 refine aBs 304 (fun Q hQ=>by simp only [zS,hw,hr1,simprocAttr];repeat refine ⟨by ((simp;omega)),?_⟩;exact hQ) ?_
 refine rC [] (cloneB_con l[k - 1].d hdl) ?_
 refine aE ?_
 refine Fin.data [] (.inr rfl) rfl (by (exact trivial)) ?_
 simp only [zL,simprocAttr]
 all_goals (simp)

theorem set_same {α β : Type} (f : α→β) {l : List α} {i : Nat} (hi : i < l.length) : (l.map f).set i (f l[i]) = l.map f:=by
 rw [← List.map_set,List.set_getElem_self]

theorem volume_items_con (l : List IT) (hl : l.length≤1000000) (hd : ∀ x ∈ l,x.d.length≤1000000) : Con Tryz.prog 72 [.c (.sl (l.map irow))] [] (.c (.osl 0)) [.arr 96 2 (l.map irow) false]:=by
 refine C_volume_items nl nl ?_
 simp only [cz,A_volume_items,argL,objL,List.length_nil,zX]
 refine aR 16 ?_
 refine aB 64 ?_
 refine rO [] [] (slices_Clone_api_Item_api_Item_con (l.map irow) (drows_irow l) (irow_len l) (by simp;omega)) ?_
 refine aE ?_
 refine aR 144 ?_
 refine aw_loopK (X:={ i : Nat // i≤l.length }) [3,8] (fun i=>[(9,I i.1)]) [80] (fun i=>[]) (fun i=>l.length - i.1) (⟨0,by omega⟩) ?_ ?_
 ·skip
  simp only [keepS,keepE,Option.getD_some,lk_cons,lkE_cons,List.cons_append,List.nil_append,simprocAttr]
  refine Le.lit [] [] _ _ ?_ ?_ ?_ ?_
  ·simp only [zL,simprocAttr]
  ·simp only [zL,simprocAttr]
   all_goals (exact drows_irow _)
  ·simp [rlook]
  ·(simp;done)
 rintro ⟨i,hi⟩
 simp only [keepS,keepE,Option.getD_some,lk_cons,lkE_cons,List.cons_append,List.nil_append,simprocAttr]
 simp only [zX]
 refine aR 224 ?_
 refine aw_cond _ rfl trivial (fun ht=>?_) (fun hf=>?_)
 ·have hi' : i < l.length:=by simpa using ht
  have hr : ((l.map irow)[((i : Int)).toNat]?).getD [] = [.v (.int .i64 l[i].b),.sl (l[i].d.map brow)]:=map_get irow hi' []
  have hdl:=hd _ (List.getElem_mem hi')
  have hset : (l.map irow).set ((i : Int)).toNat [.v (.int .i64 l[i].b),.sl (l[i].d.map brow)] = l.map irow:=set_same irow hi'
  simp only [zX]
  refine aR 272 ?_
  refine aw_reg 336 (RG.go fun Q hQ=>?_)
  simp only [zS,hr,simprocAttr]
  repeat refine ⟨by ((simp;omega)),?_⟩
  refine hQ ?_
  refine rC [] (cloneB_con l[i].d hdl) ?_
  refine RG.go fun Q hQ=>?_
  simp only [zS,simprocAttr]
  simp only [zS,hr,hset]
  repeat refine ⟨by ((simp;omega)),?_⟩
  refine hQ (RG.nil ?_)
  simp only [zX]
  refine aS 544 (fun Q hQ=>by simp only [zS,wi i _ hi' (by omega),simprocAttr];exact hQ) ?_
  refine ⟨⟨i + 1,hi'⟩,?_,by simp only;omega⟩
  refine Le.lit [] [] _ _ ?_ ?_ ?_ ?_
  ·simp only [zL,simprocAttr]
  ·simp only [zL,simprocAttr]
   all_goals (exact drows_irow _)
  ·simp [rlook]
  ·(simp;done)
 simp only [zX,↓reduceIte]
 refine aR 608 ?_
 refine Fin.objs [] [(0,80)] (.inr rfl) rfl (by exact trivial) ?_ ?_ (by simp [objL,rlook]) (by (simp [objL,rlook];done))
 ·simp only [zL,simprocAttr]
 ·simp only [zL,simprocAttr]
  all_goals (exact drows_irow _)

theorem itemsD_con (l : List IT) (hl : l.length≤1000000) (hd : ∀ x ∈ l,x.d.length≤1000000) : Con Tryz.prog 72 [.c (.sl (l.map irow))] [] (.c (.sl (l.map irow))) [] :=
 (volume_items_con l hl hd).rows (drows_irow l)

end Go.Abs

namespace Go.Abs
open Go Go.Proofs
set_option maxRecDepth 100000
set_option linter.unusedSimpArgs false
set_option maxHeartbeats 2000000

def newV (c : CMD) : VOL:=⟨c.vol,c.blocks,c.size,c.per,c.place,c.total,0,decide (0 < c.total),0,[],[]⟩
def zeroV : VOL:=⟨0,0,0,0,[],0,0,false,0,[],[]⟩
def newR (c : CMD) : VOL × Int:=if shapeV (newV c) = true then (newV c,0) else (zeroV,23)

def timeE (floor t most : Int) : Int:=if t < floor then 30 else if most < t then 31 else 0

def vO (v : VOL) (pins ws : C) : List C:=[.v (.int .i64 v.id),.v (.int .i64 v.blocks),.v (.int .i64 v.size),.v (.int .i64 v.per),.sl (v.place.map nrow),.v (.int .i64 v.total),.v (.int .i64 v.next),.v (.bool v.hid),.v (.int .i64 v.floor),pins,ws]
def addW (v : VOL) (l : List IT) : VOL:={ v with ws:=v.ws ++ [⟨v.ws.length + 1,l⟩] }

end Go.Abs

namespace Go.Abs
open Go Go.Proofs
set_option maxRecDepth 100000
set_option linter.unusedSimpArgs false
set_option maxHeartbeats 4000000

def repC (code len floor next : Int) (d : List Nat) : List C:=[.v (.int .i64 code),.v (.int .i64 len),.v (.int .i64 floor),.v (.int .i64 next),.sl (d.map brow)]
structure DO where
 v : VOL
 e : Int
 len : Int
 floor : Int
 next : Int
def fail (v : VOL) (e : Int) : DO:=⟨v,e,0,0,0⟩
def done (v : VOL) : DO:=⟨v,0,lenV v,v.floor,v.next⟩
def doPut (v : VOL) (l : List IT) : DO:=if v.hid = true then fail v 28 else if itemsR v.blocks v.size l = true then done (addW v l) else fail v 23

theorem vC_eq (v : VOL) : volC v = [.v (.int .i64 v.id),.v (.int .i64 v.blocks),.v (.int .i64 v.size),.v (.int .i64 v.per),.sl (v.place.map nrow),.v (.int .i64 v.total),.v (.int .i64 v.next),.v (.bool v.hid),.v (.int .i64 v.floor),.sl (v.pins.map nrow),.sl (v.ws.map wrow)]:=rfl

end Go.Abs

namespace Go.Abs
open Go Go.Proofs
set_option maxRecDepth 100000
set_option linter.unusedSimpArgs false
set_option maxHeartbeats 4000000

structure PU where
 vol : Int
 chunk : Int
 count : Int
 size : Int
 frm : Int
 to : Int
 floor : Int
 ws : List WR
def puC (vol chunk count size frm to floor : Int) (ws : List WR) : List C:=[.v (.int .i64 vol),.v (.int .i64 chunk),.v (.int .i64 count),.v (.int .i64 size),.v (.int .i64 frm),.v (.int .i64 to),.v (.int .i64 floor),.sl (ws.map wrow)]
def pushC (p : PU) : List C:=puC p.vol p.chunk p.count p.size p.frm p.to p.floor p.ws

def shIt (first : Int) (x : IT) : IT:=⟨x.b - first,x.d⟩
def inC (count : Int) (x : IT) : Bool:=decide (0≤x.b) && decide (x.b < count)
def pushItems (first count : Int) (l : List IT) : List IT:=(l.map (shIt first)).filter (inC count)
def pushW (first count : Int) (w : WR) : List WR:=if (pushItems first count w.its).isEmpty then [] else [⟨w.s,pushItems first count w.its⟩]
def pushWs (first count : Int) (l : List WR) : List WR:=l.flatMap (pushW first count)
def pushTo (v : VOL) (mark : Int) : Int:=min (mark + 4) (lenV v)
def pushOk (v : VOL) (n mark : Int) : Bool:=decide (0≤n) && decide (n < v.place.length) && decide (0≤mark) && decide (mark≤lenV v)
def pushP (v : VOL) (n mark : Int) : PU :=
 ⟨v.id,n,min v.per (v.blocks - n * v.per),v.size,mark,pushTo v mark,min v.floor (pushTo v mark),
  pushWs (n * v.per) (min v.per (v.blocks - n * v.per)) ((v.ws.take (pushTo v mark).toNat).drop mark.toNat)⟩
def pushV (v : VOL) (n mark : Int) : PU × Bool :=
 if pushOk v n mark = true then (pushP v n mark,true) else (⟨0,0,0,0,0,0,0,[]⟩,false)

theorem wsR_mem {blocks size : Int} : ∀ {l : List WR} {i : Nat},wsR blocks size i l = true→∀ w ∈ l,itemsR blocks size w.its = true
 | [],_,_,w,hw=>by cases hw
 | x :: l,i,h,w,hw=>by
  simp only [wsR,Bool.and_eq_true] at h
  rcases List.mem_cons.1 hw with rfl | hw
  ·exact h.1.2
  ·exact wsR_mem h.2 w hw
theorem itemsR_mem {blocks size : Int} {l : List IT} (h : itemsR blocks size l = true) : ∀ x ∈ l,0≤x.b∧x.b < blocks∧(x.d.length : Int) = size:=by
 intro x hx
 simp only [itemsR,Bool.and_eq_true] at h
 have:=List.all_eq_true.1 h.1.2 x hx
 simp [itOk] at this
 omega
theorem itemsR_len {blocks size : Int} {l : List IT} (h : itemsR blocks size l = true) : 1≤l.length∧l.length≤8:=by
 simp only [itemsR,Bool.and_eq_true,decide_eq_true_eq] at h
 omega
theorem shape_facts {v : VOL} (h : shapeV v = true) : 0≤v.id∧v.id≤7∧1≤v.blocks∧v.blocks≤256∧1≤v.size∧v.size≤32∧1≤v.per∧v.per≤v.blocks∧(v.place.length : Int) = chunksN v.blocks v.per∧0≤v.total∧v.total≤1099511627776∧∀ g ∈ v.place,1≤g∧g≤7:=by
 simp only [shapeV,shapeP,Bool.and_eq_true,inR_iff,decide_eq_true_eq,List.all_eq_true] at h
 obtain ⟨⟨⟨⟨⟨⟨s1,s2⟩,s3⟩,s4⟩,s5⟩,s6⟩,s7⟩:=h
 exact ⟨s1.1,s1.2,s2.1,s2.2,s3.1,s3.2,s4.1,s4.2,s5,s6.1,s6.2,s7⟩
theorem right_facts {v : VOL} (h : rightV v = true) : shapeV v = true∧0≤v.floor∧v.floor≤lenV v∧pinsR (lenV v) v.floor v.pins = true∧wsR v.blocks v.size 0 v.ws = true:=by
 simp only [rightV,Bool.and_eq_true,decide_eq_true_eq] at h
 obtain ⟨⟨⟨⟨⟨⟨⟨s1,s2⟩,s3⟩,s4⟩,s5⟩,s6⟩,s7⟩,s8⟩:=h
 exact ⟨s1,s5,s6,s7,s8⟩
theorem chunk_lt {b p n : Int} (hp : 1≤p) (hb : 1≤b) (h0 : 0≤n) (hn : n < chunksN b p) : n * p < b:=by
 unfold chunksN at hn
 rw [Int.tdiv_eq_ediv_of_nonneg (by omega)] at hn
 have h1:=Int.ediv_mul_le (b + p - 1) (show p≠0 by omega)
 have h2 : (n + 1) * p≤(b + p - 1) / p * p:=Int.mul_le_mul_of_nonneg_right (by omega) (by omega)
 rw [Int.add_mul] at h2
 omega

theorem pushItems_succ (first count : Int) (l : List IT) (k : Nat) (hk : k < l.length) :
  pushItems first count (l.take (k + 1)) = if inC count (shIt first l[k]) = true then pushItems first count (l.take k) ++ [shIt first l[k]] else pushItems first count (l.take k):=by
 unfold pushItems
 rw [take_one l k hk,List.map_append,List.filter_append]
 split
 ·rename_i h;simp [h]
 ·rename_i h;simp [h]

theorem pushItems_len (first count : Int) (l : List IT) : (pushItems first count l).length≤l.length:=by
 unfold pushItems
 exact Nat.le_trans (List.length_filter_le ..) (by simp)
theorem pushWs_len (first count : Int) : ∀ l : List WR,(pushWs first count l).length≤l.length
 | []=>by simp [pushWs]
 | w :: l=>by
  have:=pushWs_len first count l
  simp only [pushWs,List.flatMap_cons,List.length_append,List.length_cons] at this ⊢
  have h1 : (pushW first count w).length≤1:=by unfold pushW;split <;> simp
  omega
theorem pushWs_succ (first count : Int) (l : List WR) (i : Nat) (hi : i < l.length) : pushWs first count (l.take (i + 1)) = pushWs first count (l.take i) ++ pushW first count l[i]:=by
 unfold pushWs
 rw [take_one l i hi,List.flatMap_append];simp

theorem volume_Push_con (v : VOL) (n mark : Int) (ok : Vok v) (hr : rightV v = true) :
  Con Tryz.prog 43 [.agg (volC v),I n,I mark] [] (.tup [.agg (pushC (pushV v n mark).1),B (pushV v n mark).2]) []:=by
 obtain ⟨ok1,ok2,ok3,ok4⟩:=ok
 obtain ⟨hs,hf0,hf1,hpins,hws⟩:=right_facts hr
 obtain ⟨g1,g2,g3,g4,g5,g6,g7,g8,g9,g10,g11,g12⟩:=shape_facts hs
 refine C_volume_Push nl nl ?_
 simp only [cz,A_volume_Push,argL,objL,List.length_nil,Nat.zero_add,zX,simprocAttr]
 refine aS 16 (fun Q hQ=>by simp only [zS,vC_eq,simprocAttr];exact hQ) ?_
 refine aw_reg 96 (RG.go fun Q hQ=>?_)
 simp only [zS,simprocAttr]
 repeat refine ⟨by ((simp;done)),?_⟩
 refine hQ ?_
 refine rG _ _ (volume_Len_con v) ?_
 refine aEs (fun Q hQ=>by simp only [zS,simprocAttr];repeat refine ⟨by ((simp;done)),?_⟩;exact hQ) ?_
 refine aw_cond _ rfl trivial (fun ht=>?_) (fun hf=>?_)
 ·have hno : pushV v n mark = (⟨0,0,0,0,0,0,0,[]⟩,false):=by
   unfold pushV
   rw [if_neg]
   intro hk
   simp only [pushOk,Bool.and_eq_true,decide_eq_true_eq] at hk
   simp at ht
   omega
  rw [hno]
  simp only [zX]
  refine aR 432 ?_
  refine Fin.data [] (.inr rfl) rfl (by (exact ⟨trivial,trivial⟩)) ?_
  simp only [zL,simprocAttr]
  all_goals ((repeat' (first | exact trivial | rfl | refine ⟨?_,?_⟩)))
 have hok : pushOk v n mark = true:=by
  simp at hf
  simp only [pushOk,Bool.and_eq_true,decide_eq_true_eq]
  omega
 have hyes : pushV v n mark = (pushP v n mark,true):=by unfold pushV;rw [if_pos hok]
 rw [hyes]
 simp only [pushP]
 simp only [pushOk,Bool.and_eq_true,decide_eq_true_eq] at hok
 obtain ⟨⟨⟨hn0,hn1⟩,hm0⟩,hm1⟩:=hok
 have hnp : n * v.per < v.blocks:=chunk_lt g7 g3 hn0 (by rw [← g9];exact hn1)
 have hnp0 : 0≤n * v.per:=Int.mul_nonneg hn0 (by omega)
 obtain ⟨first,hfirst⟩ : ∃ f,f = n * v.per:=⟨_,rfl⟩
 rw [← hfirst] at hnp hnp0 ⊢
 have w1 : IntKind.i64.wrap (n * v.per) = first:=by rw [hfirst,w64 _ (by omega) (by omega)]
 have w2 : IntKind.i64.wrap (v.blocks - first) = v.blocks - first:=w64 _ (by omega) (by omega)
 have hlen : lenV v≤1000000:=by simp [lenV];omega
 have w3 : IntKind.i64.wrap (mark + 4) = mark + 4:=w64 _ (by omega) (by omega)
 obtain ⟨to,hto0⟩ : ∃ t,t = pushTo v mark:=⟨_,rfl⟩
 obtain ⟨count,hco0⟩ : ∃ c,c = min v.per (v.blocks - first):=⟨_,rfl⟩
 rw [← hto0,← hco0]
 have hto : (if lenV v < mark + 4 then lenV v else mark + 4) = to:=by rw [hto0];unfold pushTo;rw [min_if]
 have hco : (if v.blocks - first < v.per then v.blocks - first else v.per) = count:=by rw [hco0,min_if]
 have hto1 : mark≤to∧to≤lenV v:=by rw [hto0];unfold pushTo;omega
 have hcb : 1≤count∧count≤256:=by omega
 have hfl : (if to < v.floor then to else v.floor) = min v.floor to:=by rw [min_if]
 clear hto0 hco0 hfirst
 simp only [zX]
 refine aS 512 (fun Q hQ=>by simp only [zS,w1,simprocAttr];exact hQ) ?_
 refine aBDs 624 (fun Q hQ=>by simp only [zS,w2,hco,w3,simprocAttr];exact hQ) ?_
 refine rC [] (volume_Len_con v) ?_
 refine RG.go fun Q hQ=>?_
 simp only [zS,simprocAttr]
 simp only [I,hto]
 refine hQ (RG.nil ⟨by decide +kernel,?_⟩)
 simp only [zX]
 refine aS 992 (fun Q hQ=>by simp only [zS,hfl,foldMx,simprocAttr];exact hQ) ?_
 have hsl : List.drop mark.toNat (List.take to.toNat (v.ws.map wrow)) = ((v.ws.take to.toNat).drop mark.toNat).map wrow:=by rw [List.map_drop,List.map_take]
 have hsub : ∀ w ∈ (v.ws.take to.toNat).drop mark.toNat,w ∈ v.ws:=fun w hw=>List.mem_of_mem_take (List.mem_of_mem_drop hw)
 have hsubl : ((v.ws.take to.toNat).drop mark.toNat).length≤1000000:=by simp;omega
 refine aw_reg 1136 (RG.go fun Q hQ=>?_)
 simp only [zS,hsl,simprocAttr]
 refine ⟨⟨hm0,hto1.1,by simp [lenV] at hto1 ⊢;omega,wrow_len _⟩,hQ (RG.nil ?_)⟩
 simp only [zX]
 obtain ⟨sub,hsube⟩ : ∃ s,s = (v.ws.take to.toNat).drop mark.toNat:=⟨_,rfl⟩
 rw [← hsube] at hsub hsubl ⊢
 refine aw_loopK (X:={ i : Nat // i≤sub.length }) [6,8,9,70,71] (fun i=>[(72,I i.1)]) [32] (fun i=>[(928,.box [.v (.int .i64 v.id),.v (.int .i64 n),.v (.int .i64 count),.v (.int .i64 v.size),.v (.int .i64 mark),.v (.int .i64 to),.v (.int .i64 (min v.floor to)),.osl 5000]),(5000,.arr 99 2 ((pushWs first count (sub.take i.1)).map wrow) false)]) (fun i=>sub.length - i.1) (⟨0,by omega⟩) ?_ ?_
 ·skip
  simp only [keepS,keepE,Option.getD_some,lk_cons,lkE_cons,List.cons_append,List.nil_append,simprocAttr]
  refine (Le.ownB 928 7 5000 _ 99 2 rfl rfl rfl (by decide)).trans ?_
  simp only [List.set_cons_succ,List.set_cons_zero,setE_cons,setE_nil,simprocAttr]
  refine Le.lit [] [] _ _ ?_ ?_ ?_ ?_
  ·simp only [zL,simprocAttr]
  ·simp only [zL,simprocAttr]
   all_goals (try ((repeat' (first | (exact drows_wrow _) | rfl | refine ⟨?_,?_⟩))))
  ·simp [rlook]
  ·(simp;done)
 rintro ⟨i,hi⟩
 simp only [keepS,keepE,Option.getD_some,lk_cons,lkE_cons,List.cons_append,List.nil_append,simprocAttr]
 simp only [zX]
 refine aR 1312 ?_
 refine aw_cond _ rfl trivial (fun ht=>?_) (fun hf=>?_)
 ·have hi' : i < sub.length:=by simpa using ht
  have hr : ((sub.map wrow)[((i : Int)).toNat]?).getD [] = [.v (.int .i64 sub[i].s),.sl (sub[i].its.map irow)]:=map_get wrow hi' []
  have hmem:=hsub _ (List.getElem_mem hi')
  obtain ⟨hz1,hz2⟩:=ok4 _ hmem
  have hrng:=itemsR_mem (wsR_mem hws _ hmem)
  have hsucc:=pushWs_succ first count sub i hi'
  have hwl : (pushWs first count (sub.take i)).length≤1000000:=by have:=pushWs_len first count (sub.take i);simp at this;omega
  have hpl:=pushItems_len first count sub[i].its
  generalize sub[i] = w at *
  simp only [zX]
  refine aS 1360 (fun Q hQ=>by simp only [zS,hr,simprocAttr];repeat refine ⟨by ((simp;omega)),?_⟩;exact hQ) ?_
  refine aR 1456 ?_
  refine aB 1504 ?_
  refine rC [] (itemsD_con w.its hz1 hz2) ?_
  refine aE ?_
  refine aw_loopK (X:={ k : Nat // k≤w.its.length }) [6,8,9,11,70,71,72,78,79] (fun k=>[(12,.c (.osl 5001)),(80,I k.1)]) [32,928,5000,1392] (fun k=>[(5001,.arr 96 2 ((pushItems first count (w.its.take k.1)).map irow) false)]) (fun k=>w.its.length - k.1) (⟨0,by omega⟩) ?_ ?_
  ·skip
   simp only [keepS,keepE,Option.getD_some,lk_cons,lkE_cons,List.cons_append,List.nil_append,simprocAttr]
   refine (Le.own 12 5001 96 2 rfl rfl (by decide)).trans ?_
   simp only [setS_cons,setE_cons,setE_nil,simprocAttr]
   refine Le.lit [] [] _ _ ?_ ?_ ?_ ?_
   ·simp only [zL,simprocAttr]
   ·simp only [zL,simprocAttr]
    all_goals (try ((repeat' (first | (first | exact drows_irow _ | exact drows_wrow _) | rfl | refine ⟨?_,?_⟩))))
   ·simp [rlook]
   ·(simp;done)
  rintro ⟨k,hk⟩
  simp only [keepS,keepE,Option.getD_some,lk_cons,lkE_cons,List.cons_append,List.nil_append,simprocAttr]
  simp only [zX]
  refine aR 1616 ?_
  refine aw_cond _ rfl trivial (fun ht=>?_) (fun hf=>?_)
  ·have hk' : k < w.its.length:=by simpa using ht
   have hr2 : ((w.its.map irow)[((k : Int)).toNat]?).getD [] = [.v (.int .i64 w.its[k].b),.sl (w.its[k].d.map brow)]:=map_get irow hk' []
   have hps:=pushItems_succ first count w.its k hk'
   have hpk : (pushItems first count (w.its.take k)).length≤1000000:=by have:=pushItems_len first count (w.its.take k);simp at this;omega
   obtain ⟨q1,q2,q3⟩:=hrng _ (List.getElem_mem hk')
   have w5 : IntKind.i64.wrap (w.its[k].b - first) = w.its[k].b - first:=w64 _ (by omega) (by omega)
   simp only [zX]
   refine aS 1664 (fun Q hQ=>by simp only [zS,hr2,simprocAttr];repeat refine ⟨by ((simp;omega)),?_⟩;exact hQ) ?_
   refine aS 1760 (fun Q hQ=>by simp only [zS,w5,simprocAttr];exact hQ) ?_
   refine aR 1888 ?_
   refine aw_cond _ rfl trivial (fun ht=>?_) (fun hf=>?_)
   ·have hin : inC count (shIt first w.its[k]) = true:=ht
    rw [if_pos hin] at hps
    refine aS 2080 (fun Q hQ=>by simp only [zS,simprocAttr];repeat refine ⟨by ((simp;omega)),?_⟩;exact hQ) ?_
    refine aS 2192 (fun Q hQ=>by simp only [zS,wi k _ hk' (by omega),simprocAttr];exact hQ) ?_
    refine ⟨⟨k + 1,hk'⟩,?_,by simp only;omega⟩
    refine Le.lit [] [(5001,2128)] _ _ ?_ ?_ ?_ ?_
    ·simp only [zL,simprocAttr]
    ·simp only [zL,simprocAttr]
     all_goals (rw [hps,List.map_append];(repeat' (first | (first | exact drows_wrow _ | (rw [← List.map_append];first | exact drows_brow _ | exact drows_nrow _ | exact drows_irow _ | exact drows_wrow _)) | rfl | refine ⟨?_,?_⟩)))
    ·simp [rlook]
    ·(simp;done)
   have hin : inC count (shIt first w.its[k]) = false:=hf
   rw [hin,if_neg (by simp)] at hps
   simp only [zX]
   refine aS 2256 (fun Q hQ=>by simp only [zS,wi k _ hk' (by omega),simprocAttr];exact hQ) ?_
   refine ⟨⟨k + 1,hk'⟩,?_,by simp only;omega⟩
   refine Le.lit [] [] _ _ ?_ ?_ ?_ ?_
   ·simp only [zL,simprocAttr]
   ·simp only [zL,simprocAttr]
    all_goals (rw [hps];(repeat' (first | (first | exact drows_irow _ | exact drows_wrow _ | (simp [C.isD];done)) | refine ⟨?_,?_⟩)))
   ·simp [rlook]
   ·(simp;done)
  have hk' : k = w.its.length:=by simp at hf;omega
  subst hk'
  simp only [List.take_length]
  obtain ⟨pit,hpit⟩ : ∃ p,p = pushItems first count w.its:=⟨_,rfl⟩
  have hpw : pushW first count w = if pit.isEmpty then [] else [⟨w.s,pit⟩]:=by rw [hpit];rfl
  simp only [← hpit] at hpl ⊢
  simp only [zX,↓reduceIte]
  refine aR 2320 ?_
  refine aw_cond _ rfl trivial (fun ht=>?_) (fun hf=>?_)
  ·have hne : pit.isEmpty = false:=by cases hpe : pit with
    | nil=>rw [hpe] at ht;simp at ht
    | cons a b=>rfl
   rw [hne,if_neg (by simp)] at hpw
   refine aS 2400 (fun Q hQ=>by simp only [zS,simprocAttr];repeat refine ⟨by ((simp;omega)),?_⟩;exact hQ) ?_
   refine aS 2592 (fun Q hQ=>by simp only [zS,wi i _ hi' (by omega),simprocAttr];exact hQ) ?_
   refine ⟨⟨i + 1,hi'⟩,?_,by simp only;omega⟩
   refine (Le.tell [5001] 2512 99 2 _ ((pushWs first count (sub.take (i + 1))).map wrow) false rfl (by rw [hsucc,hpw,List.map_append];refine tell_app ?_ _;exact ⟨⟨.inl rfl,.inr (.inr ⟨_,_,_,_,rfl,rfl,rfl,drows_irow _⟩),trivial⟩,trivial⟩)).trans ?_
   refine Le.lit [] [(5000,2512)] _ _ ?_ ?_ ?_ ?_
   ·simp only [zL,simprocAttr]
   ·simp only [zL,simprocAttr]
    all_goals (try ((repeat' ((exact drows_wrow _)))))
   ·simp [rlook]
   ·(simp;done)
  have hne : pit.isEmpty = true:=by cases hpe : pit with
   | nil=>rfl
   | cons a b=>rw [hpe] at hf;simp at hf
  rw [hne,if_pos rfl] at hpw
  simp only [zX]
  refine aS 2656 (fun Q hQ=>by simp only [zS,wi i _ hi' (by omega),simprocAttr];exact hQ) ?_
  refine ⟨⟨i + 1,hi'⟩,?_,by simp only;omega⟩
  refine Le.lit [] [] _ _ ?_ ?_ ?_ ?_
  ·simp only [zL,simprocAttr]
  ·simp only [zL,simprocAttr]
   all_goals (rw [hsucc,hpw,List.append_nil];(repeat' (first | (first | exact drows_wrow _ | (simp [C.isD];done)) | refine ⟨?_,?_⟩)))
  ·simp [rlook]
  ·(simp;done)
 have hi' : i = sub.length:=by simp at hf;omega
 subst hi'
 simp only [List.take_length]
 simp only [zX,↓reduceIte]
 refine aR 2720 ?_
 refine Fin.data [5000] (.inr rfl) rfl (by (exact ⟨trivial,trivial⟩)) ?_
 simp only [zL,simprocAttr]
 all_goals ((repeat' (first | exact trivial | rfl | (refine ⟨⟨_,_,rfl⟩,?_⟩;(exact drows_wrow _)) | refine ⟨?_,?_⟩)))

end Go.Abs

namespace Go.Abs
open Go Go.Proofs
set_option maxRecDepth 100000
set_option linter.unusedSimpArgs false
set_option maxHeartbeats 4000000

end Go.Abs

namespace Go.Abs
open Go Go.Proofs
set_option maxRecDepth 100000
set_option linter.unusedSimpArgs false
set_option maxHeartbeats 4000000

theorem pureTA {cs : List C} {x : Value} (h : ∀ c ∈ cs,c.isD = true) : (SV.tup [.agg cs,.c (.v x)]).pureD:=by
 intro s hs
 simp only [List.mem_cons,List.not_mem_nil,or_false] at hs
 rcases hs with rfl | rfl
 ·exact h
 ·rfl
theorem pureTC {r : List (List C)} {x : Value} : (SV.tup [.c (.sl r),.c (.v x)]).pureD:=by
 intro s hs
 simp only [List.mem_cons,List.not_mem_nil,or_false] at hs
 rcases hs with rfl | rfl <;> rfl

end Go.Abs

namespace Go.Abs
open Go Go.Proofs
set_option maxRecDepth 100000
set_option linter.unusedSimpArgs false
set_option maxHeartbeats 4000000

theorem chunks_nn {b p : Int} (hb : 0≤b) (hp : 1≤p) : 0≤chunksN b p∧chunksN b p≤b + p:=by
 unfold chunksN
 rw [Int.tdiv_eq_ediv_of_nonneg (by omega)]
 exact ⟨Int.ediv_nonneg (by omega) (by omega),by have:=Int.ediv_le_self p (show 0≤b + p - 1 by omega);omega⟩

theorem mementoref16_Chunks_con (b p : Int) (hb : 0≤b∧b≤100000) (hp : 1≤p∧p≤100000) : Con Tryz.prog 64 [I b,I p] [] (I (chunksN b p)) []:=by
 have h:=chunks_nn hb.1 hp.1
 have w1 : IntKind.i64.wrap (b + p) = b + p:=w64 _ (by omega) (by omega)
 have w2 : IntKind.i64.wrap (b + p - 1) = b + p - 1:=w64 _ (by omega) (by omega)
 have w3 : IntKind.i64.wrap ((b + p - 1).tdiv p) = chunksN b p:=by
  show IntKind.i64.wrap (chunksN b p) = _
  exact w64 _ (by omega) (by omega)
 refine C_mementoref16_Chunks nl nl ?_
 simp only [cz,A_mementoref16_Chunks,argL,objL,List.length_nil,Nat.zero_add,zX]
 refine aw_reg 16 (RG.go fun Q hQ=>?_)
 simp only [zS,simprocAttr]
 refine hQ (RG.nil ?_)
 simp only [zX]
 refine aw_reg 64 (RG.go fun Q hQ=>?_)
 simp only [zS,w1,w2,w3,simprocAttr]
 repeat refine ⟨by (omega),?_⟩
 refine hQ (RG.nil ?_)
 simp only [zX]
 exact Fin.scalar (.inr rfl) rfl trivial rfl trivial

end Go.Abs

namespace Go.Abs
open Go Go.Proofs
set_option maxRecDepth 100000
set_option linter.unusedSimpArgs false
set_option maxHeartbeats 4000000

def pubV (v : VOL) : VOL:={ v with hid:=false,floor:=v.ws.length }
def impS (v : VOL) (c : CMD) : Option (VOL × Int) :=
 if v.hid = false then some (v,33)
 else if c.kind = 7 then (if v.next = v.total then some (pubV v,0) else some (v,33))
 else if 0≤c.index∧c.index < v.next then some (v,0)
 else if c.index≠v.next∨v.next = v.total then some (v,33)
 else if itemsR v.blocks v.size c.items = true then none else some (v,23)
def addN (v : VOL) (l : List IT) : VOL:={ addW v l with next:=v.next + 1 }

theorem vO_eq (v : VOL) (p w : C) : vO v p w = [.v (.int .i64 v.id),.v (.int .i64 v.blocks),.v (.int .i64 v.size),.v (.int .i64 v.per),.sl (v.place.map nrow),.v (.int .i64 v.total),.v (.int .i64 v.next),.v (.bool v.hid),.v (.int .i64 v.floor),p,w]:=rfl

end Go.Abs

namespace Go.Abs
open Go Go.Proofs
set_option maxRecDepth 100000
set_option linter.unusedSimpArgs false
set_option maxHeartbeats 4000000

def byI (l : List IT) : Prop:=∀ x ∈ l,∀ c ∈ x.d,c < 256
def byW (l : List WR) : Prop:=∀ w ∈ l,byI w.its

theorem neq_of_take {α : Type} {a b : List α} {i : Nat} (hi : i < a.length) (hj : i < b.length) (h : a[i]≠b[i]) : ¬ a = b:=by
 rintro rfl;exact h rfl
theorem take_next {α : Type} {a b : List α} {i : Nat} (hi : i < a.length) (hj : i < b.length) (he : a.take i = b.take i) (h : a[i] = b[i]) : a.take (i + 1) = b.take (i + 1):=by
 rw [take_one a i hi,take_one b i hj,he,h]
theorem it_eq {x y : IT} : x = y ↔ x.b = y.b∧x.d = y.d:=by cases x;cases y;simp
theorem wr_eq {x y : WR} : x = y ↔ x.s = y.s∧x.its = y.its:=by cases x;cases y;simp

theorem vol_eq {a b : VOL} : a = b ↔ (a.id = b.id∧a.blocks = b.blocks∧a.size = b.size∧a.per = b.per∧a.place = b.place∧a.total = b.total)∧a.next = b.next∧a.hid = b.hid∧a.floor = b.floor∧a.pins = b.pins∧a.ws = b.ws:=by
 cases a;cases b;simp [and_assoc]
instance : DecidableEq IT:=fun _ _=>decidable_of_iff _ it_eq.symm
instance : DecidableEq WR:=fun _ _=>decidable_of_iff _ wr_eq.symm
instance : DecidableEq VOL:=fun _ _=>decidable_of_iff _ vol_eq.symm

theorem mementoref13_SameItems_con (a b : List IT) (ha : a.length≤1000000) (hda : byI a) (hdb : byI b) : Con Tryz.prog 41 [.c (.sl (a.map irow)),.c (.sl (b.map irow))] [] (B (decide (a = b))) []:=by
 refine C_mementoref13_SameItems nl nl ?_
 simp only [cz,A_mementoref13_SameItems,argL,objL,List.length_nil,Nat.zero_add,zX]
 refine aR 16 ?_
 refine aS 64 (fun Q hQ=>by simp (disch:=intros;contradiction) only [zS,zW,simprocAttr];exact hQ) ?_
 refine aw_cond _ rfl trivial (fun ht=>?_) (fun hf=>?_)
 ·skip
  try simp at ht
  simp only [zX]
  refine aR 176 ?_
  refine Fin.b (.inr rfl) rfl trivial ?_
  rw [eq_comm,decide_eq_false_iff_not];rintro rfl;exact ht rfl
 try simp at hf
 simp only [zX]
 refine aR 224 ?_
 refine aw_loopK (X:={ i : Nat // i≤a.length∧a.take i = b.take i }) [0,1] (fun i=>[(5,I i.1)]) [] (fun i=>[]) (fun i=>a.length - i.1) (⟨0,by omega,rfl⟩) ?_ ?_
 ·skip
  simp only [keepS,keepE,lk_cons,List.cons_append,List.nil_append,simprocAttr]
  refine Le.lit [] [] _ _ ?_ ?_ ?_ ?_
  ·simp only [zL,simprocAttr]
  ·simp only [zL,simprocAttr]
  ·simp [rlook]
  ·(simp;done)
 rintro ⟨i,hi,he⟩
 simp only [keepS,keepE,lk_cons,List.cons_append,List.nil_append,simprocAttr]
 simp only [zX]
 refine aS 272 (fun Q hQ=>by simp (disch:=intros;contradiction) only [zS,zW,simprocAttr];exact hQ) ?_
 refine aw_cond _ rfl trivial (fun ht=>?_) (fun hf=>?_)
 ·skip
  try simp at ht
  simp only [zX]
  have h1 : i < a.length:=by omega
  have h2 : i < b.length:=by omega
  have hs:=str_eq a[i].d b[i].d (hda _ (List.getElem_mem h1)) (hdb _ (List.getElem_mem h2))
  refine aw_draw 368 (RG.go fun Q hQ=>?_)
  simp (disch:=first | (intros;contradiction) | omega | (simp only [zN];omega)) only [zS,zW,irow,itC,hs,simprocAttr]
  repeat refine ⟨by (first | omega | exact fun h=>⟨isByteRow_brow _,h⟩ | (simp;omega) | (simp;done)),?_⟩
  refine hQ (RG.nil ⟨by decide +kernel,?_⟩)
  simp only [zX]
  refine aw_cond _ rfl trivial (fun ht=>?_) (fun hf=>?_)
  ·skip
   try simp at ht
   simp only [zX]
   refine aR 816 ?_
   refine Fin.b (.inr rfl) rfl trivial ?_
   rw [eq_comm,decide_eq_false_iff_not]
   refine neq_of_take h1 h2 fun e=>?_
   rw [e] at ht;simp at ht
  try simp at hf
  simp only [zX]
  refine aS 864 (fun Q hQ=>by simp (disch:=first | (intros;contradiction) | omega | (simp only [zN];omega)) only [zS,zW,simprocAttr];exact hQ) ?_
  refine ⟨⟨i + 1,by omega,take_next h1 h2 he (it_eq.2 hf)⟩,?_,by first | omega | (simp only;omega)⟩
  refine Le.lit [] [] _ _ ?_ ?_ ?_ ?_
  ·simp only [zL,simprocAttr]
   all_goals (try ((repeat' (rfl))))
  ·simp only [zL,simprocAttr]
  ·simp [rlook]
  ·(simp;done)
 try simp at hf
 simp only [zX,↓reduceIte]
 have hi' : i = a.length:=by omega
 refine aR 944 ?_
 refine Fin.b (.inr rfl) rfl trivial ?_
 rw [eq_comm,decide_eq_true_iff]
 rw [List.take_of_length_le (by omega),List.take_of_length_le (by omega)] at he
 exact he

end Go.Abs

namespace Go.Abs
open Go Go.Proofs
set_option maxRecDepth 100000
set_option linter.unusedSimpArgs false
set_option maxHeartbeats 4000000

theorem mementoref16_shape_con (c : CMD) (hb : c.place.length≤1000000) : Con Tryz.prog 63 [.agg (cmdC c)] [] (B (shapeP c.vol c.blocks c.size c.per c.place c.total)) []:=by
 refine C_mementoref16_shape nl nl ?_
 simp only [cz,A_mementoref16_shape,argL,objL,List.length_nil,zX]
 refine aS 16 (fun Q hQ=>by simp (disch:=intros;contradiction) only [zS,cmdC,cC,simprocAttr];exact hQ) ?_
 refine aw_draw 80 (RG.go fun Q hQ=>?_)
 simp (disch:=intros;contradiction) only [zS,zW,simprocAttr]
 repeat refine ⟨by ((simp;done)),?_⟩
 refine hQ ?_
 refine RG.callg _ _ [] rfl (fun hg=>⟨_,(mementoref16_Chunks_con c.blocks c.per (by simp at hg;omega) (by simp at hg;omega)),by (repeat' (first | exact tr_nil | refine tr_cons ?_ ?_ | exact tr_opt (by simpa using hg) tr_v)),trivial,by (exact .inl trivial)⟩) ?_
 refine RG.go fun Q hQ=>?_
 simp (disch:=intros;contradiction) only [zS,simprocAttr]
 repeat refine ⟨by ((simp;done)),?_⟩
 refine hQ (RG.nil ⟨by decide +kernel,?_⟩)
 simp only [zX]
 refine aw_cond _ rfl trivial (fun ht=>?_) (fun hf=>?_)
 ·skip
  try simp at ht
  simp only [zX]
  refine aR 1088 ?_
  refine Fin.b (.inr rfl) rfl trivial ?_
  rw [eq_comm,Bool.eq_false_iff]
  intro hs
  simp only [shapeP,Bool.and_eq_true,inR_iff,decide_eq_true_eq] at hs
  omega
 try simp at hf
 simp only [zX]
 have hs : shapeP c.vol c.blocks c.size c.per c.place c.total = c.place.all fun n=>inR n 1 7:=by
  have : inR c.vol 0 7 = true∧inR c.blocks 1 256 = true∧inR c.size 1 32 = true∧inR c.per 1 c.blocks = true∧(c.place.length : Int) = chunksN c.blocks c.per∧inR c.total 0 1099511627776 = true:=by
   simp only [inR_iff];omega
  obtain ⟨s1,s2,s3,s4,s5,s6⟩:=this
  simp [shapeP,s1,s2,s3,s4,s5,s6]
 refine aR 1136 ?_
 refine aw_loopK (X:={ i : Nat // i≤c.place.length∧(c.place.take i).all (fun n=>inR n 1 7) = true }) [1] (fun i=>[(3,I i.1)]) [16] (fun i=>[]) (fun i=>c.place.length - i.1) (⟨0,by omega,rfl⟩) ?_ ?_
 ·skip
  simp only [keepS,keepE,Option.getD_some,lk_cons,lkE_cons,List.cons_append,List.nil_append,simprocAttr]
  refine Le.lit [] [] _ _ ?_ ?_ ?_ ?_
  ·simp only [zL,simprocAttr]
  ·simp only [zL,↓reduceIte]
  ·simp [rlook]
  ·(simp;done)
 rintro ⟨i,hi,ha⟩
 simp only [keepS,keepE,Option.getD_some,lk_cons,lkE_cons,List.cons_append,List.nil_append,simprocAttr]
 simp only [zX]
 refine aS 1184 (fun Q hQ=>by simp (disch:=intros;contradiction) only [zS,zW,simprocAttr];exact hQ) ?_
 refine aw_cond _ rfl trivial (fun ht=>?_) (fun hf=>?_)
 ·skip
  try simp at ht
  simp only [zX]
  have h1 : i < c.place.length:=by omega
  refine aw_reg 1296 (RG.go fun Q hQ=>?_)
  simp (disch:=first | (intros;contradiction) | omega | (simp only [zN];omega)) only [zS,zW,nrow,simprocAttr]
  repeat refine ⟨by (first | omega | (simp;omega) | (simp;done)),?_⟩
  refine hQ (RG.nil ?_)
  simp only [zX]
  refine aw_cond _ rfl trivial (fun ht=>?_) (fun hf=>?_)
  ·skip
   try simp at ht
   simp only [zX]
   refine aR 1552 ?_
   refine Fin.b (.inr rfl) rfl trivial ?_
   rw [hs,all_no h1]
   rw [← Bool.not_eq_true,inR_iff];omega
  try simp at hf
  simp only [zX]
  refine aS 1600 (fun Q hQ=>by simp (disch:=first | (intros;contradiction) | omega | (simp only [zN];omega)) only [zS,zW,simprocAttr];exact hQ) ?_
  refine ⟨⟨i + 1,by omega,by rw [all_succ h1,ha,Bool.true_and,inR_iff];omega⟩,?_,by first | omega | (simp only;omega)⟩
  refine Le.lit [] [] _ _ ?_ ?_ ?_ ?_
  ·simp only [zL,simprocAttr]
   all_goals (try ((repeat' (rfl))))
  ·simp only [zL,↓reduceIte]
  ·simp [rlook]
  ·(simp;done)
 try simp at hf
 simp only [zX,↓reduceIte]
 refine aR 1680 ?_
 refine Fin.b (.inr rfl) rfl trivial ?_
 rw [hs,all_yes (by omega) ha]

theorem mementoref16_New_con (c : CMD) (hb : c.place.length≤1000000) : Con Tryz.prog 32 [.agg (cmdC c)] [] (.tup [.agg (volC (newR c).1),I (newR c).2]) []:=by
 refine C_mementoref16_New nl nl ?_
 simp only [cz,A_mementoref16_New,argL,objL,List.length_nil,zX]
 refine aS 16 (fun Q hQ=>by simp (disch:=intros;contradiction) only [zS,cmdC,cC,simprocAttr];exact hQ) ?_
 refine aB 96 ?_
 refine rC [] (mementoref16_shape_con c hb) ?_
 refine aE ?_
 refine aw_cond _ rfl trivial (fun ht=>?_) (fun hf=>?_)
 ·skip
  try simp at ht
  simp only [zX]
  have hn : newR c = (zeroV,23):=by unfold newR;rw [if_neg (by rw [show shapeV (newV c) = shapeP c.vol c.blocks c.size c.per c.place c.total from rfl,ht];simp)]
  rw [hn]
  refine aR 176 ?_
  refine Fin.data [] (.inr rfl) rfl (by (exact ⟨trivial,trivial⟩)) ?_
  simp only [zL,simprocAttr]
  all_goals ((repeat' (first | exact trivial | rfl | refine ⟨?_,?_⟩)))
 try simp at hf
 simp only [zX]
 have hn : newR c = (newV c,0):=by unfold newR;rw [if_pos (show shapeV (newV c) = true from hf)]
 rw [hn]
 refine aSD 256 (fun Q hQ=>by simp (disch:=intros;contradiction) only [zS,zW,simprocAttr];repeat refine ⟨by (exact ⟨by (intro q hq;obtain ⟨_,_,rfl⟩:=List.mem_map.1 hq;rfl),by omega⟩),?_⟩;exact hQ) ?_
 refine Fin.data [416] (.inr rfl) rfl (by (exact ⟨trivial,trivial⟩)) ?_
 simp only [zL,simprocAttr]
 all_goals ((repeat' (first | exact trivial | rfl | (refine ⟨⟨_,_,rfl⟩,?_⟩;(exact drows_nrow _)) | refine ⟨?_,?_⟩)))

theorem mementoref16_own_con (l : List IT) (hl : l.length≤1000000) (hd : ∀ x ∈ l,x.d.length≤1000000) : Con Tryz.prog 131 [.c (.sl (l.map irow))] [] (.c (.osl 0)) [.arr 96 2 (l.map irow) false]:=by
 refine C_mementoref16_own nl nl ?_
 simp only [cz,A_mementoref16_own,argL,objL,List.length_nil,zX]
 refine aR 16 ?_
 refine aR 64 ?_
 refine aR 112 ?_
 refine aw_loopK (X:={ i : Nat // i≤l.length }) [0] (fun i=>[(3,.c (.osl 5000)),(4,I i.1)]) [] (fun i=>[(5000,.arr 96 2 ((l.take i.1).map irow) false)]) (fun i=>l.length - i.1) (⟨0,by omega⟩) ?_ ?_
 ·skip
  simp only [keepS,keepE,lk_cons,List.cons_append,List.nil_append,↓reduceIte]
  refine (Le.own 3 5000 96 2 rfl rfl (by decide)).trans ?_
  simp only [setS_cons,setE_nil,simprocAttr]
  refine Le.lit [] [] _ _ ?_ ?_ ?_ ?_
  ·simp only [zL,simprocAttr]
  ·simp only [zL,simprocAttr]
   all_goals (try ((repeat' (((simp [C.isD];done))))))
  ·simp [rlook]
  ·(simp;done)
 rintro ⟨i,hi⟩
 simp only [keepS,keepE,lk_cons,List.cons_append,List.nil_append,↓reduceIte]
 simp only [zX]
 refine aS 160 (fun Q hQ=>by simp (disch:=intros;contradiction) only [zS,zW,simprocAttr];exact hQ) ?_
 refine aw_cond _ rfl trivial (fun ht=>?_) (fun hf=>?_)
 ·skip
  try simp at ht
  simp only [zX]
  have hdl:=hd _ (List.getElem_mem (show i < l.length by omega))
  refine aw_draw 256 (RG.go fun Q hQ=>?_)
  simp (disch:=first | (intros;contradiction) | omega | (simp only [zN];omega)) only [zS,zW,irow,itC,simprocAttr]
  repeat refine ⟨by (first | omega | exact ⟨by (intro q hq;obtain ⟨_,_,rfl⟩:=List.mem_map.1 hq;rfl),by omega⟩ | (simp;omega)),?_⟩
  refine hQ (RG.nil ⟨by decide +kernel,?_⟩)
  simp only [zX]
  refine aS 544 (fun Q hQ=>by simp (disch:=first | (intros;contradiction) | omega | (simp only [zN];omega)) only [zS,zW,simprocAttr];exact hQ) ?_
  refine ⟨⟨i + 1,by omega⟩,?_,by first | omega | (simp only;omega)⟩
  refine (Le.tell [432] 480 96 2 _ ((l.take (i + 1)).map irow) false rfl (by rw [take_one l i (by omega),List.map_append];refine tell_app ?_ _;exact ⟨⟨.inl rfl,.inr (.inr ⟨_,_,_,_,rfl,rfl,rfl,drows_brow _⟩),trivial⟩,trivial⟩)).trans ?_
  refine Le.lit [] [(5000,480)] _ _ ?_ ?_ ?_ ?_
  ·simp only [zL,simprocAttr]
   all_goals (try ((repeat' (rfl))))
  ·simp only [zL,simprocAttr]
   all_goals (try ((repeat' ((exact drows_irow _)))))
  ·simp [rlook]
  ·(simp;done)
 try simp at hf
 simp only [zX,↓reduceIte]
 obtain rfl : i = l.length:=by omega
 refine aS 624 (fun Q hQ=>by simp (disch:=intros;contradiction) only [zS,zW,simprocAttr];exact hQ) ?_
 refine Fin.objs [] [(0,5000)] (.inr rfl) rfl (by exact trivial) ?_ ?_ (by simp [objL,rlook]) (by (simp [objL,rlook];done))
 ·simp only [zL,simprocAttr]
 ·simp only [zL,simprocAttr]
  all_goals (try ((repeat' ((exact drows_irow _)))))

theorem ownD_con (l : List IT) (hl : l.length≤1000000) (hd : ∀ x ∈ l,x.d.length≤1000000) : Con Tryz.prog 131 [.c (.sl (l.map irow))] [] (.c (.sl (l.map irow))) [] :=
 (mementoref16_own_con l hl hd).rows (drows_irow l)

theorem mementoref16_write_con (v : VOL) (l : List IT) (hv : v.ws.length≤1000000) (hl : l.length≤1000000) (hd : ∀ x ∈ l,x.d.length≤1000000) : Con Tryz.prog 108 [.agg (volC v),.c (.sl (l.map irow))] [] (.agg (volC (addW v l))) []:=by
 refine C_mementoref16_write nl nl ?_
 simp only [cz,A_mementoref16_write,argL,objL,List.length_nil,Nat.zero_add,zX]
 refine aS 16 (fun Q hQ=>by simp (disch:=intros;contradiction) only [zS,vC_eq,simprocAttr];exact hQ) ?_
 refine aBDs 80 (fun Q hQ=>by simp (disch:=intros;contradiction) only [zS,zW,simprocAttr];repeat refine ⟨by (exact ⟨by (intro q hq;obtain ⟨_,_,rfl⟩:=List.mem_map.1 hq;rfl),by omega⟩),?_⟩;exact hQ) ?_
 refine rC [] (mementoref16_Len_con v) ?_
 refine aMs (fun Q hQ=>by simp (disch:=first | (intros;contradiction) | omega | (simp only [zN];omega)) only [zS,zW,lenV,simprocAttr];exact hQ) ?_
 refine rC [] (ownD_con l hl hd) ?_
 refine aEDs (fun Q hQ=>by simp (disch:=intros;contradiction) only [zS,zW,simprocAttr];repeat refine ⟨by ((simp;omega)),?_⟩;exact hQ) ?_
 have hE : (addW v l).ws.map wrow = v.ws.map wrow ++ [wrC (v.ws.length + 1) l]:=by simp [addW,wrow]
 have hE2 : volC (addW v l) = [.v (.int .i64 v.id),.v (.int .i64 v.blocks),.v (.int .i64 v.size),.v (.int .i64 v.per),.sl (v.place.map nrow),.v (.int .i64 v.total),.v (.int .i64 v.next),.v (.bool v.hid),.v (.int .i64 v.floor),.sl (v.pins.map nrow),.sl ((addW v l).ws.map wrow)]:=rfl
 have hdr : isDRows (v.ws.map wrow ++ [wrC (v.ws.length + 1) l]):=by rw [← hE];exact drows_wrow _
 rw [hE2,hE]
 refine aR 320 ?_
 refine Fin.data [240] (.inr rfl) rfl (by (exact ⟨trivial,trivial⟩)) ?_
 simp only [zL,simprocAttr]
 all_goals ((repeat' (first | exact trivial | rfl | (refine ⟨⟨_,_,rfl⟩,?_⟩;(assumption)) | refine ⟨?_,?_⟩)))

end Go.Abs

namespace Go.Abs
open Go Go.Proofs
set_option maxRecDepth 100000
set_option linter.unusedSimpArgs false
set_option maxHeartbeats 4000000

def insP (t : Int) (l : List Int) : List Int:=l.takeWhile (fun x=>decide (x≤t)) ++ t :: l.dropWhile (fun x=>decide (x≤t))
def delP (t : Int) : List Int→List Int
 | []=>[]
 | x :: l=>if x = t then l else x :: delP t l
def doPrune (v : VOL) (t : Int) : DO:=if v.hid = true then fail v 28 else if t < v.floor then fail v 30 else if lowV v < t then fail v 31 else done { v with floor:=t }
def doPin (v : VOL) (t : Int) : DO:=if v.hid = true then fail v 28 else if t < v.floor then fail v 30 else if lenV v < t then fail v 31 else done { v with pins:=insP t v.pins }
def doUnpin (v : VOL) (t : Int) : DO:=if v.hid = true then fail v 28 else if t ∈ v.pins then done { v with pins:=delP t v.pins } else fail v 28
def doImp (v : VOL) (c : CMD) : DO:=match impS v c with
 | none=>done (addN v c.items)
 | some (w,e)=>if e = 0 then done w else fail v e
def doV (v : VOL) (c : CMD) : DO :=
 if c.kind = 2 then doPut v c.items else if c.kind = 3 then doPrune v c.at' else if c.kind = 4 then doPin v c.at' else if c.kind = 5 then doUnpin v c.at'
 else if c.kind = 6∨c.kind = 7 then doImp v c else if c.kind = 8 then done v else fail v 23

theorem volC_pure (v : VOL) : (SV.agg (volC v)).pureD:=by
 intro c hc
 simp only [vC_eq,List.mem_cons,List.not_mem_nil,or_false] at hc
 rcases hc with rfl | rfl | rfl | rfl | rfl | rfl | rfl | rfl | rfl | rfl | rfl <;> rfl
abbrev doneR (v : VOL) (d : DO) : SV:=.tup [.agg (volC d.v),I d.e]

theorem done_put (v : VOL) (c : CMD) (ok : Vok v) (hk : c.kind = 2) (hl : c.items.length≤1000000) (hd : ∀ x ∈ c.items,x.d.length≤1000000) :
  Con Tryz.prog 90 [.agg (volC v),.agg (cmdC c)] [] (doneR v (doV v c)) []:=by
 rw [show doV v c = doPut v c.items from by unfold doV;rw [if_pos hk]]
 refine C_mementoref16_done nl nl ?_
 simp only [cz,A_mementoref16_done,argL,objL,List.length_nil,Nat.zero_add,zX]
 refine aS 16 (fun Q hQ=>by simp (disch:=intros;contradiction) only [zS,vC_eq,cmdC,cC,hk,simprocAttr];exact hQ) ?_
 refine aR 112 ?_
 refine aR 176 ?_
 refine aT ?_
 refine aT ?_
 refine aR 240 ?_
 refine aw_cond _ rfl trivial (fun ht=>?_) (fun hf=>?_)
 ·skip
  try simp at ht
  simp only [zX]
  rw [show doPut v c.items = fail v 28 from by unfold doPut;rw [if_pos ht]]
  refine aR 304 ?_
  refine Fin.data [] (.inr rfl) rfl (by (exact ⟨trivial,trivial⟩)) ?_
  simp only [zL,simprocAttr]
  all_goals ((repeat' (first | exact trivial | rfl | refine ⟨?_,?_⟩)))
 try simp at hf
 simp only [zX]
 have hf0:=hf
 refine aR 384 ?_
 refine aR 448 ?_
 refine aT ?_
 refine aB 512 ?_
 refine rC [] (mementoref13_ItemsRight_con v.blocks v.size c.items hl hd) ?_
 refine aE ?_
 refine aw_cond _ rfl trivial (fun ht=>?_) (fun hf=>?_)
 ·skip
  try simp at ht
  simp only [zX]
  rw [show doPut v c.items = fail v 23 from by unfold doPut;rw [if_neg (by simp [hf]),if_neg (by simp [ht])]]
  refine aR 672 ?_
  refine Fin.data [] (.inr rfl) rfl (by (exact ⟨trivial,trivial⟩)) ?_
  simp only [zL,simprocAttr]
  all_goals ((repeat' (first | exact trivial | rfl | refine ⟨?_,?_⟩)))
 try simp at hf
 simp only [zX]
 rw [show doPut v c.items = done (addW v c.items) from by unfold doPut;rw [if_neg (by simp [hf0]),if_pos hf]]
 refine aB 752 ?_
 refine rC [] (mementoref16_write_con v c.items ok.ws hl hd) ?_ (hs:=(by exact .inr ⟨volC_pure _,trivial⟩))
 refine aEs (fun Q hQ=>by simp (disch:=intros;contradiction) only [zS,vC_eq,simprocAttr];exact hQ) ?_
 refine Fin.data [] (.inr rfl) rfl (by (exact ⟨trivial,trivial⟩)) ?_
 simp only [zL,simprocAttr]
 all_goals ((repeat' (first | exact trivial | rfl | refine ⟨?_,?_⟩)))

theorem done_prune (v : VOL) (c : CMD) (ok : Vok v) (hk : c.kind = 3) :
  Con Tryz.prog 90 [.agg (volC v),.agg (cmdC c)] [] (doneR v (doV v c)) []:=by
 rw [show doV v c = doPrune v c.at' from by unfold doV;rw [if_neg (by omega),if_pos hk]]
 unfold doPrune
 refine C_mementoref16_done nl nl ?_
 simp only [cz,A_mementoref16_done,argL,objL,List.length_nil,Nat.zero_add,zX]
 refine aS 16 (fun Q hQ=>by simp (disch:=intros;contradiction) only [zS,vC_eq,cmdC,cC,hk,simprocAttr];exact hQ) ?_
 refine aR 112 ?_
 refine aR 176 ?_
 refine aF ?_
 refine aR 240 ?_
 refine aT ?_
 refine aT ?_
 refine aR 304 ?_
 refine aw_cond _ rfl trivial (fun ht=>?_) (fun hf=>?_)
 ·skip
  try simp at ht
  simp only [zX]
  rw [if_pos ht]
  refine aR 368 ?_
  refine Fin.data [] (.inr rfl) rfl (by (exact ⟨trivial,trivial⟩)) ?_
  simp only [zL,simprocAttr]
  all_goals ((repeat' (first | exact trivial | rfl | refine ⟨?_,?_⟩)))
 try simp at hf
 simp only [zX]
 rw [if_neg (by simp [hf])]
 refine aR 448 ?_
 refine aR 512 ?_
 refine aF ?_
 refine aR 576 ?_
 refine aT ?_
 refine aR 640 ?_
 refine aw_cond _ rfl trivial (fun ht=>?_) (fun hf=>?_)
 ·skip
  try simp at ht
  simp only [zX]
  rw [if_pos ht]
  refine aR 752 ?_
  refine Fin.data [] (.inr rfl) rfl (by (exact ⟨trivial,trivial⟩)) ?_
  simp only [zL,simprocAttr]
  all_goals ((repeat' (first | exact trivial | rfl | refine ⟨?_,?_⟩)))
 try simp at hf
 simp only [zX]
 rw [if_neg (by omega)]
 refine aBD 832 ?_
 refine rC [] (mementoref16_Low_con v ok.pins) ?_
 refine aED ?_
 refine aw_cond _ rfl trivial (fun ht=>?_) (fun hf=>?_)
 ·skip
  try simp at ht
  simp only [zX]
  rw [if_pos ht]
  refine aR 944 ?_
  refine Fin.data [] (.inr rfl) rfl (by (exact ⟨trivial,trivial⟩)) ?_
  simp only [zL,simprocAttr]
  all_goals ((repeat' (first | exact trivial | rfl | refine ⟨?_,?_⟩)))
 try simp at hf
 simp only [zX]
 rw [if_neg (by omega)]
 refine aR 1024 ?_
 refine aR 1120 ?_
 refine Fin.data [] (.inr rfl) rfl (by (exact ⟨trivial,trivial⟩)) ?_
 simp only [zL,simprocAttr]
 all_goals ((repeat' (first | exact trivial | rfl | refine ⟨?_,?_⟩)))

theorem done_stat (v : VOL) (c : CMD) (hk : c.kind = 8) :
  Con Tryz.prog 90 [.agg (volC v),.agg (cmdC c)] [] (doneR v (doV v c)) []:=by
 rw [show doV v c = done v from by unfold doV;rw [if_neg (by omega),if_neg (by omega),if_neg (by omega),if_neg (by omega),if_neg (by omega),if_pos hk]]
 refine C_mementoref16_done nl nl ?_
 simp only [cz,A_mementoref16_done,argL,objL,List.length_nil,Nat.zero_add,zX]
 refine aS 16 (fun Q hQ=>by simp (disch:=intros;contradiction) only [zS,vC_eq,cmdC,cC,hk,simprocAttr];exact hQ) ?_
 refine aR 112 ?_
 refine aR 176 ?_
 refine aF ?_
 refine aR 240 ?_
 refine aF ?_
 refine aR 304 ?_
 refine aw_cond _ rfl trivial (fun ht=>by cases ht) (fun hf=>?_)
 refine aR 368 ?_
 refine aF ?_
 refine aR 432 ?_
 refine aR 496 ?_
 refine aF ?_
 refine aR 560 ?_
 refine aF ?_
 refine aR 624 ?_
 refine aF ?_
 refine aR 688 ?_
 refine aF ?_
 refine aR 752 ?_
 refine aF ?_
 refine aR 816 ?_
 refine aF ?_
 refine aR 880 ?_
 refine aT ?_
 refine aR 944 ?_
 refine Fin.data [] (.inr rfl) rfl (by (exact ⟨trivial,trivial⟩)) ?_
 simp only [zL,simprocAttr]
 all_goals ((repeat' (first | exact trivial | rfl | refine ⟨?_,?_⟩)))

theorem done_other (v : VOL) (c : CMD) (hk : c.kind < 2∨8 < c.kind) :
  Con Tryz.prog 90 [.agg (volC v),.agg (cmdC c)] [] (doneR v (doV v c)) []:=by
 rw [show doV v c = fail v 23 from by unfold doV;rw [if_neg (by omega),if_neg (by omega),if_neg (by omega),if_neg (by omega),if_neg (by omega),if_neg (by omega)]]
 have h2 : (c.kind == 2) = false:=by rw [beq_eq_false_iff_ne];omega
 have h3 : (c.kind == 3) = false:=by rw [beq_eq_false_iff_ne];omega
 have h4 : (c.kind == 4) = false:=by rw [beq_eq_false_iff_ne];omega
 have h5 : (c.kind == 5) = false:=by rw [beq_eq_false_iff_ne];omega
 have h6 : (c.kind == 6) = false:=by rw [beq_eq_false_iff_ne];omega
 have h7 : (c.kind == 7) = false:=by rw [beq_eq_false_iff_ne];omega
 have h8 : (c.kind == 8) = false:=by rw [beq_eq_false_iff_ne];omega
 refine C_mementoref16_done nl nl ?_
 simp only [cz,A_mementoref16_done,argL,objL,List.length_nil,Nat.zero_add,zX]
 refine aS 16 (fun Q hQ=>by simp (disch:=intros;contradiction) only [zS,vC_eq,cmdC,cC,simprocAttr];exact hQ) ?_
 refine aR 112 ?_
 refine aS 176 (fun Q hQ=>by simp (disch:=intros;contradiction) only [zS,h2,simprocAttr];exact hQ) ?_
 refine aF ?_
 refine aS 240 (fun Q hQ=>by simp (disch:=intros;contradiction) only [zS,h3,simprocAttr];exact hQ) ?_
 refine aF ?_
 refine aS 304 (fun Q hQ=>by simp (disch:=intros;contradiction) only [zS,h4,simprocAttr];exact hQ) ?_
 refine aw_cond _ rfl trivial (fun ht=>by cases ht) (fun hf=>?_)
 refine aS 368 (fun Q hQ=>by simp (disch:=intros;contradiction) only [zS,h5,simprocAttr];exact hQ) ?_
 refine aF ?_
 refine aR 432 ?_
 refine aS 496 (fun Q hQ=>by simp (disch:=intros;contradiction) only [zS,h2,simprocAttr];exact hQ) ?_
 refine aF ?_
 refine aS 560 (fun Q hQ=>by simp (disch:=intros;contradiction) only [zS,h3,simprocAttr];exact hQ) ?_
 refine aF ?_
 refine aS 624 (fun Q hQ=>by simp (disch:=intros;contradiction) only [zS,h4,simprocAttr];exact hQ) ?_
 refine aF ?_
 refine aS 688 (fun Q hQ=>by simp (disch:=intros;contradiction) only [zS,h5,simprocAttr];exact hQ) ?_
 refine aF ?_
 refine aS 752 (fun Q hQ=>by simp (disch:=intros;contradiction) only [zS,h6,simprocAttr];exact hQ) ?_
 refine aF ?_
 refine aS 816 (fun Q hQ=>by simp (disch:=intros;contradiction) only [zS,h7,simprocAttr];exact hQ) ?_
 refine aF ?_
 refine aS 880 (fun Q hQ=>by simp (disch:=intros;contradiction) only [zS,h8,simprocAttr];exact hQ) ?_
 refine aF ?_
 refine aR 944 ?_
 refine Fin.data [] (.inr rfl) rfl (by (exact ⟨trivial,trivial⟩)) ?_
 simp only [zL,simprocAttr]
 all_goals ((repeat' (first | exact trivial | rfl | refine ⟨?_,?_⟩)))

end Go.Abs

namespace Go.Abs
open Go Go.Proofs
set_option maxRecDepth 100000
set_option linter.unusedSimpArgs false
set_option maxHeartbeats 4000000

theorem while_of {p : Int→Bool} : ∀ {l : List Int} {k : Nat},(l.take k).all p = true→(∀ h : k < l.length,p l[k] = false)→l.takeWhile p = l.take k∧l.dropWhile p = l.drop k
 | [],k,_,_=>by simp
 | x :: l,0,_,h=>by
  have:=h (by simp)
  simp at this
  simp [this]
 | x :: l,k + 1,ha,h=>by
  simp only [List.take_succ_cons,List.all_cons,Bool.and_eq_true] at ha
  obtain ⟨h1,h2⟩:=while_of (l:=l) (k:=k) ha.2 (fun hk=>by have:=h (by simp;omega);simpa using this)
  simp [ha.1,h1,h2]
theorem delP_at {t : Int} : ∀ {l : List Int} {k : Nat} (hk : k < l.length),l[k] = t→(∀ x ∈ l.take k,x≠t)→delP t l = l.take k ++ l.drop (k + 1)
 | x :: l,0,_,h,_=>by simp at h;simp [delP,h]
 | x :: l,k + 1,hk,h,hn=>by
  have hx : x≠t:=hn x (by simp)
  have ih:=delP_at (l:=l) (k:=k) (by simpa using hk) (by simpa using h) (fun y hy=>hn y (by simp [hy]))
  simp [delP,hx,ih]

theorem take_ne {l : List Int} {k : Nat} {t : Int} (h1 : k < l.length) (h : ∀ x ∈ l.take k,x≠t) (hk : l[k]≠t) : ∀ x ∈ l.take (k + 1),x≠t:=by
 intro x hx
 rw [take_one _ _ h1] at hx
 rcases List.mem_append.1 hx with h2 | h2
 ·exact h x h2
 ·rw [List.mem_singleton.1 h2];exact hk
theorem doneR_pins (v : VOL) (p : List Int) : doneR v (done { v with pins:=p }) = .tup [.agg (vO v (.sl (p.map nrow)) (.sl (v.ws.map wrow))),I 0]:=rfl
theorem done_pin (v : VOL) (c : CMD) (ok : Vok v) (hk : c.kind = 4) :
  Con Tryz.prog 90 [.agg (volC v),.agg (cmdC c)] [] (doneR v (doV v c)) []:=by
 rw [show doV v c = doPin v c.at' from by unfold doV;rw [if_neg (by omega),if_neg (by omega),if_pos hk]]
 unfold doPin
 have o2:=ok.pins
 refine C_mementoref16_done nl nl ?_
 simp only [cz,A_mementoref16_done,argL,objL,List.length_nil,Nat.zero_add,zX]
 refine aS 16 (fun Q hQ=>by simp (disch:=intros;contradiction) only [zS,vC_eq,cmdC,cC,hk,simprocAttr];exact hQ) ?_
 refine aR 112 ?_
 refine aR 176 ?_
 refine aF ?_
 refine aR 240 ?_
 refine aF ?_
 refine aR 304 ?_
 refine aT ?_
 refine aT ?_
 refine aR 368 ?_
 refine aw_cond _ rfl trivial (fun ht=>?_) (fun hf=>?_)
 ·skip
  try simp at ht
  simp only [zX]
  rw [if_pos ht]
  refine aR 432 ?_
  refine Fin.data [] (.inr rfl) rfl (by (exact ⟨trivial,trivial⟩)) ?_
  simp only [zL,simprocAttr]
  all_goals ((repeat' (first | exact trivial | rfl | refine ⟨?_,?_⟩)))
 try simp at hf
 simp only [zX]
 rw [if_neg (by simp [hf])]
 refine aR 512 ?_
 refine aR 576 ?_
 refine aF ?_
 refine aR 640 ?_
 refine aF ?_
 refine aR 704 ?_
 refine aT ?_
 refine aR 768 ?_
 refine aw_cond _ rfl trivial (fun ht=>?_) (fun hf=>?_)
 ·skip
  try simp at ht
  simp only [zX]
  rw [if_pos ht]
  refine aR 880 ?_
  refine Fin.data [] (.inr rfl) rfl (by (exact ⟨trivial,trivial⟩)) ?_
  simp only [zL,simprocAttr]
  all_goals ((repeat' (first | exact trivial | rfl | refine ⟨?_,?_⟩)))
 try simp at hf
 simp only [zX]
 rw [if_neg (by omega)]
 refine aBD 960 ?_
 refine rC [] (mementoref16_Len_con v) ?_
 refine aED ?_
 refine aw_cond _ rfl trivial (fun ht=>?_) (fun hf=>?_)
 ·skip
  try simp at ht
  simp only [zX]
  rw [if_pos ht]
  refine aR 1072 ?_
  refine Fin.data [] (.inr rfl) rfl (by (exact ⟨trivial,trivial⟩)) ?_
  simp only [zL,simprocAttr]
  all_goals ((repeat' (first | exact trivial | rfl | refine ⟨?_,?_⟩)))
 try simp at hf
 simp only [zX]
 rw [if_neg (by omega)]
 refine aR 1152 ?_
 refine aw_loopK (X:={ k : Nat // k≤v.pins.length∧(v.pins.take k).all (fun x=>decide (x≤c.at')) = true }) [2,3,4] (fun k=>[(6,I k.1)]) [16,32,48] (fun k=>[]) (fun k=>v.pins.length - k.1) (⟨0,by omega,rfl⟩) ?_ ?_
 ·skip
  simp only [keepS,keepE,Option.getD_some,lk_cons,lkE_cons,List.cons_append,List.nil_append,simprocAttr]
  refine Le.lit [] [] _ _ ?_ ?_ ?_ ?_
  ·simp only [zL,simprocAttr]
  ·simp only [zL,simprocAttr]
  ·simp [rlook]
  ·(simp;done)
 rintro ⟨k,hk1,hk2⟩
 simp only [keepS,keepE,Option.getD_some,lk_cons,lkE_cons,List.cons_append,List.nil_append,simprocAttr]
 simp only [zX]
 by_cases h1 : k < v.pins.length
 ·skip
  refine aSD 1200 (fun Q hQ=>by simp (disch:=first | (intros;contradiction) | omega | (simp only [zN];omega)) only [zS,zW,nrow,simprocAttr];repeat refine ⟨by ((simp;done)),?_⟩;exact hQ) ?_
  refine aw_cond _ rfl trivial (fun ht=>?_) (fun hf=>?_)
  ·skip
   try simp at ht
   simp only [zX]
   refine aS 1472 (fun Q hQ=>by simp (disch:=first | (intros;contradiction) | omega | (simp only [zN];omega)) only [zS,zW,simprocAttr];exact hQ) ?_
   refine ⟨⟨k + 1,h1,by rw [all_succ h1,hk2];simp;omega⟩,?_,by first | omega | (simp only;omega)⟩
   refine Le.lit [] [] _ _ ?_ ?_ ?_ ?_
   ·simp only [zL,simprocAttr]
    all_goals (try ((repeat' (rfl))))
   ·simp only [zL,simprocAttr]
   ·simp [rlook]
   ·(simp;done)
  try simp at hf
  simp only [zX,↓reduceIte]
  obtain ⟨w1,w2⟩:=while_of (p:=fun x=>decide (x≤c.at')) hk2 (fun _=>by simp;omega)
  rw [show insP c.at' v.pins = v.pins.take k ++ c.at' :: v.pins.drop k from by unfold insP;rw [w1,w2]]
  refine aw_draw 1552 (RG.go fun Q hQ=>?_)
  simp (disch:=intros;contradiction) only [zS,zW,simprocAttr]
  repeat refine ⟨by (first | exact ⟨by (intro q hq;obtain ⟨_,_,rfl⟩:=List.mem_map.1 hq;rfl),by omega⟩ | (simp;omega) | (refine ⟨?_,?_⟩ <;> (repeat' (first | omega | (intro q hq;obtain ⟨_,_,rfl⟩:=List.mem_map.1 hq;rfl) | refine ⟨?_,?_⟩)))),?_⟩
  refine hQ (RG.nil ⟨by decide +kernel,?_⟩)
  simp only [zX]
  have hp : (v.pins.take k ++ c.at' :: v.pins.drop k).map nrow = (v.pins.take k).map nrow ++ [[.v (.int .i64 c.at')]] ++ (v.pins.drop k).map nrow:=by simp [nrow]
  have hdr:=drows_nrow (v.pins.take k ++ c.at' :: v.pins.drop k)
  rw [hp] at hdr
  rw [doneR_pins,hp,vO_eq]
  refine aR 1840 ?_
  refine Fin.data [1760] (.inr rfl) rfl (by (exact ⟨trivial,trivial⟩)) ?_
  simp only [zL,simprocAttr]
  all_goals ((repeat' (first | exact trivial | rfl | (refine ⟨⟨_,_,rfl⟩,?_⟩;(assumption)) | refine ⟨?_,?_⟩)))
 refine aw_draw 1920 (RG.go fun Q hQ=>?_)
 simp (disch:=first | (intros;contradiction) | omega | (simp only [zN];omega)) only [zS,zW,simprocAttr]
 repeat refine ⟨by ((simp;omega)),?_⟩
 refine hQ (RG.nil ⟨by decide +kernel,?_⟩)
 simp only [zX]
 refine aw_cond _ rfl trivial (fun ht=>by simp at ht) (fun hf=>?_)
 simp only [zX,↓reduceIte]
 obtain ⟨w1,w2⟩:=while_of (p:=fun x=>decide (x≤c.at')) hk2 (fun h=>absurd h h1)
 rw [show insP c.at' v.pins = v.pins.take k ++ c.at' :: v.pins.drop k from by unfold insP;rw [w1,w2]]
 refine aw_draw 2192 (RG.go fun Q hQ=>?_)
 simp (disch:=intros;contradiction) only [zS,zW,simprocAttr]
 repeat refine ⟨by (first | exact ⟨by (intro q hq;obtain ⟨_,_,rfl⟩:=List.mem_map.1 hq;rfl),by omega⟩ | (simp;omega) | (refine ⟨?_,?_⟩ <;> (repeat' (first | omega | (intro q hq;obtain ⟨_,_,rfl⟩:=List.mem_map.1 hq;rfl) | refine ⟨?_,?_⟩)))),?_⟩
 refine hQ (RG.nil ⟨by decide +kernel,?_⟩)
 simp only [zX]
 have hp : (v.pins.take k ++ c.at' :: v.pins.drop k).map nrow = (v.pins.take k).map nrow ++ [[.v (.int .i64 c.at')]] ++ (v.pins.drop k).map nrow:=by simp [nrow]
 have hdr:=drows_nrow (v.pins.take k ++ c.at' :: v.pins.drop k)
 rw [hp] at hdr
 rw [doneR_pins,hp,vO_eq]
 refine aR 2480 ?_
 refine Fin.data [2400] (.inr rfl) rfl (by (exact ⟨trivial,trivial⟩)) ?_
 simp only [zL,simprocAttr]
 all_goals ((repeat' (first | exact trivial | rfl | (refine ⟨⟨_,_,rfl⟩,?_⟩;(assumption)) | refine ⟨?_,?_⟩)))

theorem done_unpin (v : VOL) (c : CMD) (ok : Vok v) (hk : c.kind = 5) :
  Con Tryz.prog 90 [.agg (volC v),.agg (cmdC c)] [] (doneR v (doV v c)) []:=by
 rw [show doV v c = doUnpin v c.at' from by unfold doV;rw [if_neg (by omega),if_neg (by omega),if_neg (by omega),if_pos hk]]
 unfold doUnpin
 have o2:=ok.pins
 refine C_mementoref16_done nl nl ?_
 simp only [cz,A_mementoref16_done,argL,objL,List.length_nil,Nat.zero_add,zX]
 refine aS 16 (fun Q hQ=>by simp (disch:=intros;contradiction) only [zS,vC_eq,cmdC,cC,hk,simprocAttr];exact hQ) ?_
 refine aR 112 ?_
 refine aR 176 ?_
 refine aF ?_
 refine aR 240 ?_
 refine aF ?_
 refine aR 304 ?_
 refine aw_cond _ rfl trivial (fun ht=>by cases ht) (fun hf=>?_)
 refine aR 368 ?_
 refine aT ?_
 refine aR 432 ?_
 refine aw_cond _ rfl trivial (fun ht=>?_) (fun hf=>?_)
 ·skip
  try simp at ht
  simp only [zX]
  rw [if_pos ht]
  refine aR 496 ?_
  refine Fin.data [] (.inr rfl) rfl (by (exact ⟨trivial,trivial⟩)) ?_
  simp only [zL,simprocAttr]
  all_goals ((repeat' (first | exact trivial | rfl | refine ⟨?_,?_⟩)))
 try simp at hf
 simp only [zX]
 rw [if_neg (by simp [hf])]
 refine aR 576 ?_
 refine aR 640 ?_
 refine aF ?_
 refine aR 704 ?_
 refine aF ?_
 refine aR 768 ?_
 refine aF ?_
 refine aR 832 ?_
 refine aT ?_
 refine aR 896 ?_
 refine aw_loopK (X:={ k : Nat // k≤v.pins.length∧∀ x ∈ v.pins.take k,x≠c.at' }) [2,3,4] (fun k=>[(7,I k.1)]) [16,32,48] (fun k=>[]) (fun k=>v.pins.length - k.1) (⟨0,by omega,by simp⟩) ?_ ?_
 ·skip
  simp only [keepS,keepE,Option.getD_some,lk_cons,lkE_cons,List.cons_append,List.nil_append,simprocAttr]
  refine Le.lit [] [] _ _ ?_ ?_ ?_ ?_
  ·simp only [zL,simprocAttr]
  ·simp only [zL,simprocAttr]
  ·simp [rlook]
  ·(simp;done)
 rintro ⟨k,hk1,hk2⟩
 simp only [keepS,keepE,Option.getD_some,lk_cons,lkE_cons,List.cons_append,List.nil_append,simprocAttr]
 simp only [zX]
 refine aS 944 (fun Q hQ=>by simp (disch:=intros;contradiction) only [zS,zW,simprocAttr];exact hQ) ?_
 refine aw_cond _ rfl trivial (fun ht=>?_) (fun hf=>?_)
 ·skip
  try simp at ht
  simp only [zX]
  have h1 : k < v.pins.length:=by omega
  refine aSD 1056 (fun Q hQ=>by simp (disch:=first | (intros;contradiction) | omega | (simp only [zN];omega)) only [zS,zW,nrow,simprocAttr];repeat refine ⟨by (omega),?_⟩;exact hQ) ?_
  refine aw_cond _ rfl trivial (fun ht=>?_) (fun hf=>?_)
  ·skip
   try simp at ht
   simp only [zX]
   rw [if_pos (by rw [← ht];exact List.getElem_mem h1)]
   rw [delP_at h1 ht hk2]
   refine aw_draw 1216 (RG.go fun Q hQ=>?_)
   simp (disch:=first | (intros;contradiction) | omega | (simp only [zN];omega)) only [zS,zW,simprocAttr]
   repeat refine ⟨by (first | exact ⟨by (intro q hq;obtain ⟨_,_,rfl⟩:=List.mem_map.1 hq;rfl),by omega⟩ | (refine ⟨?_,?_⟩ <;> (repeat' (first | omega | (intro q hq;obtain ⟨_,_,rfl⟩:=List.mem_map.1 hq;rfl) | refine ⟨?_,?_⟩)))),?_⟩
   refine hQ (RG.nil ⟨by decide +kernel,?_⟩)
   simp only [zX]
   have hp : (v.pins.take k ++ v.pins.drop (k + 1)).map nrow = (v.pins.take k).map nrow ++ (v.pins.drop (k + 1)).map nrow:=by simp
   have hdr:=drows_nrow (v.pins.take k ++ v.pins.drop (k + 1))
   rw [hp] at hdr
   rw [doneR_pins,hp,vO_eq]
   refine aR 1456 ?_
   refine Fin.data [1376] (.inr rfl) rfl (by (exact ⟨trivial,trivial⟩)) ?_
   simp only [zL,simprocAttr]
   all_goals ((repeat' (first | exact trivial | rfl | (refine ⟨⟨_,_,rfl⟩,?_⟩;(assumption)) | refine ⟨?_,?_⟩)))
  try simp at hf
  simp only [zX]
  refine aS 1536 (fun Q hQ=>by simp (disch:=first | (intros;contradiction) | omega | (simp only [zN];omega)) only [zS,zW,simprocAttr];exact hQ) ?_
  refine ⟨⟨k + 1,h1,take_ne h1 hk2 hf⟩,?_,by first | omega | (simp only;omega)⟩
  refine Le.lit [] [] _ _ ?_ ?_ ?_ ?_
  ·simp only [zL,simprocAttr]
   all_goals (try ((repeat' (rfl))))
  ·simp only [zL,simprocAttr]
  ·simp [rlook]
  ·(simp;done)
 try simp at hf
 simp only [zX,↓reduceIte]
 have hk' : k = v.pins.length:=by omega
 rw [hk',List.take_length] at hk2
 rw [if_neg (fun h=>hk2 _ h rfl)]
 refine aR 1616 ?_
 refine Fin.data [] (.inr rfl) rfl (by (exact ⟨trivial,trivial⟩)) ?_
 simp only [zL,simprocAttr]
 all_goals ((repeat' (first | exact trivial | rfl | refine ⟨?_,?_⟩)))

end Go.Abs

namespace Go.Abs
open Go Go.Proofs
set_option maxRecDepth 100000
set_option linter.unusedSimpArgs false
set_option maxHeartbeats 4000000

theorem doImp_none {v : VOL} {c : CMD} (h : impS v c = none) : doImp v c = done (addN v c.items):=by unfold doImp;rw [h]
theorem doImp_some {v w : VOL} {c : CMD} {e : Int} (h : impS v c = some (w,e)) : doImp v c = if e = 0 then done w else fail v e:=by unfold doImp;rw [h]

theorem done_publish (v : VOL) (c : CMD) (hk : c.kind = 7) :
  Con Tryz.prog 90 [.agg (volC v),.agg (cmdC c)] [] (doneR v (doV v c)) []:=by
 rw [show doV v c = doImp v c from by unfold doV;rw [if_neg (by omega),if_neg (by omega),if_neg (by omega),if_neg (by omega),if_pos (by omega)]]
 refine C_mementoref16_done nl nl ?_
 simp only [cz,A_mementoref16_done,argL,objL,List.length_nil,Nat.zero_add,zX]
 refine aS 16 (fun Q hQ=>by simp (disch:=intros;contradiction) only [zS,vC_eq,cmdC,cC,hk,simprocAttr];exact hQ) ?_
 refine aR 112 ?_
 refine aR 176 ?_
 refine aF ?_
 refine aR 240 ?_
 refine aF ?_
 refine aR 304 ?_
 refine aw_cond _ rfl trivial (fun ht=>by cases ht) (fun hf=>?_)
 refine aR 368 ?_
 refine aF ?_
 refine aR 432 ?_
 refine aR 496 ?_
 refine aF ?_
 refine aR 560 ?_
 refine aF ?_
 refine aR 624 ?_
 refine aF ?_
 refine aR 688 ?_
 refine aF ?_
 refine aR 752 ?_
 refine aF ?_
 refine aR 816 ?_
 refine aT ?_
 refine aS 880 (fun Q hQ=>by simp (disch:=intros;contradiction) only [zS,simprocAttr];repeat refine ⟨by ((simp;done)),?_⟩;exact hQ) ?_
 refine aw_cond _ rfl trivial (fun ht=>?_) (fun hf=>?_)
 ·skip
  try simp at ht
  simp only [zX]
  have h : impS v c = some (v,33):=by
   unfold impS
   by_cases hh : v.hid = false
   ·rw [if_pos hh]
   ·rw [if_neg hh,if_pos hk,if_neg]
    rcases ht with h | h
    ·exact absurd h hh
    ·exact h
  rw [doImp_some h]
  refine aR 1072 ?_
  refine Fin.data [] (.inr rfl) rfl (by (exact ⟨trivial,trivial⟩)) ?_
  simp only [zL,simprocAttr]
  all_goals ((repeat' (first | exact trivial | rfl | refine ⟨?_,?_⟩)))
 try simp at hf
 simp only [zX]
 have h : impS v c = some (pubV v,0):=by
  unfold impS
  rw [if_neg (by simp [hf.1]),if_pos hk,if_pos hf.2]
 rw [doImp_some h]
 refine aB 1152 ?_
 refine rC [] (mementoref16_Len_con v) ?_
 refine RG.go fun Q hQ=>?_
 simp (disch:=intros;contradiction) only [zS,simprocAttr]
 refine hQ (RG.nil ?_)
 simp only [zX,↓reduceIte]
 refine aR 1280 ?_
 refine Fin.data [] (.inr rfl) rfl (by (exact ⟨trivial,trivial⟩)) ?_
 simp only [zL,simprocAttr]
 all_goals ((repeat' (first | exact trivial | rfl | refine ⟨?_,?_⟩)))

theorem done_import (v : VOL) (c : CMD) (ok : Vok v) (hn : 0≤v.next∧v.next≤1099511627776) (hk : c.kind = 6) (hl : c.items.length≤1000000) (hd : ∀ x ∈ c.items,x.d.length≤1000000) :
  Con Tryz.prog 90 [.agg (volC v),.agg (cmdC c)] [] (doneR v (doV v c)) []:=by
 rw [show doV v c = doImp v c from by unfold doV;rw [if_neg (by omega),if_neg (by omega),if_neg (by omega),if_neg (by omega),if_pos (by omega)]]
 refine C_mementoref16_done nl nl ?_
 simp only [cz,A_mementoref16_done,argL,objL,List.length_nil,Nat.zero_add,zX]
 refine aS 16 (fun Q hQ=>by simp (disch:=intros;contradiction) only [zS,vC_eq,cmdC,cC,hk,simprocAttr];exact hQ) ?_
 refine aR 112 ?_
 refine aR 176 ?_
 refine aF ?_
 refine aR 240 ?_
 refine aF ?_
 refine aR 304 ?_
 refine aw_cond _ rfl trivial (fun ht=>by cases ht) (fun hf=>?_)
 refine aR 368 ?_
 refine aF ?_
 refine aR 432 ?_
 refine aR 496 ?_
 refine aF ?_
 refine aR 560 ?_
 refine aF ?_
 refine aR 624 ?_
 refine aF ?_
 refine aR 688 ?_
 refine aF ?_
 refine aR 752 ?_
 refine aT ?_
 refine aR 816 ?_
 refine aw_cond _ rfl trivial (fun ht=>?_) (fun hf=>?_)
 ·skip
  try simp at ht
  simp only [zX]
  rw [doImp_some (w:=v) (e:=33) (by unfold impS;rw [if_pos ht])]
  refine aR 896 ?_
  refine Fin.data [] (.inr rfl) rfl (by (exact ⟨trivial,trivial⟩)) ?_
  simp only [zL,simprocAttr]
  all_goals ((repeat' (first | exact trivial | rfl | refine ⟨?_,?_⟩)))
 try simp at hf
 simp only [zX]
 have h0 : ¬ v.hid = false:=by simp [hf]
 have h7 : ¬ c.kind = 7:=by omega
 refine aR 976 ?_
 refine aw_cond _ rfl trivial (fun ht=>?_) (fun hf=>?_)
 ·skip
  try simp at ht
  simp only [zX]
  rw [doImp_some (w:=v) (e:=0) (by unfold impS;rw [if_neg h0,if_neg h7,if_pos ht])]
  refine aw_reg 1168 (RG.go fun Q hQ=>?_)
  simp (disch:=intros;contradiction) only [zS,simprocAttr]
  refine hQ (RG.nil ?_)
  simp only [zX,↓reduceIte]
  refine Fin.data [] (.inr rfl) rfl (by (exact ⟨trivial,trivial⟩)) ?_
  simp only [zL,simprocAttr]
  all_goals ((repeat' (first | exact trivial | rfl | refine ⟨?_,?_⟩)))
 try simp at hf
 simp only [zX]
 have h1 : ¬ (0≤c.index∧c.index < v.next):=by omega
 refine aS 1248 (fun Q hQ=>by simp (disch:=intros;contradiction) only [zS,simprocAttr];repeat refine ⟨by ((simp;done)),?_⟩;exact hQ) ?_
 refine aw_cond _ rfl trivial (fun ht=>?_) (fun hf=>?_)
 ·skip
  try simp at ht
  simp only [zX]
  rw [doImp_some (w:=v) (e:=33) (by unfold impS;rw [if_neg h0,if_neg h7,if_neg h1,if_pos ht])]
  refine aR 1472 ?_
  refine Fin.data [] (.inr rfl) rfl (by (exact ⟨trivial,trivial⟩)) ?_
  simp only [zL,simprocAttr]
  all_goals ((repeat' (first | exact trivial | rfl | refine ⟨?_,?_⟩)))
 try simp at hf
 simp only [zX]
 have h2 : ¬ (c.index≠v.next∨v.next = v.total):=by omega
 refine aB 1552 ?_
 refine rC [] (mementoref13_ItemsRight_con v.blocks v.size c.items hl hd) ?_
 refine aE ?_
 refine aw_cond _ rfl trivial (fun ht=>?_) (fun hf=>?_)
 ·skip
  try simp at ht
  simp only [zX]
  rw [doImp_some (w:=v) (e:=23) (by unfold impS;rw [if_neg h0,if_neg h7,if_neg h1,if_neg h2,if_neg (by simp [ht])])]
  refine aR 1712 ?_
  refine Fin.data [] (.inr rfl) rfl (by (exact ⟨trivial,trivial⟩)) ?_
  simp only [zL,simprocAttr]
  all_goals ((repeat' (first | exact trivial | rfl | refine ⟨?_,?_⟩)))
 try simp at hf
 simp only [zX]
 rw [doImp_none (by unfold impS;rw [if_neg h0,if_neg h7,if_neg h1,if_neg h2,if_pos hf])]
 refine aB 1792 ?_
 refine rC [] (mementoref16_write_con v c.items ok.ws hl hd) ?_ (hs:=(by exact .inr ⟨volC_pure _,trivial⟩))
 refine aEs (fun Q hQ=>by simp (disch:=intros;contradiction) only [zS,vC_eq,simprocAttr];exact hQ) ?_
 refine aS 1904 (fun Q hQ=>by simp (disch:=first | (intros;contradiction) | omega | (simp only [zN];omega)) only [zS,zW,addW,simprocAttr];exact hQ) ?_
 refine aR 2016 ?_
 refine Fin.data [] (.inr rfl) rfl (by (exact ⟨trivial,trivial⟩)) ?_
 simp only [zL,simprocAttr]
 all_goals ((repeat' (first | exact trivial | rfl | refine ⟨?_,?_⟩)))

theorem mementoref16_done_con (v : VOL) (c : CMD) (ok : Vok v) (hn : 0≤v.next∧v.next≤1099511627776) (hl : c.items.length≤1000000) (hd : ∀ x ∈ c.items,x.d.length≤1000000) :
  Con Tryz.prog 90 [.agg (volC v),.agg (cmdC c)] [] (doneR v (doV v c)) []:=by
 rcases Int.lt_or_le c.kind 2 with h | h
 ·exact done_other v c (.inl h)
 rcases Int.lt_or_le 8 c.kind with h' | h'
 ·exact done_other v c (.inr h')
 have : c.kind = 2∨c.kind = 3∨c.kind = 4∨c.kind = 5∨c.kind = 6∨c.kind = 7∨c.kind = 8:=by omega
 rcases this with h | h | h | h | h | h | h
 ·exact done_put v c ok h hl hd
 ·exact done_prune v c ok h
 ·exact done_pin v c ok h
 ·exact done_unpin v c ok h
 ·exact done_import v c ok hn h hl hd
 ·exact done_publish v c h
 ·exact done_stat v c h

abbrev doR (d : DO) : SV:=.tup [.agg (volC d.v),.agg (repC d.e d.len d.floor d.next [])]

theorem doV_ok (v : VOL) (c : CMD) : (∃ w,doV v c = done w)∨∃ e,e≠0∧doV v c = fail v e:=by
 have hi : (∃ w,doImp v c = done w)∨∃ e,e≠0∧doImp v c = fail v e:=by
  unfold doImp
  split
  ·exact .inl ⟨_,rfl⟩
  ·split
   ·exact .inl ⟨_,rfl⟩
   ·rename_i h;exact .inr ⟨_,h,rfl⟩
 unfold doV
 split
 ·unfold doPut
  split
  ·exact .inr ⟨28,by decide,rfl⟩
  split
  ·exact .inl ⟨_,rfl⟩
  ·exact .inr ⟨23,by decide,rfl⟩
 split
 ·unfold doPrune
  split
  ·exact .inr ⟨28,by decide,rfl⟩
  split
  ·exact .inr ⟨30,by decide,rfl⟩
  split
  ·exact .inr ⟨31,by decide,rfl⟩
  ·exact .inl ⟨_,rfl⟩
 split
 ·unfold doPin
  split
  ·exact .inr ⟨28,by decide,rfl⟩
  split
  ·exact .inr ⟨30,by decide,rfl⟩
  split
  ·exact .inr ⟨31,by decide,rfl⟩
  ·exact .inl ⟨_,rfl⟩
 split
 ·unfold doUnpin
  split
  ·exact .inr ⟨28,by decide,rfl⟩
  split
  ·exact .inl ⟨_,rfl⟩
  ·exact .inr ⟨28,by decide,rfl⟩
 split
 ·exact hi
 split
 ·exact .inl ⟨_,rfl⟩
 ·exact .inr ⟨23,by decide,rfl⟩

theorem doneR_pure (v : VOL) (d : DO) : (doneR v d).pureD:=pureTA (volC_pure _)

theorem mementoref16_Do_con (v : VOL) (c : CMD) (ok : Vok v) (hn : 0≤v.next∧v.next≤1099511627776) (hl : c.items.length≤1000000) (hd : ∀ x ∈ c.items,x.d.length≤1000000) :
  Con Tryz.prog 62 [.agg (volC v),.agg (cmdC c)] [] (doR (doV v c)) []:=by
 have cD:=mementoref16_done_con v c ok hn hl hd
 rcases doV_ok v c with ⟨w,h⟩ | ⟨e,he,h⟩
 ·rw [h] at cD ⊢
  refine C_mementoref16_Do nl nl ?_
  simp only [cz,A_mementoref16_Do,argL,objL,List.length_nil,Nat.zero_add,zX]
  refine aS 16 (fun Q hQ=>by simp (disch:=intros;contradiction) only [zS,vC_eq,cmdC,cC,simprocAttr];exact hQ) ?_
  refine aB 112 ?_
  refine rC [] (cD) ?_ (hs:=(by exact .inr ⟨doneR_pure v _,trivial⟩))
  refine aEs (fun Q hQ=>by simp (disch:=intros;contradiction) only [zS,vC_eq,done,simprocAttr];exact hQ) ?_
  refine aR 288 ?_
  refine aF ?_
  refine aBD 352 ?_
  refine rC [] (mementoref16_Len_con w) ?_
  refine aED ?_
  refine Fin.data [] (.inr rfl) rfl (by (exact ⟨trivial,trivial,trivial⟩)) ?_
  simp only [zL]
  all_goals ((repeat' (first | exact trivial | rfl | refine ⟨?_,?_⟩)))

 ·rw [h] at cD ⊢
  have he' : (e != 0) = true:=by simpa using he
  refine C_mementoref16_Do nl nl ?_
  simp only [cz,A_mementoref16_Do,argL,objL,List.length_nil,Nat.zero_add,zX]
  refine aS 16 (fun Q hQ=>by simp (disch:=intros;contradiction) only [zS,vC_eq,cmdC,cC,simprocAttr];exact hQ) ?_
  refine aB 112 ?_
  refine rC [] (cD) ?_ (hs:=(by exact .inr ⟨doneR_pure v _,trivial⟩))
  refine aEs (fun Q hQ=>by simp (disch:=intros;contradiction) only [zS,vC_eq,fail,simprocAttr];exact hQ) ?_
  refine aS 288 (fun Q hQ=>by simp (disch:=intros;contradiction) only [zS,he',simprocAttr];exact hQ) ?_
  refine aT ?_
  refine aR 352 ?_
  refine Fin.data [] (.inr rfl) rfl (by (exact ⟨trivial,trivial,trivial⟩)) ?_
  simp only [zL]
  all_goals ((repeat' (first | exact trivial | rfl | refine ⟨?_,?_⟩)))

end Go.Abs

namespace Go.Abs
open Go Go.Proofs

def ins (x : Int) : List Int→List Int
 | []=>[x]
 | y :: r=>if x≤y then x :: y :: r else y :: ins x r


def isort : List Int→List Int
 | []=>[]
 | x :: r=>ins x (isort r)


theorem ins_perm (x : Int) : ∀ l,(ins x l).Perm (x :: l)
 | []=>.refl _
 | y :: r=>by
  unfold ins
  split
  ·exact .refl _
  ·exact ((ins_perm x r).cons y).trans (List.Perm.swap x y r)


theorem isort_perm : ∀ l,(isort l).Perm l
 | []=>.refl _
 | x :: r=>(ins_perm x _).trans ((isort_perm r).cons x)


theorem ins_sorted (x : Int) : ∀ l,l.Pairwise (·≤·)→(ins x l).Pairwise (·≤·)
 | [],_=>by simp [ins]
 | y :: r,h=>by
  rw [List.pairwise_cons] at h
  unfold ins
  split
  ·rename_i hxy
   rw [List.pairwise_cons,List.pairwise_cons]
   exact ⟨fun z hz=>by
    rcases List.mem_cons.1 hz with rfl | hz
    ·exact hxy
    ·exact Int.le_trans hxy (h.1 z hz),h⟩
  ·rename_i hxy
   rw [List.pairwise_cons]
   refine ⟨fun z hz=>?_,ins_sorted x r h.2⟩
   rcases List.mem_cons.1 ((ins_perm x r).mem_iff.1 hz) with rfl | hz
   ·omega
   ·exact h.1 z hz


theorem isort_sorted : ∀ l,(isort l).Pairwise (·≤·)
 | []=>.nil
 | x :: r=>ins_sorted x _ (isort_sorted r)


theorem sorted_eq : ∀ {l m : List Int},l.Perm m→l.Pairwise (·≤·)→m.Pairwise (·≤·)→l = m
 | [],m,h,_,_=>by have:=h.length_eq;cases m with | nil=>rfl | cons=>simp at this
 | x :: l,[],h,_,_=>by have:=h.length_eq;simp at this
 | x :: l,y :: m,h,hl,hm=>by
  rw [List.pairwise_cons] at hl hm
  have h1 : x = y:=by
   have hx : x ∈ y :: m:=h.mem_iff.1 (by simp)
   have hy : y ∈ x :: l:=h.mem_iff.2 (by simp)
   rcases List.mem_cons.1 hx with e | hx
   ·exact e
   ·rcases List.mem_cons.1 hy with e | hy
    ·exact e.symm
    ·have:=hm.1 x hx;have:=hl.1 y hy;omega
  subst h1
  rw [sorted_eq (List.Perm.cons_inv h) hl.2 hm.2]


theorem isort_unique {l m : List Int} (h : m.Perm l) (hs : m.Pairwise (·≤·)) : m = isort l:=sorted_eq (h.trans (isort_perm l).symm) hs (isort_sorted l)



theorem isort_len (l : List Int) : (isort l).length = l.length:=(isort_perm l).length_eq

def gI (l : List Int) (k : Nat) : Int:=l.getD k 0
theorem gI_get {l : List Int} {k : Nat} (h : k < l.length) : l[k] = gI l k:=by simp [gI,h]
theorem gI_ext {l m : List Int} (hl : l.length = m.length) (h : ∀ k,k < l.length→gI l k = gI m k) : l = m:=by
 refine List.ext_getElem hl fun k h1 h2=>?_
 rw [gI_get h1,gI_get h2];exact h k h1

structure PO (a b : Nat) (l m : List Int) : Prop where
 len : m.length = l.length
 perm : m.Perm l
 out : ∀ k,k < a∨b≤k→gI m k = gI l k

theorem PO.refl (a b : Nat) (l : List Int) : PO a b l l:=⟨rfl,.refl _,fun _ _=>rfl⟩
theorem PO.trans {a b : Nat} {l m n : List Int} (h : PO a b l m) (h' : PO a b m n) : PO a b l n :=
 ⟨h'.len.trans h.len,h'.perm.trans h.perm,fun k hk=>(h'.out k hk).trans (h.out k hk)⟩
def seg (a b : Nat) (l : List Int) : List Int:=(l.take b).drop a
theorem seg_len {a b : Nat} {l : List Int} (hb : b≤l.length) : (seg a b l).length = b - a:=by simp [seg];omega
theorem gI_seg {a b : Nat} {l : List Int} (hb : b≤l.length) {k : Nat} (hk : k < b - a) : gI (seg a b l) k = gI l (a + k):=by
 unfold gI seg
 have h1 : a + k < b:=by omega
 simp [List.getD,h1]
theorem parts (a b : Nat) (l : List Int) (hab : a≤b) : l = l.take a ++ seg a b l ++ l.drop b:=by
 have h1 : l.take a ++ seg a b l = l.take b:=by
  unfold seg
  have:=List.take_append_drop a (l.take b)
  rw [List.take_take,Nat.min_eq_left hab] at this
  exact this
 rw [h1,List.take_append_drop]

theorem gI_take {a : Nat} {l : List Int} {k : Nat} (hk : k < a) : gI (l.take a) k = gI l k:=by simp [gI,List.getD,hk]
theorem gI_drop {b : Nat} {l : List Int} (k : Nat) : gI (l.drop b) k = gI l (b + k):=by simp [gI,List.getD]

theorem PO.take {a b : Nat} {l m : List Int} (h : PO a b l m) : m.take a = l.take a:=by
 refine gI_ext (by simp [h.len]) fun k hk=>?_
 have hk' : k < a:=by simp at hk;omega
 rw [gI_take hk',gI_take hk',h.out k (.inl hk')]
theorem PO.drop {a b : Nat} {l m : List Int} (h : PO a b l m) : m.drop b = l.drop b:=by
 refine gI_ext (by simp [h.len]) fun k hk=>?_
 rw [gI_drop,gI_drop,h.out _ (.inr (by omega))]
theorem PO.seg {a b : Nat} {l m : List Int} (h : PO a b l m) (hab : a≤b) : (seg a b m).Perm (Abs.seg a b l):=by
 have h1:=h.perm
 rw [parts a b l hab,parts a b m hab,h.take,h.drop] at h1
 exact (List.perm_append_left_iff _).1 ((List.perm_append_right_iff _).1 h1)
theorem PO.all {a b : Nat} {l m : List Int} (h : PO a b l m) (hab : a≤b) (hb : b≤l.length) {p : Int→Prop} (hp : ∀ k,a≤k→k < b→p (gI l k)) : ∀ k,a≤k→k < b→p (gI m k):=by
 intro k h1 h2
 have hm : gI m k ∈ Abs.seg a b m:=by
  have h3 : k - a < (Abs.seg a b m).length:=by rw [seg_len (by rw [h.len];exact hb)];omega
  have:=List.getElem_mem h3
  rw [gI_get,gI_seg (by rw [h.len];exact hb) (by omega),show a + (k - a) = k by omega] at this
  exact this
 obtain ⟨j,hj,he⟩:=List.mem_iff_getElem.1 ((h.seg hab).mem_iff.1 hm)
 rw [seg_len hb] at hj
 rw [gI_get,gI_seg hb hj] at he
 rw [← he]
 exact hp _ (by omega) (by omega)
end Go.Abs

namespace Go.Abs
open Go Go.Proofs
set_option linter.unusedVariables false

end Go.Abs

namespace Go.Abs
open Go Go.Proofs
set_option linter.unusedVariables false

end Go.Abs

namespace Go.Abs
open Go Go.Proofs
set_option linter.unusedVariables false

end Go.Abs

namespace Go.Abs
open Go Go.Proofs
set_option maxRecDepth 100000
set_option linter.unusedSimpArgs false
set_option maxHeartbeats 4000000

abbrev arrI (T : TypeId) (l : List Int) : Ent:=.arr T 1 (l.map nrow) false
end Go.Abs

namespace Go.Abs
open Go Go.Proofs
set_option maxRecDepth 100000
set_option linter.unusedSimpArgs false
set_option maxHeartbeats 4000000

end Go.Abs

namespace Go.Abs
open Go Go.Proofs
set_option maxRecDepth 100000
set_option linter.unusedSimpArgs false
set_option maxHeartbeats 4000000

end Go.Abs

namespace Go.Abs
open Go Go.Proofs
set_option maxRecDepth 100000
set_option linter.unusedSimpArgs false
set_option maxHeartbeats 4000000

end Go.Abs

namespace Go.Abs
open Go Go.Proofs
set_option maxRecDepth 100000
set_option linter.unusedSimpArgs false
set_option maxHeartbeats 4000000

end Go.Abs

namespace Go.Abs
open Go Go.Proofs
set_option maxRecDepth 100000
set_option linter.unusedSimpArgs false
set_option maxHeartbeats 8000000

end Go.Abs

namespace Go.Abs
open Go Go.Proofs
set_option maxRecDepth 100000
set_option linter.unusedSimpArgs false
set_option maxHeartbeats 8000000

end Go.Abs

namespace Go.Abs
open Go Go.Proofs
set_option maxRecDepth 100000
set_option linter.unusedSimpArgs false
set_option maxHeartbeats 4000000

end Go.Abs

namespace Go.Abs
open Go Go.Proofs
set_option maxRecDepth 100000
set_option linter.unusedSimpArgs false
set_option maxHeartbeats 4000000

theorem lowV_le (v : VOL) : lowV v≤lenV v:=by
 have : ∀ (l : List Int) (n : Int),l.foldl min n≤n:=by
  intro l
  induction l with
  | nil=>intro n;exact Int.le_refl _
  | cons x l ih=>intro n;exact Int.le_trans (ih _) (Int.min_le_left ..)
 exact this v.pins v.ws.length

abbrev volA (v : VOL) : List Ent:=[.arr 2 1 (v.pins.map nrow) false,.arr 99 2 (v.ws.map wrow) false]

end Go.Abs

namespace Go.Abs
open Go Go.Proofs
set_option maxRecDepth 100000
set_option linter.unusedSimpArgs false
set_option maxHeartbeats 4000000

theorem timeE_of {f t m : Int} : timeE f t m = 0 ↔ f≤t∧t≤m:=by unfold timeE;split;omega;split <;> omega

end Go.Abs

namespace Go.Abs
open Go Go.Proofs
set_option maxRecDepth 100000
set_option linter.unusedSimpArgs false
set_option maxHeartbeats 4000000

theorem while_parts {p : Int→Bool} : ∀ l : List Int,l.takeWhile p ++ l.dropWhile p = l:=fun l=>List.takeWhile_append_dropWhile
theorem insP_eq {t : Int} {l : List Int} (hs : l.Pairwise (·≤·)) : isort (l ++ [t]) = insP t l:=by
 symm
 have hp:=while_parts (p:=fun x=>decide (x≤t)) l
 refine isort_unique ?_ ?_
 ·unfold insP
  conv=>rhs;rw [← hp]
  rw [List.append_assoc]
  exact List.Perm.append_left _ (List.perm_append_comm (l₁:=[t]))
 ·have hs':=hs
  rw [← hp,List.pairwise_append] at hs'
  unfold insP
  rw [List.pairwise_append,List.pairwise_cons]
  refine ⟨hs'.1,⟨fun y hy=>?_,hs'.2.1⟩,fun x hx y hy=>?_⟩
  ·cases hd : l.dropWhile (fun x=>decide (x≤t)) with
   | nil=>rw [hd] at hy;cases hy
   | cons z r =>
    have hz : ¬ z≤t:=by
     have:=List.head_dropWhile_not (fun x=>decide (x≤t)) (l:=l) (by rw [hd];simp)
     simpa [hd] using this
    rw [hd] at hy hs'
    rcases List.mem_cons.1 hy with rfl | hy
    ·omega
    ·have:=(List.pairwise_cons.1 hs'.2.1).1 y hy;omega
  ·have hxt : x≤t:=by
    have:=List.all_takeWhile (p:=fun x=>decide (x≤t)) (l:=l)
    simpa using List.all_eq_true.1 this x hx
   rcases List.mem_cons.1 hy with rfl | hy
   ·exact hxt
   ·exact hs'.2.2 x hx y hy

structure DoOk (v : VOL) (c : CMD) : Prop where
 ok : Vok v
 pins : v.pins.length < 60000
 sorted : v.pins.Pairwise (·≤·)
 next : 0≤v.next∧v.next≤1099511627776
 items : c.items.length≤1000000
 data : ∀ x ∈ c.items,x.d.length≤1000000

end Go.Abs

namespace Go.Abs
open Go Go.Proofs
set_option maxRecDepth 100000
set_option linter.unusedSimpArgs false
set_option maxHeartbeats 4000000

def countV (v : VOL) (n : Int) : Int:=if n < 0∨(v.place.length : Int)≤n∨v.per < 1 then 0 else min v.per (v.blocks - n * v.per)
theorem Count_con (v : VOL) (n : Int) (h : shapeV v = true) (hp : v.place.length≤1000000) : Con Tryz.prog 45 [.agg (volC v),I n] [] (I (countV v n)) []:=by
 obtain ⟨g1,g2,g3,g4,g5,g6,g7,g8,g9,g10,g11,g12⟩:=shape_facts h
 refine C_mementoref16_Count nl nl ?_
 simp only [cz,A_mementoref16_Count,argL,objL,List.length_nil,Nat.zero_add,zX]
 refine aS 16 (fun Q hQ=>by simp (disch:=intros;contradiction) only [zS,vC_eq,simprocAttr];exact hQ) ?_
 refine aw_reg 80 (RG.go fun Q hQ=>?_)
 simp (disch:=intros;contradiction) only [zS,zW,simprocAttr]
 repeat refine ⟨by ((simp;done)),?_⟩
 refine hQ (RG.nil ?_)
 simp only [zX]
 refine aw_cond _ rfl trivial (fun ht=>?_) (fun hf=>?_)
 ·skip
  try simp at ht
  simp only [zX]
  refine aR 336 ?_
  refine Fin.i (.inr rfl) rfl trivial ?_
  unfold countV;rw [if_pos (by omega)]
 try simp at hf
 simp only [zX]
 have hnp : n * v.per < v.blocks:=chunk_lt g7 g3 (by omega) (by rw [← g9];omega)
 have hnp0 : 0≤n * v.per:=Int.mul_nonneg (by omega) (by omega)
 have hc : countV v n = min v.per (v.blocks - n * v.per):=by unfold countV;rw [if_neg (by omega)]
 refine aS 384 (fun Q hQ=>by simp (disch:=first | (intros;contradiction) | omega | (simp only [zN];omega)) only [zS,zW,simprocAttr];exact hQ) ?_
 refine Fin.i (.inr rfl) rfl trivial ?_
 rw [hc,min_if]

end Go.Abs

namespace Go.Abs
open Go Go.Proofs
set_option maxRecDepth 100000
set_option linter.unusedSimpArgs false
set_option maxHeartbeats 4000000

def dataN (n k : Nat) : List Nat:=(List.range n).map fun i=>(k + i * 7) % 256
theorem dataN_succ (n k : Nat) : dataN (n + 1) k = dataN n k ++ [(k + n * 7) % 256]:=by simp [dataN,List.range_succ]
theorem dataN_len (n k : Nat) : (dataN n k).length = n:=by simp [dataN]
theorem dataN_by (n k : Nat) : ∀ c ∈ dataN n k,c < 256:=by
 intro c hc;obtain ⟨i,_,rfl⟩:=List.mem_map.1 hc;omega

theorem Data_con (n k : Nat) (hn : n≤200) (hk : k < 256) : Con Tryz.prog 86 [I n,.c (.v (.int .u8 k))] [] (.c (.osl 0)) [.arr 5 1 ((dataN n k).map brow) false]:=by
 refine C_mementoseat_Data nl nl ?_
 simp only [cz,A_mementoseat_Data,argL,objL,List.length_nil,Nat.zero_add,zX]
 refine aR 16 ?_
 refine aR 64 ?_
 refine aR 112 ?_
 refine aw_loopK (X:={ i : Nat // i≤n }) [0,1] (fun i=>[(5,.c (.osl 5000)),(6,I i.1)]) [] (fun i=>[(5000,.arr 5 1 ((dataN i.1 k).map brow) false)]) (fun i=>n - i.1) (⟨0,by omega⟩) ?_ ?_
 ·skip
  simp only [keepS,keepE,lk_cons,List.cons_append,List.nil_append,simprocAttr]
  refine (Le.own 5 5000 5 1 rfl rfl (by decide)).trans ?_
  simp only [setS_cons,setE_nil,simprocAttr]
  refine Le.lit [] [] _ _ ?_ ?_ ?_ ?_
  ·simp only [zL,simprocAttr]
  ·simp only [zL,simprocAttr]
   all_goals (try ((repeat' (first | (exact drows_brow _) | rfl | refine ⟨?_,?_⟩))))
  ·simp [rlook]
  ·(simp;done)
 rintro ⟨i,hi⟩
 simp only [keepS,keepE,lk_cons,List.cons_append,List.nil_append,simprocAttr]
 simp only [zX]
 have hl:=dataN_len i k
 refine aR 160 ?_
 refine aw_cond _ rfl trivial (fun ht=>?_) (fun hf=>?_)
 ·skip
  try simp at ht
  simp only [zX]
  have e1 : IntKind.u8.wrap ((k : Int) + IntKind.u8.wrap ((i : Int) * 7)) = (((k + i * 7) % 256 : Nat) : Int):=by rw [w_u8,w_u8];omega
  have e2 : (dataN i k).map brow ++ [[.v (.int .u8 (((k + i * 7) % 256 : Nat) : Int))]] = (dataN (i + 1) k).map brow:=by rw [dataN_succ,List.map_append];rfl
  refine aS 240 (fun Q hQ=>by simp (disch:=first | (intros;contradiction) | omega | (simp only [zN];omega)) only [zS,zW,e1,e2,hl,simprocAttr];repeat refine ⟨by ((simp;omega)),?_⟩;exact hQ) ?_
  refine aS 416 (fun Q hQ=>by simp (disch:=first | (intros;contradiction) | omega | (simp only [zN];omega)) only [zS,zW,simprocAttr];exact hQ) ?_
  refine ⟨⟨i + 1,by omega⟩,?_,by first | omega | (simp only;omega)⟩
  refine Le.lit [] [(5000,352)] _ _ ?_ ?_ ?_ ?_
  ·simp only [zL,simprocAttr]
   all_goals (try ((repeat' (rfl))))
  ·simp only [zL,simprocAttr]
   all_goals (try ((repeat' ((exact drows_brow _)))))
  ·simp [rlook]
  ·(simp;done)
 try simp at hf
 simp only [zX,↓reduceIte]
 obtain rfl : i = n:=by omega
 refine aw_reg 496 (RG.go fun Q hQ=>?_)
 simp (disch:=intros;contradiction) only [zS,simprocAttr]
 refine hQ (RG.nil ?_)
 simp only [zX]
 refine Fin.objs [] [(0,5000)] (.inr rfl) rfl (by exact trivial) ?_ ?_ (by simp [objL,rlook]) (by (simp [objL,rlook];done))
 ·simp only [zL,simprocAttr]
 ·simp only [zL,simprocAttr]
  all_goals (try ((repeat' ((exact drows_brow _)))))

theorem DataD_con (n k : Nat) (hn : n≤200) (hk : k < 256) : Con Tryz.prog 86 [I n,.c (.v (.int .u8 k))] [] (.c (.sl ((dataN n k).map brow))) [] :=
 (Data_con n k hn hk).rows (drows_brow _)

def hasB (b : Int) (l : List IT) : Bool:=l.any fun y=>decide (y.b = b)
def itsStep (blocks size : Nat) (acc : List IT) (c : Nat) : List IT:=if hasB ((c % max blocks 1 : Nat)) acc then acc else acc ++ [⟨(c % max blocks 1 : Nat),dataN size c⟩]
def itsF (blocks size : Nat) : List Nat→List IT→List IT
 | [],acc=>acc
 | c :: l,acc=>if acc.length < 8 then itsF blocks size l (itsStep blocks size acc c) else acc
def itsN (blocks size : Nat) (l : List Nat) : List IT:=itsF blocks size l []

theorem Items_con (blocks size : Nat) (l : List Nat) (hb : blocks≤1000000) (hs : size≤200) (hl : l.length≤1000000) (h8 : ∀ c ∈ l,c < 256) :
  Con Tryz.prog 60 [I blocks,I size,.c (.sl (l.map brow))] [] (.c (.osl 0)) [.arr 96 2 ((itsN blocks size l).map irow) false]:=by
 obtain ⟨q,hq⟩ : ∃ q,q = max blocks 1:=⟨_,rfl⟩
 have hqi : (if (blocks : Int) < 1 then 1 else (blocks : Int)) = (q : Int):=by split <;> omega
 obtain ⟨R,hR⟩ : ∃ R,R = itsN blocks size l:=⟨_,rfl⟩
 rw [← hR]
 refine C_mementoseat_Items nl nl ?_
 simp only [cz,A_mementoseat_Items,argL,objL,List.length_nil,Nat.zero_add,zX,simprocAttr]
 refine aR 16 ?_
 refine aR 64 ?_
 refine aR 112 ?_
 refine aw_loopK (X:={ p : Nat × List IT // p.1≤l.length∧itsF blocks size (l.drop p.1) p.2 = R∧p.2.length≤8 }) [0,1,2] (fun p=>[(7,.c (.osl 5000)),(8,I p.1.1)]) [] (fun p=>[(5000,.arr 96 2 (p.1.2.map irow) false)]) (fun p=>l.length - p.1.1) (⟨(0,[]),by simp only;omega,hR.symm,by simp⟩) ?_ ?_
 ·skip
  simp only [keepS,keepE,lk_cons,List.cons_append,List.nil_append,simprocAttr]
  refine (Le.own 7 5000 96 2 rfl rfl (by decide)).trans ?_
  simp only [setS_cons,setE_nil,simprocAttr]
  refine Le.lit [] [] _ _ ?_ ?_ ?_ ?_
  ·simp only [zL,simprocAttr]
  ·simp only [zL,simprocAttr]
   all_goals (try ((repeat' (((simp [C.isD];done))))))
  ·simp [rlook]
  ·(simp;done)
 rintro ⟨⟨i,acc⟩,h1,h2,h3⟩
 simp only [keepS,keepE,lk_cons,List.cons_append,List.nil_append,simprocAttr]
 simp only [zX]
 simp only at h1 h2 h3
 refine aS 160 (fun Q hQ=>by simp (disch:=intros;contradiction) only [zS,zW,simprocAttr];exact hQ) ?_
 refine aw_cond _ rfl trivial (fun ht=>?_) (fun hf=>?_)
 rotate_left
 ·skip
  try simp at hf
  simp only [zX,↓reduceIte]
  have hd : itsF blocks size (l.drop i) acc = acc:=by
   rcases Nat.lt_or_ge i l.length with h | h
   ·rw [drop_get h];unfold itsF;rw [if_neg (by omega)]
   ·rw [List.drop_of_length_le h];rfl
  rw [hd] at h2
  subst h2
  refine aR 336 ?_
  refine Fin.objs [] [(0,5000)] (.inr rfl) rfl (by exact trivial) ?_ ?_ (by simp [objL,rlook]) (by (simp [objL,rlook];done))
  ·simp only [zL,simprocAttr]
  ·simp only [zL,simprocAttr]
   all_goals (try ((repeat' ((exact drows_irow _)))))
 try simp at ht
 simp only [zX]
 have hi : i < l.length:=by omega
 have hc8:=h8 _ (List.getElem_mem hi)
 rw [drop_get hi] at h2
 unfold itsF at h2
 rw [if_pos (by omega)] at h2
 have e1 : (l[i] : Int) % (q : Int) = ((l[i] % q : Nat) : Int):=by omega
 obtain ⟨b,hb2⟩ : ∃ b,b = l[i] % q:=⟨_,rfl⟩
 rw [← hb2] at e1
 have hstep : itsStep blocks size acc l[i] = if hasB b acc then acc else acc ++ [⟨b,dataN size l[i]⟩]:=by unfold itsStep;rw [← hq,← hb2]
 rw [hstep] at h2
 refine aw_reg 400 (RG.go fun Q hQ=>?_)
 simp (disch:=first | (intros;contradiction) | omega | (simp only [zN];omega)) only [zS,zW,brow,hqi,e1,simprocAttr]
 repeat refine ⟨by (omega),?_⟩
 refine hQ (RG.nil ?_)
 simp only [zX]
 refine aR 576 ?_
 refine aR 624 ?_
 refine aw_loopK (X:={ k : Nat // k≤acc.length }) [0,1,2,7,8,9] (fun k=>[(10,B (hasB b (acc.take k.1))),(11,I k.1)]) [5000] (fun k=>[]) (fun k=>acc.length - k.1) (⟨0,by omega⟩) ?_ ?_
 ·skip
  simp only [keepS,keepE,Option.getD_some,lk_cons,lkE_cons,List.cons_append,List.nil_append,simprocAttr]
  refine Le.lit [] [] _ _ ?_ ?_ ?_ ?_
  ·simp only [zL,simprocAttr]
   all_goals (try ((repeat' (rfl))))
  ·simp only [zL,simprocAttr]
   all_goals (try ((repeat' ((exact drows_irow _)))))
  ·simp [rlook]
  ·(simp;done)
 rintro ⟨k,hk⟩
 simp only [keepS,keepE,Option.getD_some,lk_cons,lkE_cons,List.cons_append,List.nil_append,simprocAttr]
 simp only [zX]
 refine aS 672 (fun Q hQ=>by simp (disch:=intros;contradiction) only [zS,zW,simprocAttr];exact hQ) ?_
 refine aw_cond _ rfl trivial (fun ht=>?_) (fun hf=>?_)
 ·skip
  try simp at ht
  simp only [zX]
  have hkl : k < acc.length:=by omega
  have e3 : hasB b (acc.take (k + 1)) = (hasB b (acc.take k) || (acc[k].b == (b : Int))):=by
   unfold hasB;rw [take_one _ _ hkl,List.any_append];simp;rw [Bool.eq_iff_iff];simp
  refine aw_reg 768 (RG.go fun Q hQ=>?_)
  simp (disch:=first | (intros;contradiction) | omega | (simp only [zN];omega)) only [zS,zW,irow,itC,simprocAttr]
  repeat refine ⟨by (first | (simp;done) | (intro h;refine ⟨?_,h⟩;simp [] at h;omega)),?_⟩
  refine hQ (RG.nil ?_)
  simp only [zX]
  refine aS 976 (fun Q hQ=>by simp (disch:=first | (intros;contradiction) | omega | (simp only [zN];omega)) only [zS,zW,simprocAttr];exact hQ) ?_
  refine ⟨⟨k + 1,hkl⟩,?_,by first | omega | (simp only;omega)⟩
  refine Le.lit [] [] _ _ ?_ ?_ ?_ ?_
  ·simp only [zL,simprocAttr]
   all_goals (rw [e3];(repeat' ((simp;done))))
  ·simp only [zL,simprocAttr]
   all_goals (try ((repeat' ((exact drows_irow _)))))
  ·simp [rlook]
  ·(simp;done)
 try simp at hf
 simp only [zX,↓reduceIte]
 obtain rfl : k = acc.length:=by omega
 refine aS 1056 (fun Q hQ=>by simp (disch:=intros;contradiction) only [zS,zW,simprocAttr];exact hQ) ?_
 refine aw_cond _ rfl trivial (fun ht=>?_) (fun hf=>?_)
 ·skip
  try simp at ht
  refine aBs 1120 (fun Q hQ=>by simp (disch:=first | (intros;contradiction) | omega | (simp only [zN];omega)) only [zS,zW,brow,simprocAttr];repeat refine ⟨by (omega),?_⟩;exact hQ) ?_
  refine rC [] (DataD_con size l[i] hs hc8) ?_
  refine RG.go fun Q hQ=>?_
  simp (disch:=intros;contradiction) only [zS,zW,simprocAttr]
  rw [if_neg (by simp [ht])] at h2
  have e2 : (acc ++ [(⟨(b : Int),dataN size l[i]⟩ : IT)]).map irow = acc.map irow ++ [[.v (.int .i64 b),.sl ((dataN size l[i]).map brow)]]:=by rw [List.map_append];rfl
  repeat refine ⟨by ((simp;omega)),?_⟩
  refine hQ (RG.nil ?_)
  simp only [zX]
  refine aS 1344 (fun Q hQ=>by simp (disch:=first | (intros;contradiction) | omega | (simp only [zN];omega)) only [zS,zW,simprocAttr];exact hQ) ?_
  refine ⟨⟨(i + 1,acc ++ [⟨b,dataN size l[i]⟩]),by simp only;omega,h2,by simp;omega⟩,?_,by first | omega | (simp only;omega)⟩
  refine Le.lit [] [(5000,1280)] _ _ ?_ ?_ ?_ ?_
  ·simp only [zL,simprocAttr]
   all_goals (try ((repeat' (rfl))))
  ·simp only [zL,simprocAttr]
   all_goals (rw [e2];exact ⟨rfl,by rw [← e2];exact drows_irow _⟩;skip)
  ·simp [rlook]
  ·(simp;done)
 try simp at hf
 simp only [zX]
 rw [if_pos hf] at h2
 refine aS 1424 (fun Q hQ=>by simp (disch:=first | (intros;contradiction) | omega | (simp only [zN];omega)) only [zS,zW,simprocAttr];exact hQ) ?_
 refine ⟨⟨(i + 1,acc),by simp only;omega,h2,h3⟩,?_,by first | omega | (simp only;omega)⟩
 refine Le.lit [] [] _ _ ?_ ?_ ?_ ?_
 ·simp only [zL,simprocAttr]
  all_goals (try ((repeat' (rfl))))
 ·simp only [zL,simprocAttr]
  all_goals (try ((repeat' ((exact drows_irow _)))))
 ·simp [rlook]
 ·(simp;done)

end Go.Abs

namespace Go.Abs
open Go Go.Proofs
set_option maxRecDepth 100000
set_option linter.unusedSimpArgs false
set_option maxHeartbeats 4000000

def placeN (per n : Nat) : List Int:=(List.range n).map fun i=>((1 + (i + per) % 2 : Nat) : Int)
theorem placeN_succ (per n : Nat) : placeN per (n + 1) = placeN per n ++ [((1 + (n + per) % 2 : Nat) : Int)]:=by simp [placeN,List.range_succ]
theorem placeN_len (per n : Nat) : (placeN per n).length = n:=by simp [placeN]
def createC (vol blocks size per total : Nat) : CMD :=
 ⟨1,(vol % 3 : Nat),(blocks % 9 + 1 : Nat),(size % 3 + 1 : Nat),(per % (blocks % 9 + 1) + 1 : Nat),placeN per (chunksN (blocks % 9 + 1 : Nat) (per % (blocks % 9 + 1) + 1 : Nat)).toNat,total,0,0,[]⟩

theorem Create_con (vol blocks size per total : Nat) (h1 : vol < 256) (h2 : blocks < 256) (h3 : size < 256) (h4 : per < 256) (h5 : total < 1000) :
  Con Tryz.prog 33 [.c (.v (.int .u8 vol)),.c (.v (.int .u8 blocks)),.c (.v (.int .u8 size)),.c (.v (.int .u8 per)),I total] [] (.agg (cmdC (createC vol blocks size per total))) []:=by
 obtain ⟨b,hb⟩ : ∃ b,b = blocks % 9 + 1:=⟨_,rfl⟩
 obtain ⟨p,hp⟩ : ∃ p,p = per % b + 1:=⟨_,rfl⟩
 have hpb : p≤b:=by have:=Nat.mod_lt per (show 0 < b by omega);omega
 obtain ⟨c1,c2⟩:=chunks_nn (b:=b) (p:=p) (by omega) (by omega)
 obtain ⟨m,hm⟩ : ∃ m,m = (chunksN b p).toNat:=⟨_,rfl⟩
 have hmc : chunksN b p = (m : Int):=by omega
 have e1 : (blocks : Int) % 9 + 1 = (b : Int):=by omega
 have e2 : (per : Int) % (b : Int) + 1 = (p : Int):=by omega
 have e3 : (vol : Int) % 3 = ((vol % 3 : Nat) : Int):=by omega
 have e4 : (size : Int) % 3 + 1 = ((size % 3 + 1 : Nat) : Int):=by omega
 have cC:=mementoref16_Chunks_con b p (by omega) (by omega)
 rw [hmc] at cC
 have hres : cmdC (createC vol blocks size per total) = [.v (.int .i64 1),.v (.int .i64 (vol % 3 : Nat)),.v (.int .i64 b),.v (.int .i64 (size % 3 + 1 : Nat)),.v (.int .i64 p),.sl ((placeN per m).map nrow),.v (.int .i64 total),.v (.int .i64 0),.v (.int .i64 0),.sl []]:=by
  unfold createC;rw [← hb,← hp,← hm];rfl
 rw [hres]
 refine C_mementoseat_Create nl nl ?_
 simp only [cz,A_mementoseat_Create,argL,objL,List.length_nil,Nat.zero_add,zX,simprocAttr]
 refine aR 16 ?_
 refine aw_reg 64 (RG.go fun Q hQ=>?_)
 simp (disch:=first | (intros;contradiction) | omega | (simp only [zN];omega)) only [zS,zW,e1,e3,e4,simprocAttr]
 repeat refine ⟨by (omega),?_⟩
 refine hQ (RG.nil ?_)
 simp only [zX]
 refine aS 336 (fun Q hQ=>by simp (disch:=first | (intros;contradiction) | omega | (simp only [zN];omega)) only [zS,zW,e2,simprocAttr];repeat refine ⟨by (omega),?_⟩;exact hQ) ?_
 refine aR 496 ?_
 refine aw_loopK (X:={ i : Nat // i≤m }) [3,10,11] (fun i=>[(12,I i.1)]) [16] (fun i=>[(272,.box [.v (.int .i64 1),.v (.int .i64 (vol % 3 : Nat)),.v (.int .i64 b),.v (.int .i64 (size % 3 + 1 : Nat)),.v (.int .i64 p),.osl 5000,.v (.int .i64 total),.v (.int .i64 0),.v (.int .i64 0),.v (.slice none 0 0)]),(5000,.arr 3 1 ((placeN per i.1).map nrow) false)]) (fun i=>m - i.1) (⟨0,by omega⟩) ?_ ?_
 ·skip
  simp only [keepS,keepE,Option.getD_some,lk_cons,lkE_cons,List.cons_append,List.nil_append,simprocAttr]
  refine (Le.ownB 272 5 5000 _ 3 1 rfl rfl rfl (by decide)).trans ?_
  simp only [List.set_cons_succ,List.set_cons_zero,setE_cons,setE_nil,simprocAttr]
  refine Le.lit [] [] _ _ ?_ ?_ ?_ ?_
  ·simp only [zL,simprocAttr]
  ·simp only [zL,simprocAttr]
   all_goals (try ((repeat' (first | (exact drows_nrow _) | rfl | refine ⟨?_,?_⟩))))
  ·simp [rlook]
  ·(simp;done)
 rintro ⟨i,hi⟩
 simp only [keepS,keepE,Option.getD_some,lk_cons,lkE_cons,List.cons_append,List.nil_append,simprocAttr]
 simp only [zX]
 have hl:=placeN_len per i
 refine aB 544 ?_
 refine rC [] (cC) ?_
 refine aE ?_
 refine aw_cond _ rfl trivial (fun ht=>?_) (fun hf=>?_)
 ·skip
  try simp at ht
  simp only [zX]
  have e5 : 1 + ((i : Int) + per) % 2 = ((1 + (i + per) % 2 : Nat) : Int):=by omega
  have e6 : (placeN per i).map nrow ++ [[.v (.int .i64 ((1 + (i + per) % 2 : Nat) : Int))]] = (placeN per (i + 1)).map nrow:=by rw [placeN_succ,List.map_append];rfl
  refine aS 688 (fun Q hQ=>by simp (disch:=first | (intros;contradiction) | omega | (simp only [zN];omega)) only [zS,zW,e5,e6,hl,simprocAttr];repeat refine ⟨by (first | omega | (simp;omega)),?_⟩;exact hQ) ?_
  refine aS 912 (fun Q hQ=>by simp (disch:=first | (intros;contradiction) | omega | (simp only [zN];omega)) only [zS,zW,simprocAttr];exact hQ) ?_
  refine ⟨⟨i + 1,by omega⟩,?_,by first | omega | (simp only;omega)⟩
  refine Le.lit [] [(5000,832)] _ _ ?_ ?_ ?_ ?_
  ·simp only [zL,simprocAttr]
   all_goals (try ((repeat' (rfl))))
  ·simp only [zL,simprocAttr]
   all_goals (try (exact drows_nrow _))
  ·simp [rlook]
  ·(simp;done)
 try simp at hf
 simp only [zX,↓reduceIte]
 obtain rfl : i = m:=by omega
 refine aR 992 ?_
 refine Fin.data [5000] (.inr rfl) rfl (by (exact ⟨trivial,trivial⟩)) ?_
 simp only [zL,simprocAttr]
 all_goals ((repeat' (first | exact trivial | rfl | (refine ⟨⟨_,_,rfl⟩,?_⟩;(exact drows_nrow _)) | refine ⟨?_,?_⟩)))

end Go.Abs

namespace Go.Abs
open Go Go.Proofs
set_option maxRecDepth 100000
set_option linter.unusedSimpArgs false
set_option maxHeartbeats 8000000

theorem inC_yes {count first : Int} {x : IT} (h1 : 0≤x.b - first) (h2 : x.b - first < count) : inC count (shIt first x) = true:=by
 unfold inC shIt;rw [Bool.and_eq_true];exact ⟨decide_eq_true h1,decide_eq_true h2⟩
theorem inC_no {count first : Int} {x : IT} (h : ¬ (0≤x.b - first∧x.b - first < count)) : ¬ inC count (shIt first x) = true:=by
 unfold inC shIt;rw [Bool.and_eq_true];exact fun hh=>h ⟨of_decide_eq_true hh.1,of_decide_eq_true hh.2⟩

theorem Push_con (v : VOL) (n mark : Int) (ok : Vok v) (hr : rightV v = true) :
  Con Tryz.prog 34 [.agg (volC v),I n,I mark] [] (.tup [.agg (pushC (pushV v n mark).1),B (pushV v n mark).2]) []:=by
 obtain ⟨ok1,ok2,ok3,ok4⟩:=ok
 obtain ⟨hs,hf0,hf1,hpins,hws⟩:=right_facts hr
 obtain ⟨g1,g2,g3,g4,g5,g6,g7,g8,g9,g10,g11,g12⟩:=shape_facts hs
 have cC:=Count_con v n hs ok1
 have hlen : lenV v≤1000000:=by simp [lenV];omega
 refine C_mementoref16_Push nl nl ?_
 simp only [cz,A_mementoref16_Push,argL,objL,List.length_nil,Nat.zero_add,zX,simprocAttr]
 refine aS 16 (fun Q hQ=>by simp (disch:=intros;contradiction) only [zS,vC_eq,simprocAttr];exact hQ) ?_
 refine aB 96 ?_
 refine rC [] (cC) ?_
 refine aE ?_
 refine aBs 192 (fun Q hQ=>by simp (disch:=intros;contradiction) only [zS,simprocAttr];repeat refine ⟨by ((simp;done)),?_⟩;exact hQ) ?_
 refine rG _ _ (mementoref16_Len_con v) ?_
 refine aEs (fun Q hQ=>by simp (disch:=intros;contradiction) only [zS,simprocAttr];repeat refine ⟨by ((simp;done)),?_⟩;exact hQ) ?_
 refine aw_cond _ rfl trivial (fun ht=>?_) (fun hf=>?_)
 ·skip
  try simp at ht
  simp only [zX]
  have hno : pushV v n mark = (⟨0,0,0,0,0,0,0,[]⟩,false):=by
   unfold pushV
   rw [if_neg]
   intro hk
   simp only [pushOk,Bool.and_eq_true,decide_eq_true_eq] at hk
   have hc : countV v n = min v.per (v.blocks - n * v.per):=by unfold countV;rw [if_neg (by omega)]
   have hnp : n * v.per < v.blocks:=chunk_lt g7 g3 (by omega) (by rw [← g9];omega)
   omega
  rw [hno]
  refine aR 416 ?_
  refine Fin.data [] (.inr rfl) rfl (by (exact ⟨trivial,trivial⟩)) ?_
  simp only [zL,simprocAttr]
  all_goals ((repeat' (first | exact trivial | rfl | refine ⟨?_,?_⟩)))
 try simp at hf
 simp only [zX]
 have hplace : 0≤n∧n < v.place.length:=by
  by_cases h : n < 0∨(v.place.length : Int)≤n∨v.per < 1
  ·have : countV v n = 0:=by unfold countV;rw [if_pos h]
   omega
  ·omega
 have hok : pushOk v n mark = true:=by
  simp only [pushOk,Bool.and_eq_true,decide_eq_true_eq]
  omega
 have hyes : pushV v n mark = (pushP v n mark,true):=by unfold pushV;rw [if_pos hok]
 rw [hyes]
 simp only [pushP]
 simp only [pushOk,Bool.and_eq_true,decide_eq_true_eq] at hok
 obtain ⟨⟨⟨hn0,hn1⟩,hm0⟩,hm1⟩:=hok
 have hnp : n * v.per < v.blocks:=chunk_lt g7 g3 hn0 (by rw [← g9];exact hn1)
 have hnp0 : 0≤n * v.per:=Int.mul_nonneg hn0 (by omega)
 have hc : countV v n = min v.per (v.blocks - n * v.per):=by unfold countV;rw [if_neg (by omega)]
 rw [← hc]
 obtain ⟨count,hcount⟩ : ∃ c,c = countV v n:=⟨_,rfl⟩
 have hcb : 1≤count∧count≤256:=by omega
 obtain ⟨first,hfirst⟩ : ∃ f,f = n * v.per:=⟨_,rfl⟩
 rw [← hfirst] at hnp hnp0
 rw [← hfirst,← hcount]
 have e1 : IntKind.i64.wrap (n * v.per) = first:=by rw [← hfirst,w64 _ (by omega) (by omega)]
 obtain ⟨to,hto0⟩ : ∃ t,t = pushTo v mark:=⟨_,rfl⟩
 have hto : (if lenV v < mark + 4 then lenV v else mark + 4) = to:=by rw [hto0];unfold pushTo;rw [min_if]
 have hto1 : mark≤to∧to≤lenV v:=by rw [hto0];unfold pushTo;omega
 have hfl : (if to < v.floor then to else v.floor) = min v.floor to:=by rw [min_if]
 rw [← hto0]
 have hcc:=hcount.symm
 refine aBDs 496 (fun Q hQ=>by simp (disch:=first | (intros;contradiction) | omega | (simp only [zN];omega)) only [zS,zW,simprocAttr];exact hQ) ?_
 refine rC [] (mementoref16_Len_con v) ?_
 refine aEDs (fun Q hQ=>by simp (disch:=intros;contradiction) only [zS,hto,simprocAttr];exact hQ) ?_
 refine aS 768 (fun Q hQ=>by simp (disch:=intros;contradiction) only [zS,hfl,simprocAttr];exact hQ) ?_
 refine aR 912 ?_
 obtain ⟨sub,hsube⟩ : ∃ s,s = (v.ws.take to.toNat).drop mark.toNat:=⟨_,rfl⟩
 have hsubl : (sub.length : Int) = to - mark:=by rw [hsube];simp [lenV] at hto1 ⊢;omega
 rw [← hsube]
 obtain ⟨m0,rfl⟩ : ∃ m0 : Nat,mark = m0:=⟨mark.toNat,by omega⟩
 have hget : ∀ i (hi : i < sub.length),∃ h : m0 + i < v.ws.length,v.ws[m0 + i] = sub[i]:=fun i hi=>by
  have h1 : m0 + i < v.ws.length:=by simp [lenV] at hto1;omega
  refine ⟨h1,?_⟩
  simp [hsube]
 refine aw_loopK (X:={ i : Nat // i≤sub.length }) [1,3,6,8,9] (fun i=>[(10,I (m0 + i.1 : Nat))]) [16,32] (fun i=>[(704,.box [.v (.int .i64 v.id),.v (.int .i64 n),.v (.int .i64 count),.v (.int .i64 v.size),.v (.int .i64 m0),.v (.int .i64 to),.v (.int .i64 (min v.floor to)),.osl 5000]),(5000,.arr 99 2 ((pushWs first count (sub.take i.1)).map wrow) false)]) (fun i=>sub.length - i.1) (⟨0,by omega⟩) ?_ ?_
 ·skip
  simp only [keepS,keepE,Option.getD_some,lk_cons,lkE_cons,List.cons_append,List.nil_append,simprocAttr]
  refine (Le.ownB 704 7 5000 _ 99 2 rfl rfl rfl (by decide)).trans ?_
  simp only [List.set_cons_succ,List.set_cons_zero,setE_cons,setE_nil,simprocAttr]
  refine Le.lit [] [] _ _ ?_ ?_ ?_ ?_
  ·simp only [zL,simprocAttr]
   all_goals (try ((repeat' (rfl))))
  ·simp only [zL,simprocAttr]
   all_goals (try ((repeat' (first | (exact drows_wrow _) | rfl | refine ⟨?_,?_⟩))))
  ·simp [rlook]
  ·(simp;done)
 rintro ⟨i,hi⟩
 simp only [keepS,keepE,Option.getD_some,lk_cons,lkE_cons,List.cons_append,List.nil_append,simprocAttr]
 simp only [zX]
 refine aR 992 ?_
 refine aw_cond _ rfl trivial (fun ht=>?_) (fun hf=>?_)
 ·skip
  try simp at ht
  simp only [zX]
  have hi' : i < sub.length:=by omega
  obtain ⟨hix,hwx⟩:=hget i hi'
  have hmem : sub[i] ∈ v.ws:=by rw [← hwx];exact List.getElem_mem hix
  obtain ⟨hz1,hz2⟩:=ok4 _ hmem
  have hrng:=itemsR_mem (wsR_mem hws _ hmem)
  have hsucc:=pushWs_succ first count sub i hi'
  have hwl : (pushWs first count (sub.take i)).length≤1000000:=by have:=pushWs_len first count (sub.take i);simp at this;omega
  have hpl:=pushItems_len first count sub[i].its
  generalize sub[i] = w at *
  refine aR 1088 ?_
  refine aS 1136 (fun Q hQ=>by simp (disch:=first | (intros;contradiction) | omega | (simp only [zN];omega)) only [zS,zW,wrow,wrC,hwx,simprocAttr];repeat refine ⟨by (omega),?_⟩;exact hQ) ?_
  refine aR 1280 ?_
  refine aw_loopK (X:={ k : Nat // k≤w.its.length }) [1,3,6,8,9,10,12] (fun k=>[(11,.c (.osl 5001)),(13,I k.1)]) [16,32,704,5000,1216] (fun k=>[(5001,.arr 96 2 ((pushItems first count (w.its.take k.1)).map irow) false)]) (fun k=>w.its.length - k.1) (⟨0,by omega⟩) ?_ ?_
  ·skip
   simp only [keepS,keepE,Option.getD_some,lk_cons,lkE_cons,List.cons_append,List.nil_append,simprocAttr]
   refine (Le.own 11 5001 96 2 rfl rfl (by decide)).trans ?_
   simp only [setS_cons,setE_cons,setE_nil,simprocAttr]
   refine Le.lit [] [] _ _ ?_ ?_ ?_ ?_
   ·simp only [zL,simprocAttr]
   ·simp only [zL,simprocAttr]
    all_goals (try ((repeat' (first | (first | exact drows_irow _ | exact drows_wrow _) | rfl | refine ⟨?_,?_⟩))))
   ·simp [rlook]
   ·(simp;done)
  rintro ⟨k,hk⟩
  simp only [keepS,keepE,Option.getD_some,lk_cons,lkE_cons,List.cons_append,List.nil_append,simprocAttr]
  simp only [zX]
  refine aS 1328 (fun Q hQ=>by simp (disch:=intros;contradiction) only [zS,zW,simprocAttr];exact hQ) ?_
  refine aw_cond _ rfl trivial (fun ht=>?_) (fun hf=>?_)
  ·skip
   try simp at ht
   simp only [zX]
   have hk' : k < w.its.length:=by omega
   have hps:=pushItems_succ first count w.its k hk'
   have hpk : (pushItems first count (w.its.take k)).length≤1000000:=by have:=pushItems_len first count (w.its.take k);simp at this;omega
   obtain ⟨q1,q2,q3⟩:=hrng _ (List.getElem_mem hk')
   refine aSD 1440 (fun Q hQ=>by simp (disch:=first | (intros;contradiction) | omega | (simp only [zN];omega)) only [zS,zW,e1,irow,itC,simprocAttr];repeat refine ⟨by (omega),?_⟩;exact hQ) ?_
   refine aR 1664 ?_
   refine aw_cond _ rfl trivial (fun ht=>?_) (fun hf=>?_)
   ·skip
    try simp at ht
    have hin : inC count (shIt first w.its[k]) = true:=inC_yes (by omega) (by omega)
    rw [if_pos hin] at hps
    have e2 : (pushItems first count (w.its.take k)).map irow ++ [[.v (.int .i64 (w.its[k].b - first)),.sl (w.its[k].d.map brow)]] = (pushItems first count (w.its.take (k + 1))).map irow:=by rw [hps,List.map_append];rfl
    refine aw_reg 1808 (RG.go fun Q hQ=>?_)
    simp (disch:=first | (intros;contradiction) | omega | (simp only [zN];omega)) only [zS,zW,irow,itC,e2,simprocAttr]
    repeat refine ⟨by (first | omega | (simp;omega)),?_⟩
    refine hQ (RG.nil ?_)
    simp only [zX]
    refine aS 2032 (fun Q hQ=>by simp (disch:=first | (intros;contradiction) | omega | (simp only [zN];omega)) only [zS,zW,simprocAttr];exact hQ) ?_
    refine ⟨⟨k + 1,hk'⟩,?_,by first | omega | (simp only;omega)⟩
    refine Le.lit [] [(5001,1968)] _ _ ?_ ?_ ?_ ?_
    ·simp only [zL,simprocAttr]
     all_goals (try ((repeat' (rfl))))
    ·simp only [zL,simprocAttr]
     all_goals (try ((repeat' (first | (first | exact drows_irow _ | exact drows_wrow _) | refine ⟨?_,?_⟩))))
    ·simp [rlook]
    ·(simp;done)
   try simp at hf
   simp only [zX]
   have hin : ¬ inC count (shIt first w.its[k]) = true:=inC_no (by omega)
   rw [if_neg hin] at hps
   refine aS 2112 (fun Q hQ=>by simp (disch:=first | (intros;contradiction) | omega | (simp only [zN];omega)) only [zS,zW,simprocAttr];exact hQ) ?_
   refine ⟨⟨k + 1,hk'⟩,?_,by first | omega | (simp only;omega)⟩
   refine Le.lit [] [] _ _ ?_ ?_ ?_ ?_
   ·simp only [zL,simprocAttr]
    all_goals (try ((repeat' (rfl))))
   ·simp only [zL,simprocAttr]
    all_goals (rw [hps];(repeat' (first | (first | exact drows_irow _ | exact drows_wrow _ | (simp [C.isD];done)) | refine ⟨?_,?_⟩)))
   ·simp [rlook]
   ·(simp;done)
  try simp at hf
  simp only [zX,↓reduceIte]
  obtain rfl : k = w.its.length:=by omega
  obtain ⟨pit,hpit⟩ : ∃ p,p = pushItems first count w.its:=⟨_,rfl⟩
  have hpw : pushW first count w = if pit.isEmpty then [] else [⟨w.s,pit⟩]:=by rw [hpit];rfl
  have hpit2:=hpit.symm
  rw [← hpit] at hpl
  refine aS 2192 (fun Q hQ=>by simp (disch:=intros;contradiction) only [zS,zW,hpit2,simprocAttr];exact hQ) ?_
  refine aw_cond _ rfl trivial (fun ht=>?_) (fun hf=>?_)
  ·skip
   try simp at ht
   have hne : pit.isEmpty = false:=by cases hpe : pit with
    | nil=>rw [hpe] at ht;simp at ht
    | cons a b=>rfl
   rw [hne,if_neg (by simp)] at hpw
   refine aS 2272 (fun Q hQ=>by simp (disch:=intros;contradiction) only [zS,zW,simprocAttr];repeat refine ⟨by ((simp;omega)),?_⟩;exact hQ) ?_
   refine aS 2464 (fun Q hQ=>by simp (disch:=first | (intros;contradiction) | omega | (simp only [zN];omega)) only [zS,zW,simprocAttr];exact hQ) ?_
   refine ⟨⟨i + 1,hi'⟩,?_,by first | omega | (simp only;omega)⟩
   refine (Le.tell [5001] 2384 99 2 _ ((pushWs first count (sub.take (i + 1))).map wrow) false rfl (by rw [hsucc,hpw,List.map_append];refine tell_app ?_ _;exact ⟨⟨.inl rfl,.inr (.inr ⟨_,_,_,_,rfl,rfl,rfl,drows_irow _⟩),trivial⟩,trivial⟩)).trans ?_
   refine Le.lit [] [(5000,2384)] _ _ ?_ ?_ ?_ ?_
   ·simp only [zL,simprocAttr]
    all_goals (try ((repeat' (rfl))))
   ·simp only [zL,simprocAttr]
    all_goals (try ((repeat' ((exact drows_wrow _)))))
   ·simp [rlook]
   ·(simp;done)
  try simp at hf
  simp only [zX]
  have hne : pit.isEmpty = true:=by cases hpe : pit with
   | nil=>rfl
   | cons a b=>rw [hpe] at hf;simp at hf
  rw [hne,if_pos rfl] at hpw
  refine aS 2544 (fun Q hQ=>by simp (disch:=first | (intros;contradiction) | omega | (simp only [zN];omega)) only [zS,zW,simprocAttr];exact hQ) ?_
  refine ⟨⟨i + 1,hi'⟩,?_,by first | omega | (simp only;omega)⟩
  refine Le.lit [] [] _ _ ?_ ?_ ?_ ?_
  ·simp only [zL,simprocAttr]
   all_goals (try ((repeat' (rfl))))
  ·simp only [zL,simprocAttr]
   all_goals (rw [hsucc,hpw,List.append_nil];(repeat' (first | (first | exact drows_wrow _ | (simp [C.isD];done)) | refine ⟨?_,?_⟩)))
  ·simp [rlook]
  ·(simp;done)
 try simp at hf
 simp only [zX,↓reduceIte]
 obtain rfl : i = sub.length:=by omega
 refine aS 2624 (fun Q hQ=>by simp (disch:=intros;contradiction) only [zS,zW,simprocAttr];exact hQ) ?_
 refine Fin.data [5000] (.inr rfl) rfl (by (exact ⟨trivial,trivial⟩)) ?_
 simp only [zL,simprocAttr]
 all_goals ((repeat' (first | exact trivial | rfl | (refine ⟨⟨_,_,rfl⟩,?_⟩;(exact drows_wrow _)) | refine ⟨?_,?_⟩)))

end Go.Abs

namespace Go.Abs
open Go Go.Proofs
set_option maxRecDepth 100000
set_option linter.unusedSimpArgs false
set_option maxHeartbeats 8000000

def bodyR (d : List Nat) : List C:=[.sl (d.map brow)]
theorem drows_body (l : List (List Nat)) : isDRows (l.map bodyR):=by
 intro r hr c hc
 obtain ⟨p,_,rfl⟩:=List.mem_map.1 hr
 simp only [bodyR,List.mem_singleton] at hc
 subst hc;rfl

theorem Bodies_con (a b : List (List Nat)) (ha : a.length≤1000000) (h1 : ∀ x ∈ a,∀ c ∈ x,c < 256) (h2 : ∀ x ∈ b,∀ c ∈ x,c < 256) :
  Con Tryz.prog 15 [.c (.sl (a.map bodyR)),.c (.sl (b.map bodyR))] [] (B (decide (a = b))) []:=by
 refine C_mementohelp_Bodies nl nl ?_
 simp only [cz,A_mementohelp_Bodies,argL,objL,List.length_nil,Nat.zero_add,zX]
 refine aR 16 ?_
 refine aS 64 (fun Q hQ=>by simp (disch:=intros;contradiction) only [zS,zW,simprocAttr];exact hQ) ?_
 refine aw_cond _ rfl trivial (fun ht=>?_) (fun hf=>?_)
 ·skip
  try simp at ht
  simp only [zX]
  refine aR 176 ?_
  refine Fin.b (.inr rfl) rfl trivial ?_
  rw [eq_comm,decide_eq_false_iff_not];rintro rfl;exact ht rfl
 try simp at hf
 simp only [zX]
 refine aR 224 ?_
 refine aw_loopK (X:={ i : Nat // i≤a.length∧a.take i = b.take i }) [0,1] (fun i=>[(5,I i.1)]) [] (fun i=>[]) (fun i=>a.length - i.1) (⟨0,by omega,rfl⟩) ?_ ?_
 ·skip
  simp only [keepS,keepE,lk_cons,List.cons_append,List.nil_append,simprocAttr]
  refine Le.lit [] [] _ _ ?_ ?_ ?_ ?_
  ·simp only [zL,simprocAttr]
  ·simp only [zL,simprocAttr]
  ·simp [rlook]
  ·(simp;done)
 rintro ⟨i,hi,he⟩
 simp only [keepS,keepE,lk_cons,List.cons_append,List.nil_append,simprocAttr]
 simp only [zX]
 refine aS 272 (fun Q hQ=>by simp (disch:=intros;contradiction) only [zS,zW,simprocAttr];exact hQ) ?_
 refine aw_cond _ rfl trivial (fun ht=>?_) (fun hf=>?_)
 ·skip
  try simp at ht
  simp only [zX]
  have k1 : i < a.length:=by omega
  have k2 : i < b.length:=by omega
  have hs:=str_eq a[i] b[i] (h1 _ (List.getElem_mem k1)) (h2 _ (List.getElem_mem k2))
  refine aw_draw 368 (RG.go fun Q hQ=>?_)
  simp (disch:=first | (intros;contradiction) | omega | (simp only [zN];omega)) only [zS,zW,bodyR,hs,simprocAttr]
  repeat refine ⟨by (first | omega | exact isByteRow_brow _),?_⟩
  refine hQ (RG.nil ⟨by decide +kernel,?_⟩)
  simp only [zX]
  refine aw_cond _ rfl trivial (fun ht=>?_) (fun hf=>?_)
  ·skip
   try simp at ht
   simp only [zX]
   refine aR 576 ?_
   refine Fin.b (.inr rfl) rfl trivial ?_
   rw [eq_comm,decide_eq_false_iff_not]
   exact neq_of_take k1 k2 ht
  try simp at hf
  simp only [zX]
  refine aS 624 (fun Q hQ=>by simp (disch:=first | (intros;contradiction) | omega | (simp only [zN];omega)) only [zS,zW,simprocAttr];exact hQ) ?_
  refine ⟨⟨i + 1,by omega,take_next k1 k2 he hf⟩,?_,by first | omega | (simp only;omega)⟩
  refine Le.lit [] [] _ _ ?_ ?_ ?_ ?_
  ·simp only [zL,simprocAttr]
   all_goals (try ((repeat' (rfl))))
  ·simp only [zL,simprocAttr]
  ·simp [rlook]
  ·(simp;done)
 try simp at hf
 simp only [zX,↓reduceIte]
 have hi' : i = a.length:=by omega
 refine aR 704 ?_
 refine Fin.b (.inr rfl) rfl trivial ?_
 rw [eq_comm,decide_eq_true_iff]
 rw [List.take_of_length_le (by omega),List.take_of_length_le (by omega)] at he
 exact he

end Go.Abs

namespace Go.Abs
open Go Go.Proofs
set_option maxRecDepth 100000
set_option linter.unusedSimpArgs false
set_option maxHeartbeats 4000000

theorem rightV_iff {v : VOL} : rightV v = true ↔ shapeV v = true∧(0≤v.next∧v.next≤v.total)∧(v.hid = true∨v.next = v.total)∧(v.hid = false∨v.total≠0)∧0≤v.floor∧v.floor≤lenV v∧pinsR (lenV v) v.floor v.pins = true∧wsR v.blocks v.size 0 v.ws = true:=by
 unfold rightV
 simp [inR,and_assoc]

theorem pinsR_iff {n : Int} : ∀ {l : List Int} {last : Int},pinsR n last l = true ↔ (∀ p ∈ l,last≤p∧p≤n)∧l.Pairwise (·≤·)
 | [],last=>by simp [pinsR]
 | p :: l,last=>by
  simp only [pinsR,Bool.and_eq_true,decide_eq_true_eq,pinsR_iff (l:=l),List.mem_cons,List.pairwise_cons]
  constructor
  ·rintro ⟨⟨h1,h2⟩,h3,h4⟩
   refine ⟨?_,fun q hq=>(h3 q hq).1,h4⟩
   rintro q (rfl | hq)
   ·exact ⟨h1,h2⟩
   ·exact ⟨by have:=(h3 q hq).1;omega,(h3 q hq).2⟩
  ·rintro ⟨h1,h2,h3⟩
   exact ⟨h1 p (.inl rfl),fun q hq=>⟨h2 q hq,(h1 q (.inr hq)).2⟩,h3⟩

theorem wsR_app {b s : Int} {w : WR} : ∀ {l : List WR} {i : Nat},wsR b s i (l ++ [w]) = (wsR b s i l && (decide (w.s = (i : Int) + l.length + 1) && itemsR b s w.its))
 | [],i=>by simp [wsR]
 | x :: l,i=>by
  simp only [List.cons_append,wsR,wsR_app (l:=l),List.length_cons,Bool.and_assoc]
  congr 3
  rw [show ((i + 1 : Nat) : Int) + l.length + 1 = (i : Int) + ((l.length + 1 : Nat) : Int) + 1 by omega]

structure Vgood (v : VOL) (n : Nat) : Prop where
 right : rightV v = true
 by8 : byW v.ws
 ws : v.ws.length≤n
 pins : v.pins.length≤n
 hidp : v.hid = true→v.pins = []

theorem Vgood.mono {v : VOL} {n m : Nat} (h : Vgood v n) (hm : n≤m) : Vgood v m:=⟨h.right,h.by8,by have:=h.ws;omega,by have:=h.pins;omega,h.hidp⟩

theorem shape_lims {v : VOL} (h : shapeV v = true) : (0≤v.id∧v.id≤7)∧(1≤v.blocks∧v.blocks≤256)∧(1≤v.size∧v.size≤32)∧(1≤v.per∧v.per≤v.blocks)∧(v.place.length : Int) = chunksN v.blocks v.per∧(0≤v.total∧v.total≤1099511627776)∧v.place.length≤512:=by
 have h':=h
 simp only [shapeV,shapeP,Bool.and_eq_true,inR_iff,decide_eq_true_eq] at h'
 obtain ⟨⟨⟨⟨⟨⟨h1,h2⟩,h3⟩,h4⟩,h5⟩,h6⟩,_⟩:=h'
 have:=(chunks_nn (b:=v.blocks) (p:=v.per) (by omega) (by omega)).2
 exact ⟨h1,h2,h3,h4,h5,h6,by omega⟩

theorem Vgood.ok {v : VOL} {n : Nat} (h : Vgood v n) (hn : n≤50000) : Vok v:=by
 obtain ⟨h1,h2,h3,h4,h5⟩:=h
 obtain ⟨r1,r2,r3,r4,r5,r6,r7,r8⟩:=rightV_iff.1 h1
 obtain ⟨s1,s2,s3,s4,s5,s6,s7⟩:=shape_lims r1
 refine ⟨by omega,by omega,by omega,fun w hw=>?_⟩
 have hi:=wsR_mem r8 w hw
 exact ⟨by have:=(itemsR_len hi).2;omega,fun x hx=>by have:=(itemsR_mem hi x hx).2.2;omega⟩

theorem Vgood.next {v : VOL} {n : Nat} (h : Vgood v n) : 0≤v.next∧v.next≤1099511627776:=by
 obtain ⟨r1,r2,r3,r4,r5,r6,r7,r8⟩:=rightV_iff.1 h.right
 obtain ⟨s1,s2,s3,s4,s5,s6,s7⟩:=shape_lims r1
 omega

theorem Vgood.new {c : CMD} (h : shapeV (newV c) = true) : Vgood (newV c) 0:=by
 have s6 : 0≤c.total:=(shape_lims h).2.2.2.2.2.1.1
 refine ⟨rightV_iff.2 ⟨h,⟨Int.le_refl _,s6⟩,?_,?_,Int.le_refl _,?_,rfl,rfl⟩,fun w hw=>(by cases hw),Nat.le_refl _,Nat.le_refl _,fun _=>rfl⟩
 ·show decide (0 < c.total) = true∨0 = c.total
  simp;omega
 ·show decide (0 < c.total) = false∨c.total≠0
  simp;omega
 ·simp [newV,lenV]

theorem insP_mem {t x : Int} {l : List Int} (hs : l.Pairwise (·≤·)) : x ∈ insP t l ↔ x ∈ l∨x = t:=by
 rw [← insP_eq hs]
 have:=(isort_perm (l ++ [t])).mem_iff (a:=x)
 rw [this];simp
theorem insP_sorted {t : Int} {l : List Int} (hs : l.Pairwise (·≤·)) : (insP t l).Pairwise (·≤·):=by
 rw [← insP_eq hs];exact isort_sorted _
theorem insP_len {t : Int} {l : List Int} (hs : l.Pairwise (·≤·)) : (insP t l).length = l.length + 1:=by
 rw [← insP_eq hs,isort_len];simp
theorem delP_sub {t : Int} : ∀ l : List Int,(delP t l).Sublist l
 | []=>.slnil
 | x :: l=>by
  unfold delP
  split
  ·exact List.sublist_cons_self _ _
  ·exact (delP_sub l).cons_cons _
theorem lowL_le : ∀ (l : List Int) (n : Int),lowL n l≤n∧∀ p ∈ l,lowL n l≤p
 | [],n=>⟨Int.le_refl _,fun p hp=>(by cases hp)⟩
 | x :: l,n=>by
  have:=lowL_le l (min n x)
  have e : lowL n (x :: l) = lowL (min n x) l:=rfl
  rw [e]
  refine ⟨by omega,fun p hp=>?_⟩
  rcases List.mem_cons.1 hp with rfl | hp
  ·omega
  ·exact this.2 p hp

theorem Vgood.add {v : VOL} {n : Nat} (h : Vgood v n) {l : List IT} (hr : itemsR v.blocks v.size l = true) (hb : byI l) : Vgood (addW v l) (n + 1):=by
 obtain ⟨h1,h2,h3,h4,h5⟩:=h
 obtain ⟨r1,r2,r3,r4,r5,r6,r7,r8⟩:=rightV_iff.1 h1
 have hlen : lenV (addW v l) = lenV v + 1:=by simp [lenV,addW]
 refine ⟨rightV_iff.2 ⟨r1,r2,r3,r4,r5,by rw [hlen];show v.floor≤_;omega,?_,?_⟩,fun w hw=>?_,by simp [addW];omega,by show v.pins.length≤_;omega,h5⟩
 ·rw [hlen];show pinsR _ v.floor v.pins = true
  obtain ⟨p1,p2⟩:=pinsR_iff.1 r7
  exact pinsR_iff.2 ⟨fun p hp=>by have:=p1 p hp;omega,p2⟩
 ·show wsR v.blocks v.size 0 (v.ws ++ [⟨v.ws.length + 1,l⟩]) = true
  rw [wsR_app,r8];simp [hr]
 ·simp only [addW,List.mem_append,List.mem_singleton] at hw
  rcases hw with hw | rfl
  ·exact h2 w hw
  ·exact hb

theorem Vgood.doV {v : VOL} {n : Nat} (h : Vgood v n) {c : CMD} (hb : byI c.items) : Vgood (doV v c).v (n + 1):=by
 have hm:=h.mono (Nat.le_succ n)
 have hf : ∀ e,Vgood (fail v e).v (n + 1):=fun e=>hm
 obtain ⟨h1,h2,h3,h4,h5⟩:=h
 obtain ⟨r1,r2,r3,r4,r5,r6,r7,r8⟩:=rightV_iff.1 h1
 obtain ⟨p1,p2⟩:=pinsR_iff.1 r7
 have himp : Vgood (doImp v c).v (n + 1):=by
  unfold doImp
  split
  ·rename_i hi
   unfold impS at hi
   split at hi
   ·cases hi
   split at hi
   ·split at hi <;> cases hi
   split at hi
   ·cases hi
   split at hi
   ·cases hi
   rename_i g1 g2 g3 g4
   split at hi
   ·rename_i g5
    have ha:=Vgood.add ⟨h1,h2,h3,h4,h5⟩ g5 hb
    obtain ⟨a1,a2,a3,a4,a5⟩:=ha
    obtain ⟨q1,q2,q3,q4,q5,q6,q7,q8⟩:=rightV_iff.1 a1
    have g1' : v.hid = true:=by simpa using g1
    exact ⟨rightV_iff.2 ⟨q1,⟨by show 0≤v.next + 1;omega,by show v.next + 1≤v.total;omega⟩,.inl g1',q4,q5,q6,q7,q8⟩,a2,a3,a4,a5⟩
   ·cases hi
  ·rename_i w e hi
   split
   ·rename_i he
    subst he
    unfold impS at hi
    split at hi
    ·cases hi
    split at hi
    ·split at hi
     ·cases hi
      rename_i g1 g2 g3
      have g1' : v.hid = true:=by simpa using g1
      have hp:=h5 g1'
      refine ⟨rightV_iff.2 ⟨r1,r2,.inr g3,.inl rfl,?_,Int.le_refl _,?_,r8⟩,h2,by show v.ws.length≤_;omega,by show v.pins.length≤_;omega,fun h=>by cases h⟩
      ·show (0 : Int)≤(v.ws.length : Int);omega
      ·show pinsR _ _ v.pins = true;rw [hp];rfl
     ·cases hi
    split at hi
    ·cases hi;exact hm
    split at hi
    ·cases hi
    split at hi <;> cases hi
   ·exact hm
 unfold Go.Abs.doV
 split
 ·unfold doPut
  split
  ·exact hm
  split
  ·rename_i g;exact Vgood.add ⟨h1,h2,h3,h4,h5⟩ g hb
  ·exact hm
 split
 ·unfold doPrune
  split
  ·exact hm
  split
  ·exact hm
  split
  ·exact hm
  ·rename_i g1 g2 g3
   have hl:=lowL_le v.pins v.ws.length
   refine ⟨rightV_iff.2 ⟨r1,r2,r3,r4,by show 0≤c.at';omega,?_,?_,r8⟩,h2,by show v.ws.length≤_;omega,by show v.pins.length≤_;omega,h5⟩
   ·show c.at'≤lenV v
    have:=lowV_le v;omega
   ·show pinsR (lenV v) c.at' v.pins = true
    refine pinsR_iff.2 ⟨fun p hp=>⟨?_,(p1 p hp).2⟩,p2⟩
    have : lowV v≤p:=hl.2 p hp
    omega
 split
 ·unfold doPin
  split
  ·exact hm
  split
  ·exact hm
  split
  ·exact hm
  ·rename_i g1 g2 g3
   have g1' : v.hid = false:=by simpa using g1
   refine ⟨rightV_iff.2 ⟨r1,r2,r3,r4,r5,r6,?_,r8⟩,h2,by show v.ws.length≤_;omega,?_,fun h=>by rw [show v.hid = true from h] at g1';cases g1'⟩
   ·show pinsR (lenV v) v.floor (insP c.at' v.pins) = true
    refine pinsR_iff.2 ⟨fun p hp=>?_,insP_sorted p2⟩
    rcases (insP_mem p2).1 hp with hp | rfl
    ·exact p1 p hp
    ·omega
   ·show (insP c.at' v.pins).length≤_
    rw [insP_len p2];omega
 split
 ·unfold doUnpin
  split
  ·exact hm
  split
  ·rename_i g1 g2
   have g1' : v.hid = false:=by simpa using g1
   refine ⟨rightV_iff.2 ⟨r1,r2,r3,r4,r5,r6,?_,r8⟩,h2,by show v.ws.length≤_;omega,?_,fun h=>by rw [show v.hid = true from h] at g1';cases g1'⟩
   ·show pinsR (lenV v) v.floor (delP c.at' v.pins) = true
    exact pinsR_iff.2 ⟨fun p hp=>p1 p ((delP_sub _).subset hp),p2.sublist (delP_sub _)⟩
   ·show (delP c.at' v.pins).length≤_
    have:=(delP_sub (t:=c.at') v.pins).length_le;omega
  ·exact hm
 split
 ·exact himp
 split
 ·exact hm
 ·exact hm

theorem createC_shape (vol blocks size per total : Nat) (h : total < 1000) : shapeV (newV (createC vol blocks size per total)) = true:=by
 obtain ⟨b,hb⟩ : ∃ b,b = blocks % 9 + 1:=⟨_,rfl⟩
 obtain ⟨p,hp⟩ : ∃ p,p = per % b + 1:=⟨_,rfl⟩
 have hpb : p≤b:=by have:=Nat.mod_lt per (show 0 < b by omega);omega
 obtain ⟨c1,c2⟩:=chunks_nn (b:=b) (p:=p) (by omega) (by omega)
 have e : createC vol blocks size per total = ⟨1,(vol % 3 : Nat),b,(size % 3 + 1 : Nat),p,placeN per (chunksN b p).toNat,total,0,0,[]⟩:=by unfold createC;rw [← hb,← hp]
 rw [e]
 obtain ⟨m,hm⟩ : ∃ m,m = (chunksN b p).toNat:=⟨_,rfl⟩
 rw [← hm]
 show (inR ((vol % 3 : Nat) : Int) 0 7 && inR b 1 256 && inR ((size % 3 + 1 : Nat) : Int) 1 32 && inR p 1 b && decide (((placeN per m).length : Int) = chunksN b p) && inR total 0 1099511627776 && (placeN per m).all fun n=>inR n 1 7) = true
 rw [placeN_len]
 simp only [Bool.and_eq_true,inR_iff,decide_eq_true_eq]
 refine ⟨⟨⟨⟨⟨⟨by omega,by omega⟩,by omega⟩,by omega⟩,by omega⟩,by omega⟩,List.all_eq_true.2 fun x hx=>?_⟩
 obtain ⟨i,_,rfl⟩:=List.mem_map.1 hx
 rw [inR_iff];omega

theorem new_of {c : CMD} (h : shapeV (newV c) = true) : newR c = (newV c,0):=by unfold newR;rw [if_pos h]

end Go.Abs

namespace Go.Abs
open Go Go.Proofs
set_option maxRecDepth 100000
set_option linter.unusedSimpArgs false
set_option maxHeartbeats 4000000

def cmd0 (v : VOL) (B S L k a b c : Nat) : CMD :=
 if k≤3 then ⟨2,v.id,0,0,0,[],0,0,0,itsN B S [a,b,c]⟩
 else if k = 4 then ⟨3,v.id,0,0,0,[],0,(a % (L + 2) : Nat),0,[]⟩
 else if k = 5 then ⟨4,v.id,0,0,0,[],0,(a % (L + 2) : Nat),0,[]⟩
 else if k = 6 then ⟨5,v.id,0,0,0,[],0,(a % (L + 2) : Nat),0,[]⟩
 else if k = 7 then ⟨8,v.id,0,0,0,[],0,0,0,[]⟩
 else if k = 8 then ⟨6,v.id,0,0,0,[],0,0,max (v.next - (c % 5 / 4 : Nat)) 0,itsN B S [a,b]⟩
 else ⟨7,v.id,0,0,0,[],0,0,0,[]⟩
def cmdV (v : VOL) (B S L w a b c : Nat) : CMD :=
 if v.hid = true∧w % 10 < 5 then ⟨6,v.id,0,0,0,[],0,0,v.next,itsN B S [a,b,c]⟩ else cmd0 v B S L (w % 10) a b c

def zeroC0 : CMD:=⟨0,0,0,0,0,[],0,0,0,[]⟩
theorem Cmd_there (v : VOL) (n : Nat) (g : Vgood v n) (hn : n≤50000) (w a b c : Nat) (hw : w < 256) (ha : a < 256) (hb : b < 256) (hc : c < 256) :
  Con Tryz.prog 30 [.agg (volC v),B true,.c (.v (.int .u8 w)),.c (.v (.int .u8 a)),.c (.v (.int .u8 b)),.c (.v (.int .u8 c))] [] (.agg (cmdC (cmdV v v.blocks.toNat v.size.toNat v.ws.length w a b c))) []:=by
 obtain ⟨r1,r2,r3,r4,r5,r6,r7,r8⟩:=rightV_iff.1 g.right
 obtain ⟨s1,s2,s3,s4,s5,s6,s7⟩:=shape_lims r1
 have hlen:=g.ws
 obtain ⟨bl,hbl⟩ : ∃ bl : Nat,v.blocks = bl:=⟨v.blocks.toNat,by omega⟩
 obtain ⟨sz,hsz⟩ : ∃ sz : Nat,v.size = sz:=⟨v.size.toNat,by omega⟩
 obtain ⟨k,hk⟩ : ∃ k,k = w % 10:=⟨_,rfl⟩
 have e1 : (w : Int) % 10 = (k : Int):=by omega
 rw [hbl,hsz]
 simp only [Int.toNat_natCast]
 have m1 : (a : Int).tmod ((v.ws.length : Int) + 2) = ((a % (v.ws.length + 2) : Nat) : Int):=by
  rw [Int.tmod_eq_emod_of_nonneg (by omega)];push_cast;rfl
 have cI3 : Con Tryz.prog 60 [I v.blocks,I v.size,.c (.sl [[.v (.int .u8 a)],[.v (.int .u8 b)],[.v (.int .u8 c)]])] [] (.c (.sl ((itsN bl sz [a,b,c]).map irow))) []:=by
  rw [hbl,hsz];exact (Items_con bl sz [a,b,c] (by omega) (by omega) (by simp) (by intro x hx;simp at hx;omega)).rows (drows_irow _)
 have cI2 : Con Tryz.prog 60 [I v.blocks,I v.size,.c (.sl [[.v (.int .u8 a)],[.v (.int .u8 b)]])] [] (.c (.sl ((itsN bl sz [a,b]).map irow))) []:=by
  rw [hbl,hsz];exact (Items_con bl sz [a,b] (by omega) (by omega) (by simp) (by intro x hx;simp at hx;omega)).rows (drows_irow _)
 have cL:=mementoref16_Len_con v
 refine C_mementoseat_Cmd nl nl ?_
 simp only [cz,A_mementoseat_Cmd,argL,objL,List.length_nil,Nat.zero_add,zX,simprocAttr]
 refine aS 16 (fun Q hQ=>by simp (disch:=intros;contradiction) only [zS,vC_eq,simprocAttr];exact hQ) ?_
 refine aR 80 ?_
 refine aF ?_
 refine aw_reg 144 (RG.go fun Q hQ=>?_)
 simp (disch:=intros;contradiction) only [zS,simprocAttr]
 refine hQ (RG.nil ?_)
 simp only [zY]
 refine aw_joinS (Y:=Unit) [2,3,4,5,6,12,14] (fun y=>[]) [16] (fun y=>[(32,.box (cmdC zeroC0)),(192,.box (cmdC (cmd0 v bl sz v.ws.length k a b c)))]) (by (repeat' (exact cl_fin))) ?_ ?_
 ·skip
  simp only [zX]
  refine aw_reg 256 (RG.go fun Q hQ=>?_)
  simp (disch:=first | (intros;contradiction) | omega | (simp only [zN];omega)) only [zS,zW,e1,simprocAttr]
  repeat refine ⟨by (omega),?_⟩
  refine hQ (RG.nil ?_)
  simp only [zY]
  refine aw_block ?_
  refine aw_joinS (Y:={ q : Bool // q = decide (k≤3) }) [2,3,4,5,6,12,14,37] (fun q=>[(39,B q.1)]) [16,32,192] (fun q=>[]) (by (repeat' (first | exact cl_fin | refine cl_block ?_ | refine cl_goto ?_))) ?_ ?_
  ·skip
   simp only [zX]
   refine aR 320 ?_
   refine aw_cond _ rfl trivial (fun ht=>?_) (fun hf=>?_)
   ·skip
    try simp at ht
    simp only [zX]
    refine ⟨⟨decide (k≤3),rfl⟩,?_⟩
    simp only [keepS,keepE,Option.getD_some,lk_cons,lkE_cons,List.cons_append,List.nil_append,simprocAttr]
    refine Le.lit [] [] _ _ ?_ ?_ ?_ ?_
    ·simp only [zL,simprocAttr]
     all_goals (rw [Value.bool.injEq,Bool.eq_iff_iff];simp;omega;skip)
    ·simp only [zL,simprocAttr]
    ·simp [rlook]
    ·(simp;done)
   try simp at hf
   simp only [zX]
   refine aR 384 ?_
   refine aw_cond _ rfl trivial (fun ht=>?_) (fun hf=>?_)
   ·skip
    try simp at ht
    simp only [zX]
    refine ⟨⟨decide (k≤3),rfl⟩,?_⟩
    simp only [keepS,keepE,Option.getD_some,lk_cons,lkE_cons,List.cons_append,List.nil_append,simprocAttr]
    refine Le.lit [] [] _ _ ?_ ?_ ?_ ?_
    ·simp only [zL,simprocAttr]
     all_goals (rw [Value.bool.injEq,Bool.eq_iff_iff];simp;omega;skip)
    ·simp only [zL,simprocAttr]
    ·simp [rlook]
    ·(simp;done)
   try simp at hf
   simp only [zX]
   refine aR 448 ?_
   refine aw_cond _ rfl trivial (fun ht=>?_) (fun hf=>?_)
   ·skip
    try simp at ht
    simp only [zX]
    refine ⟨⟨decide (k≤3),rfl⟩,?_⟩
    simp only [keepS,keepE,Option.getD_some,lk_cons,lkE_cons,List.cons_append,List.nil_append,simprocAttr]
    refine Le.lit [] [] _ _ ?_ ?_ ?_ ?_
    ·simp only [zL,simprocAttr]
     all_goals (rw [Value.bool.injEq,Bool.eq_iff_iff];simp;omega;skip)
    ·simp only [zL,simprocAttr]
    ·simp [rlook]
    ·(simp;done)
   try simp at hf
   refine aR 512 ?_
   refine ⟨⟨decide (k≤3),rfl⟩,?_⟩
   simp only [keepS,keepE,Option.getD_some,lk_cons,lkE_cons,List.cons_append,List.nil_append,simprocAttr]
   refine Le.lit [] [] _ _ ?_ ?_ ?_ ?_
   ·simp only [zL,simprocAttr]
    all_goals (rw [Value.bool.injEq,Bool.eq_iff_iff];simp;omega;skip)
   ·simp only [zL,simprocAttr]
   ·simp [rlook]
   ·(simp;done)
  rintro ⟨q,hq⟩
  simp only [keepS,keepE,Option.getD_some,lk_cons,lkE_cons,List.cons_append,List.nil_append,simprocAttr]
  refine aw_cond _ rfl trivial (fun ht=>?_) (fun hf=>?_)
  ·skip
   try simp at ht
   have hE : cmd0 v bl sz v.ws.length k a b c = ⟨2,v.id,0,0,0,[],0,0,0,itsN bl sz [a,b,c]⟩:=by unfold cmd0;rw [if_pos (by simp [hq] at ht;omega)]
   refine aB 576 ?_
   refine rO [] [688] (cI3) ?_
   refine aE ?_
   refine ⟨(),?_⟩
   refine Le.lit [] [] _ _ ?_ ?_ ?_ ?_
   ·simp only [zL,simprocAttr]
   ·simp only [zL,simprocAttr]
    all_goals (rw [hE];trivial;skip)
   ·simp [rlook]
   ·(simp;done)
  try simp at hf
  simp only [zX]
  have hq3 : ¬ k≤3:=by simp [hq] at hf;omega
  refine aR 816 ?_
  refine aw_cond _ rfl trivial (fun ht=>?_) (fun hf=>?_)
  ·skip
   try simp at ht
   have hE : cmd0 v bl sz v.ws.length k a b c = ⟨3,v.id,0,0,0,[],0,(a % (v.ws.length + 2) : Nat),0,[]⟩:=by unfold cmd0;rw [if_neg hq3,if_pos (by omega)]
   refine aBDs 880 (fun Q hQ=>by simp (disch:=first | (intros;contradiction) | omega | (simp only [zN];omega)) only [zS,zW,simprocAttr];exact hQ) ?_
   refine rC [] (cL) ?_
   refine aEDs (fun Q hQ=>by simp (disch:=first | (intros;contradiction) | omega | (simp only [zN];omega)) only [zS,zW,lenV,simprocAttr];repeat refine ⟨by (omega),?_⟩;exact hQ) ?_
   refine ⟨(),?_⟩
   refine Le.lit [] [] _ _ ?_ ?_ ?_ ?_
   ·simp only [zL,simprocAttr]
   ·simp only [zL,simprocAttr]
    all_goals (rw [hE];trivial;skip)
   ·simp [rlook]
   ·(simp;done)
  try simp at hf
  simp only [zX]
  refine aR 1072 ?_
  refine aw_cond _ rfl trivial (fun ht=>?_) (fun hf=>?_)
  ·skip
   try simp at ht
   have hE : cmd0 v bl sz v.ws.length k a b c = ⟨4,v.id,0,0,0,[],0,(a % (v.ws.length + 2) : Nat),0,[]⟩:=by unfold cmd0;rw [if_neg hq3,if_neg (by omega),if_pos (by omega)]
   refine aBDs 1136 (fun Q hQ=>by simp (disch:=first | (intros;contradiction) | omega | (simp only [zN];omega)) only [zS,zW,simprocAttr];exact hQ) ?_
   refine rC [] (cL) ?_
   refine aEDs (fun Q hQ=>by simp (disch:=first | (intros;contradiction) | omega | (simp only [zN];omega)) only [zS,zW,lenV,simprocAttr];repeat refine ⟨by (omega),?_⟩;exact hQ) ?_
   refine ⟨(),?_⟩
   refine Le.lit [] [] _ _ ?_ ?_ ?_ ?_
   ·simp only [zL,simprocAttr]
   ·simp only [zL,simprocAttr]
    all_goals (rw [hE];trivial;skip)
   ·simp [rlook]
   ·(simp;done)
  try simp at hf
  simp only [zX]
  refine aR 1328 ?_
  refine aw_cond _ rfl trivial (fun ht=>?_) (fun hf=>?_)
  ·skip
   try simp at ht
   have hE : cmd0 v bl sz v.ws.length k a b c = ⟨5,v.id,0,0,0,[],0,(a % (v.ws.length + 2) : Nat),0,[]⟩:=by unfold cmd0;rw [if_neg hq3,if_neg (by omega),if_neg (by omega),if_pos (by omega)]
   refine aBDs 1392 (fun Q hQ=>by simp (disch:=first | (intros;contradiction) | omega | (simp only [zN];omega)) only [zS,zW,simprocAttr];exact hQ) ?_
   refine rC [] (cL) ?_
   refine aEDs (fun Q hQ=>by simp (disch:=first | (intros;contradiction) | omega | (simp only [zN];omega)) only [zS,zW,lenV,simprocAttr];repeat refine ⟨by (omega),?_⟩;exact hQ) ?_
   refine ⟨(),?_⟩
   refine Le.lit [] [] _ _ ?_ ?_ ?_ ?_
   ·simp only [zL,simprocAttr]
   ·simp only [zL,simprocAttr]
    all_goals (rw [hE];trivial;skip)
   ·simp [rlook]
   ·(simp;done)
  try simp at hf
  simp only [zX]
  refine aR 1584 ?_
  refine aw_cond _ rfl trivial (fun ht=>?_) (fun hf=>?_)
  ·skip
   try simp at ht
   have hE : cmd0 v bl sz v.ws.length k a b c = ⟨8,v.id,0,0,0,[],0,0,0,[]⟩:=by unfold cmd0;rw [if_neg hq3,if_neg (by omega),if_neg (by omega),if_neg (by omega),if_pos (by omega)]
   refine aR 1648 ?_
   refine ⟨(),?_⟩
   refine Le.lit [] [] _ _ ?_ ?_ ?_ ?_
   ·simp only [zL,simprocAttr]
   ·simp only [zL,simprocAttr]
    all_goals (rw [hE];trivial;skip)
   ·simp [rlook]
   ·(simp;done)
  try simp at hf
  simp only [zX]
  refine aR 1712 ?_
  refine aw_cond _ rfl trivial (fun ht=>?_) (fun hf=>?_)
  ·skip
   try simp at ht
   have hE : cmd0 v bl sz v.ws.length k a b c = ⟨6,v.id,0,0,0,[],0,0,max (v.next - (c % 5 / 4 : Nat)) 0,itsN bl sz [a,b]⟩:=by unfold cmd0;rw [if_neg hq3,if_neg (by omega),if_neg (by omega),if_neg (by omega),if_neg (by omega),if_pos (by omega)]
   have m2 : (c : Int) % 5 = ((c % 5 : Nat) : Int):=by omega
   have m3 : ((c % 5 : Nat) : Int) / 4 = ((c % 5 / 4 : Nat) : Int):=by omega
   have m4 : ((c % 5 : Nat) : Int).tdiv 4 = ((c % 5 / 4 : Nat) : Int):=by rw [Int.tdiv_eq_ediv_of_nonneg (by omega)];omega
   refine aw_draw 1776 (RG.go fun Q hQ=>?_)
   simp (disch:=first | (intros;contradiction) | omega | (simp only [zN];omega)) only [zS,zW,m2,m3,simprocAttr]
   repeat refine ⟨by (omega),?_⟩
   refine hQ ?_
   refine rO [] [2000] (cI2) ?_
   refine RG.go fun Q hQ=>?_
   simp (disch:=intros;contradiction) only [zS,simprocAttr]
   have m5:=max_if (v.next - (c % 5 / 4 : Nat)) 0
   refine hQ (RG.nil ⟨by decide +kernel,?_⟩)
   simp only [zX]
   refine ⟨(),?_⟩
   refine Le.lit [] [] _ _ ?_ ?_ ?_ ?_
   ·simp only [zL,simprocAttr]
   ·simp only [zL,simprocAttr]
    all_goals (rw [hE];simp only [m5];trivial;skip)
   ·simp [rlook]
   ·(simp;done)
  try simp at hf
  have hE : cmd0 v bl sz v.ws.length k a b c = ⟨7,v.id,0,0,0,[],0,0,0,[]⟩:=by unfold cmd0;rw [if_neg hq3,if_neg (by omega),if_neg (by omega),if_neg (by omega),if_neg (by omega),if_neg (by omega)]
  refine aR 2160 ?_
  refine ⟨(),?_⟩
  refine Le.lit [] [] _ _ ?_ ?_ ?_ ?_
  ·simp only [zL,simprocAttr]
  ·simp only [zL,simprocAttr]
   all_goals (rw [hE];trivial;skip)
  ·simp [rlook]
  ·(simp;done)
 rintro y
 simp only [keepS,keepE,Option.getD_some,lk_cons,lkE_cons,List.cons_append,List.nil_append,simprocAttr]
 simp only [zX]
 refine aw_reg 2224 (RG.go fun Q hQ=>?_)
 simp (disch:=first | (intros;contradiction) | omega | (simp only [zN];omega)) only [zS,zW,cmdC,cC,e1,simprocAttr]
 repeat refine ⟨by ((simp;done)),?_⟩
 refine hQ (RG.nil ?_)
 simp only [zX]
 refine aw_cond _ rfl trivial (fun ht=>?_) (fun hf=>?_)
 ·skip
  try simp at ht
  have hE : cmdV v bl sz v.ws.length w a b c = ⟨6,v.id,0,0,0,[],0,0,v.next,itsN bl sz [a,b,c]⟩:=by unfold cmdV;rw [if_pos ⟨ht.1,by have:=ht.2;omega⟩]
  rw [hE]
  refine aBD 2368 ?_
  refine rO [] [2544] (cI3) ?_
  refine aED ?_
  refine aR 2640 ?_
  refine Fin.data [] (.inr rfl) rfl (by (exact ⟨trivial,trivial⟩)) ?_
  simp only [zL]
  all_goals ((repeat' (first | exact trivial | rfl | refine ⟨?_,?_⟩)))
 try simp at hf
 simp only [zX]
 have hE : cmdV v bl sz v.ws.length w a b c = cmd0 v bl sz v.ws.length k a b c:=by unfold cmdV;rw [if_neg (by rintro ⟨h1,h2⟩;have:=hf h1;omega),hk]
 rw [hE]
 refine aR 2704 ?_
 refine Fin.data [] (.inr rfl) rfl (by (exact ⟨trivial,trivial⟩)) ?_
 simp only [zL]
 all_goals ((repeat' (first | exact trivial | rfl | refine ⟨?_,?_⟩)))

end Go.Abs

namespace Go.Abs
open Go Go.Proofs
set_option maxRecDepth 100000
set_option linter.unusedSimpArgs false
set_option maxHeartbeats 4000000

def u64N (n : Int) : Nat:=(n % 18446744073709551616).toNat
theorem u64N_wrap (n : Int) : IntKind.u64.wrap n = (u64N n : Int):=by rw [w_u64];unfold u64N;omega
theorem u64N_lt (n : Int) : u64N n < 18446744073709551616:=by unfold u64N;omega
def numsL (l : List Int) : List Nat:=putS (l.map u64N)
theorem numsL_len (l : List Int) : (numsL l).length≤l.length * 10:=by
 have:=putS_len (l.map u64N) (fun n hn=>by obtain ⟨m,_,rfl⟩:=List.mem_map.1 hn;exact u64N_lt m)
 simpa [numsL] using this
theorem numsL_succ (l : List Int) (i : Nat) (hi : i < l.length) : numsL (l.take (i + 1)) = numsL (l.take i) ++ putS [u64N l[i]]:=by
 unfold numsL;rw [take_one l i hi,List.map_append];unfold putS;rw [List.flatMap_append];rfl
theorem putS1_len (n : Int) : (putS [u64N n]).length≤10:=by
 have:=putS_len [u64N n] (fun m hm=>by simp at hm;rw [hm];exact u64N_lt n)
 simpa using this
theorem Put1_con (n : Int) : Con Tryz.prog 83 [.c (.sl [[.v (.int .u64 (u64N n))]])] [] (.c (.osl 0)) [.arr 5 1 ((putS [u64N n]).map brow) false] :=
 mementoref1_Put_con [u64N n] (by simp) (by intro m hm;simp at hm;rw [hm];exact u64N_lt n)

theorem nums16_con (l : List Int) (hl : l.length≤1000000) : Con Tryz.prog 57 [.c (.sl (l.map nrow))] [] (.c (.osl 0)) [.arr 5 1 ((numsL l).map brow) false]:=by
 refine C_mementoref16_nums nl nl ?_
 simp only [cz,A_mementoref16_nums,argL,objL,List.length_nil,zX]
 refine aR 16 ?_
 refine aR 64 ?_
 refine aR 112 ?_
 refine aw_loopK (X:={ i : Nat // i≤l.length }) [0] (fun i=>[(3,.c (.osl 5000)),(4,I i.1)]) [] (fun i=>[(5000,.arr 5 1 ((numsL (l.take i.1)).map brow) false)]) (fun i=>l.length - i.1) (⟨0,by omega⟩) ?_ ?_
 ·skip
  simp only [keepS,keepE,lk_cons,List.cons_append,List.nil_append,↓reduceIte]
  refine (Le.own 3 5000 5 1 rfl rfl (by decide)).trans ?_
  simp only [setS_cons,setE_nil,simprocAttr]
  refine Le.lit [] [] _ _ ?_ ?_ ?_ ?_
  ·simp only [zL,simprocAttr]
  ·simp only [zL,simprocAttr]
   all_goals (try ((repeat' (first | (exact drows_brow _) | rfl | refine ⟨?_,?_⟩))))
  ·simp [rlook]
  ·(simp;done)
 rintro ⟨i,hi⟩
 simp only [keepS,keepE,lk_cons,List.cons_append,List.nil_append,↓reduceIte]
 simp only [zX]
 refine aS 160 (fun Q hQ=>by simp (disch:=intros;contradiction) only [zS,zW,simprocAttr];exact hQ) ?_
 refine aw_cond _ rfl trivial (fun ht=>?_) (fun hf=>?_)
 ·skip
  try simp at ht
  simp only [zX]
  have hi' : i < l.length:=by omega
  have e1:=u64N_wrap l[i]
  have e2:=numsL_len (l.take i)
  have e3:=putS1_len l[i]
  have e4 : (numsL (l.take i)).map brow ++ (putS [u64N l[i]]).map brow = (numsL (l.take (i + 1))).map brow:=by rw [numsL_succ l i hi',List.map_append]
  simp only [List.length_take] at e2
  refine aBs 256 (fun Q hQ=>by simp (disch:=first | (intros;contradiction) | omega | (simp only [zN];omega)) only [zS,zW,nrow,e1,simprocAttr];repeat refine ⟨by (omega),?_⟩;exact hQ) ?_
  refine rO [] [352] (Put1_con l[i]) ?_
  refine aEs (fun Q hQ=>by simp (disch:=intros;contradiction) only [zS,zW,e4,simprocAttr];repeat refine ⟨by (exact ⟨by (intro q hq;obtain ⟨_,_,rfl⟩:=List.mem_map.1 hq;rfl),by omega⟩),?_⟩;exact hQ) ?_
  refine aS 448 (fun Q hQ=>by simp (disch:=first | (intros;contradiction) | omega | (simp only [zN];omega)) only [zS,zW,simprocAttr];exact hQ) ?_
  refine ⟨⟨i + 1,by omega⟩,?_,by first | omega | (simp only;omega)⟩
  refine Le.lit [] [(5000,384)] _ _ ?_ ?_ ?_ ?_
  ·simp only [zL,simprocAttr]
   all_goals (try ((repeat' (rfl))))
  ·simp only [zL,simprocAttr]
   all_goals (try ((repeat' ((exact drows_brow _)))))
  ·simp [rlook]
  ·(simp;done)
 try simp at hf
 simp only [zX,↓reduceIte]
 obtain rfl : i = l.length:=by omega
 refine aS 528 (fun Q hQ=>by simp (disch:=intros;contradiction) only [zS,zW,simprocAttr];exact hQ) ?_
 refine Fin.objs [] [(0,5000)] (.inr rfl) rfl (by exact trivial) ?_ ?_ (by simp [objL,rlook]) (by (simp [objL,rlook];done))
 ·simp only [zL,simprocAttr]
 ·simp only [zL,simprocAttr]
  all_goals (try ((repeat' ((exact drows_brow _)))))

theorem nums13_con (l : List Int) (hl : l.length≤1000000) : Con Tryz.prog 84 [.c (.sl (l.map nrow))] [] (.c (.osl 0)) [.arr 5 1 ((numsL l).map brow) false]:=by
 refine C_mementoref13_nums nl nl ?_
 simp only [cz,A_mementoref13_nums,argL,objL,List.length_nil,zX]
 refine aR 16 ?_
 refine aR 64 ?_
 refine aR 112 ?_
 refine aw_loopK (X:={ i : Nat // i≤l.length }) [0] (fun i=>[(3,.c (.osl 5000)),(4,I i.1)]) [] (fun i=>[(5000,.arr 5 1 ((numsL (l.take i.1)).map brow) false)]) (fun i=>l.length - i.1) (⟨0,by omega⟩) ?_ ?_
 ·skip
  simp only [keepS,keepE,lk_cons,List.cons_append,List.nil_append,↓reduceIte]
  refine (Le.own 3 5000 5 1 rfl rfl (by decide)).trans ?_
  simp only [setS_cons,setE_nil,simprocAttr]
  refine Le.lit [] [] _ _ ?_ ?_ ?_ ?_
  ·simp only [zL,simprocAttr]
  ·simp only [zL,simprocAttr]
   all_goals (try ((repeat' (first | (exact drows_brow _) | rfl | refine ⟨?_,?_⟩))))
  ·simp [rlook]
  ·(simp;done)
 rintro ⟨i,hi⟩
 simp only [keepS,keepE,lk_cons,List.cons_append,List.nil_append,↓reduceIte]
 simp only [zX]
 refine aS 160 (fun Q hQ=>by simp (disch:=intros;contradiction) only [zS,zW,simprocAttr];exact hQ) ?_
 refine aw_cond _ rfl trivial (fun ht=>?_) (fun hf=>?_)
 ·skip
  try simp at ht
  simp only [zX]
  have hi' : i < l.length:=by omega
  have e1:=u64N_wrap l[i]
  have e2:=numsL_len (l.take i)
  have e3:=putS1_len l[i]
  have e4 : (numsL (l.take i)).map brow ++ (putS [u64N l[i]]).map brow = (numsL (l.take (i + 1))).map brow:=by rw [numsL_succ l i hi',List.map_append]
  simp only [List.length_take] at e2
  refine aBs 256 (fun Q hQ=>by simp (disch:=first | (intros;contradiction) | omega | (simp only [zN];omega)) only [zS,zW,nrow,e1,simprocAttr];repeat refine ⟨by (omega),?_⟩;exact hQ) ?_
  refine rO [] [352] (Put1_con l[i]) ?_
  refine aEs (fun Q hQ=>by simp (disch:=intros;contradiction) only [zS,zW,e4,simprocAttr];repeat refine ⟨by (exact ⟨by (intro q hq;obtain ⟨_,_,rfl⟩:=List.mem_map.1 hq;rfl),by omega⟩),?_⟩;exact hQ) ?_
  refine aS 448 (fun Q hQ=>by simp (disch:=first | (intros;contradiction) | omega | (simp only [zN];omega)) only [zS,zW,simprocAttr];exact hQ) ?_
  refine ⟨⟨i + 1,by omega⟩,?_,by first | omega | (simp only;omega)⟩
  refine Le.lit [] [(5000,384)] _ _ ?_ ?_ ?_ ?_
  ·simp only [zL,simprocAttr]
   all_goals (try ((repeat' (rfl))))
  ·simp only [zL,simprocAttr]
   all_goals (try ((repeat' ((exact drows_brow _)))))
  ·simp [rlook]
  ·(simp;done)
 try simp at hf
 simp only [zX,↓reduceIte]
 obtain rfl : i = l.length:=by omega
 refine aS 528 (fun Q hQ=>by simp (disch:=intros;contradiction) only [zS,zW,simprocAttr];exact hQ) ?_
 refine Fin.objs [] [(0,5000)] (.inr rfl) rfl (by exact trivial) ?_ ?_ (by simp [objL,rlook]) (by (simp [objL,rlook];done))
 ·simp only [zL,simprocAttr]
 ·simp only [zL,simprocAttr]
  all_goals (try ((repeat' ((exact drows_brow _)))))

theorem num1_16 (n : Int) : Con Tryz.prog 57 [.c (.sl [[.v (.int .i64 n)]])] [] (.c (.osl 0)) [.arr 5 1 ((putS [u64N n]).map brow) false]:=nums16_con [n] (by simp)
theorem num1_13 (n : Int) : Con Tryz.prog 84 [.c (.sl [[.v (.int .i64 n)]])] [] (.c (.osl 0)) [.arr 5 1 ((putS [u64N n]).map brow) false]:=nums13_con [n] (by simp)

def placeB (l : List Int) : List Nat:=putS [u64N l.length] ++ numsL l
theorem placeB_succ (n : Nat) (l : List Int) (i : Nat) (hi : i < l.length) : putS [u64N n] ++ numsL (l.take (i + 1)) = putS [u64N n] ++ numsL (l.take i) ++ putS [u64N l[i]]:=by
 rw [numsL_succ l i hi,List.append_assoc]

theorem place_con (l : List Int) (hl : l.length≤1000000) : Con Tryz.prog 58 [.c (.sl (l.map nrow))] [] (.c (.osl 0)) [.arr 5 1 ((placeB l).map brow) false]:=by
 refine C_mementoref16_place nl nl ?_
 simp only [cz,A_mementoref16_place,argL,objL,List.length_nil,zX]
 refine aR 16 ?_
 refine aBs 64 (fun Q hQ=>by simp (disch:=intros;contradiction) only [zS,zW,simprocAttr];exact hQ) ?_
 refine rO [] [96] (num1_16 (l.length : Int)) ?_
 refine aE ?_
 refine aR 176 ?_
 refine aw_loopK (X:={ i : Nat // i≤l.length }) [0] (fun i=>[(3,.c (.osl 5000)),(4,I i.1)]) [] (fun i=>[(5000,.arr 5 1 ((putS [u64N l.length] ++ numsL (l.take i.1)).map brow) false)]) (fun i=>l.length - i.1) (⟨0,by omega⟩) ?_ ?_
 ·skip
  simp only [keepS,keepE,lk_cons,List.cons_append,List.nil_append,↓reduceIte]
  refine Le.lit [] [(5000,112)] _ _ ?_ ?_ ?_ ?_
  ·simp only [zL,simprocAttr]
  ·simp only [zL,simprocAttr]
   all_goals (simp [numsL,putS];(repeat' (((simp [brow,C.isD];done)))))
  ·simp [rlook]
  ·(simp;done)
 rintro ⟨i,hi⟩
 simp only [keepS,keepE,lk_cons,List.cons_append,List.nil_append,↓reduceIte]
 simp only [zX]
 refine aS 224 (fun Q hQ=>by simp (disch:=intros;contradiction) only [zS,zW,simprocAttr];exact hQ) ?_
 refine aw_cond _ rfl trivial (fun ht=>?_) (fun hf=>?_)
 ·skip
  try simp at ht
  simp only [zX]
  have hi' : i < l.length:=by omega
  have e1:=numsL_len (l.take i)
  have e2:=putS1_len l[i]
  have e3:=putS1_len l.length
  simp only [List.length_take] at e1
  have e4 : (putS [u64N l.length] ++ numsL (l.take i)).map brow ++ (putS [u64N l[i]]).map brow = (putS [u64N l.length] ++ numsL (l.take (i + 1))).map brow:=by rw [placeB_succ _ l i hi',List.map_append (l₁:=_ ++ _)]
  refine aBs 320 (fun Q hQ=>by simp (disch:=first | (intros;contradiction) | omega | (simp only [zN];omega)) only [zS,zW,nrow,simprocAttr];repeat refine ⟨by (omega),?_⟩;exact hQ) ?_
  refine rO [] [400] (num1_16 l[i]) ?_
  refine aEs (fun Q hQ=>by simp (disch:=intros;contradiction) only [zS,zW,e4,simprocAttr];repeat refine ⟨by (exact ⟨by (intro q hq;obtain ⟨_,_,rfl⟩:=List.mem_map.1 hq;rfl),by omega⟩),?_⟩;exact hQ) ?_
  refine aS 496 (fun Q hQ=>by simp (disch:=first | (intros;contradiction) | omega | (simp only [zN];omega)) only [zS,zW,simprocAttr];exact hQ) ?_
  refine ⟨⟨i + 1,by omega⟩,?_,by first | omega | (simp only;omega)⟩
  refine Le.lit [] [(5000,432)] _ _ ?_ ?_ ?_ ?_
  ·simp only [zL,simprocAttr]
   all_goals (try ((repeat' (rfl))))
  ·simp only [zL,simprocAttr]
   all_goals (try ((repeat' ((exact drows_brow _)))))
  ·simp [rlook]
  ·(simp;done)
 try simp at hf
 simp only [zX,↓reduceIte]
 obtain rfl : i = l.length:=by omega
 rw [List.take_length]
 refine aR 576 ?_
 refine Fin.objs [] [(0,5000)] (.inr rfl) rfl (by exact trivial) ?_ ?_ (by simp [objL,rlook]) (by (simp [objL,rlook];done))
 ·simp only [zL,simprocAttr]
 ·simp only [zL,simprocAttr]
  all_goals (try ((repeat' (first | (exact drows_brow _) | rfl | refine ⟨?_,?_⟩))))

def itB (x : IT) : List Nat:=putS [u64N x.b] ++ (num7 x.d.length ++ x.d)
def itsB (l : List IT) : List Nat:=l.flatMap itB
def itemsB (l : List IT) : List Nat:=putS [u64N l.length] ++ itsB l
theorem itsB_succ (l : List IT) (i : Nat) (hi : i < l.length) : itsB (l.take (i + 1)) = itsB (l.take i) ++ itB l[i]:=by
 unfold itsB;rw [take_one l i hi,List.flatMap_append];simp
theorem itB_len (x : IT) (h : x.d.length≤1000000) : (itB x).length≤x.d.length + 20:=by
 have h1:=putS1_len x.b
 have h2:=num7_len x.d.length (by omega)
 unfold itB;simp only [List.length_append];omega
theorem itsB_len : ∀ (l : List IT),(∀ x ∈ l,x.d.length≤1000000)→(itsB l).length≤l.length * 1000020
 | [],_=>by simp [itsB]
 | x :: l,h=>by
  have h1:=itB_len x (h x (by simp))
  have h2:=itsB_len l fun y hy=>h y (by simp [hy])
  have h3:=h x (by simp)
  have : itsB (x :: l) = itB x ++ itsB l:=rfl
  rw [this,List.length_append,List.length_cons];omega

theorem PutItems_con (l : List IT) (hl : l.length≤1000000) (hd : ∀ x ∈ l,x.d.length≤1000000) : Con Tryz.prog 59 [.c (.sl (l.map irow))] [] (.c (.osl 0)) [.arr 5 1 ((itemsB l).map brow) false]:=by
 refine C_mementoref13_PutItems nl nl ?_
 simp only [cz,A_mementoref13_PutItems,argL,objL,List.length_nil,zX]
 refine aR 16 ?_
 refine aBs 64 (fun Q hQ=>by simp (disch:=intros;contradiction) only [zS,zW,simprocAttr];exact hQ) ?_
 refine rO [] [96] (num1_13 (l.length : Int)) ?_
 refine aE ?_
 refine aR 176 ?_
 refine aw_loopK (X:={ i : Nat // i≤l.length }) [0] (fun i=>[(3,.c (.osl 5000)),(4,I i.1)]) [] (fun i=>[(5000,.arr 5 1 ((putS [u64N l.length] ++ itsB (l.take i.1)).map brow) false)]) (fun i=>l.length - i.1) (⟨0,by omega⟩) ?_ ?_
 ·skip
  simp only [keepS,keepE,lk_cons,List.cons_append,List.nil_append,↓reduceIte]
  refine Le.lit [] [(5000,112)] _ _ ?_ ?_ ?_ ?_
  ·simp only [zL,simprocAttr]
  ·simp only [zL,simprocAttr]
   all_goals (simp [itsB];(repeat' (((simp [brow,C.isD];done)))))
  ·simp [rlook]
  ·(simp;done)
 rintro ⟨i,hi⟩
 simp only [keepS,keepE,lk_cons,List.cons_append,List.nil_append,↓reduceIte]
 simp only [zX]
 refine aS 224 (fun Q hQ=>by simp (disch:=intros;contradiction) only [zS,zW,simprocAttr];exact hQ) ?_
 refine aw_cond _ rfl trivial (fun ht=>?_) (fun hf=>?_)
 ·skip
  try simp at ht
  simp only [zX]
  have hi' : i < l.length:=by omega
  have hx:=hd _ (List.getElem_mem hi')
  have e1:=itsB_len (l.take i) (fun x hx=>hd x (List.mem_of_mem_take hx))
  have e2:=putS1_len l[i].b
  have e3:=putS1_len l.length
  have e5:=num7_len l[i].d.length (by omega)
  simp only [List.length_take] at e1
  have e4 : (putS [u64N l.length] ++ itsB (l.take i)).map brow ++ (putS [u64N l[i].b]).map brow ++ (num7 l[i].d.length ++ l[i].d).map brow = (putS [u64N l.length] ++ itsB (l.take (i + 1))).map brow:=by
   rw [itsB_succ l i hi',← List.map_append,← List.map_append];simp only [itB,List.append_assoc]
  refine aBDs 320 (fun Q hQ=>by simp (disch:=first | (intros;contradiction) | omega | (simp only [zN];omega)) only [zS,zW,irow,itC,simprocAttr];repeat refine ⟨by (omega),?_⟩;exact hQ) ?_
  refine rO [] [416] (num1_13 l[i].b) ?_
  refine RG.go fun Q hQ=>?_
  simp (disch:=first | (intros;contradiction) | omega | (simp only [zN];omega)) only [zS,zW,irow,itC,simprocAttr]
  repeat refine ⟨by (first | omega | exact ⟨by (intro q hq;obtain ⟨_,_,rfl⟩:=List.mem_map.1 hq;rfl),by omega⟩),?_⟩
  refine hQ ?_
  refine rO [] [] (mementoref1_Lump_con l[i].d (by omega)) ?_
  refine aEDs (fun Q hQ=>by simp (disch:=intros;contradiction) only [zS,zW,e4,simprocAttr];repeat refine ⟨by (exact ⟨by (intro q hq;obtain ⟨_,_,rfl⟩:=List.mem_map.1 hq;rfl),by omega⟩),?_⟩;exact hQ) ?_
  refine aS 624 (fun Q hQ=>by simp (disch:=first | (intros;contradiction) | omega | (simp only [zN];omega)) only [zS,zW,simprocAttr];exact hQ) ?_
  refine ⟨⟨i + 1,by omega⟩,?_,by first | omega | (simp only;omega)⟩
  refine Le.lit [] [(5000,560)] _ _ ?_ ?_ ?_ ?_
  ·simp only [zL,simprocAttr]
   all_goals (try ((repeat' (rfl))))
  ·simp only [zL,simprocAttr]
   all_goals (try ((repeat' ((exact drows_brow _)))))
  ·simp [rlook]
  ·(simp;done)
 try simp at hf
 simp only [zX,↓reduceIte]
 obtain rfl : i = l.length:=by omega
 rw [List.take_length]
 refine aR 704 ?_
 refine Fin.objs [] [(0,5000)] (.inr rfl) rfl (by exact trivial) ?_ ?_ (by simp [objL,rlook]) (by (simp [objL,rlook];done))
 ·simp only [zL,simprocAttr]
 ·simp only [zL,simprocAttr]
  all_goals (try ((repeat' (first | (exact drows_brow _) | rfl | refine ⟨?_,?_⟩))))

end Go.Abs

namespace Go.Abs
open Go Go.Proofs
set_option maxRecDepth 100000
set_option linter.unusedSimpArgs false
set_option maxHeartbeats 4000000

theorem within16_con (n : Int) : Con Tryz.prog 82 [I n] [] (B (inR n 0 1099511627776)) []:=by
 refine C_mementoref16_within nl nl ?_
 simp only [cz,A_mementoref16_within,argL,objL,List.length_nil,zX]
 refine aw_reg 16 (RG.go fun Q hQ=>?_)
 simp (disch:=intros;contradiction) only [zS,simprocAttr]
 refine hQ (RG.nil ?_)
 simp only [zX]
 refine aw_reg 64 (RG.go fun Q hQ=>?_)
 simp (disch:=intros;contradiction) only [zS,simprocAttr]
 refine hQ (RG.nil ?_)
 simp only [zX]
 refine Fin.b (.inr rfl) rfl trivial ?_
 simp [inR]

def itC8 (x : IT) : Bool:=inR x.b 0 255 && decide (x.d.length≤32)
def cmdR (c : CMD) : Bool :=
 inR c.kind 1 8 && inR c.vol 0 7 && inR c.blocks 0 1099511627776 && inR c.size 0 1099511627776 && inR c.per 0 1099511627776 && inR c.total 0 1099511627776 && inR c.index 0 1099511627776 && inR c.at' 0 1099511627776 &&
  decide (c.place.length≤256) && decide (c.items.length≤8) && (c.place.all fun n=>inR n 0 7) && c.items.all itC8

theorem CmdRight_con (c : CMD) (hp : c.place.length≤1000000) (hl : c.items.length≤1000000) : Con Tryz.prog 56 [.agg (cmdC c)] [] (B (cmdR c)) []:=by
 obtain ⟨c1,c2,c3,c4,c5,c6,c7,c8,c9,c10⟩:=c
 simp only at hp hl
 have hs : cmdR ⟨c1,c2,c3,c4,c5,c6,c7,c8,c9,c10⟩ = (inR c1 1 8 && inR c2 0 7 && inR c3 0 1099511627776 && inR c4 0 1099511627776 && inR c5 0 1099511627776 && inR c7 0 1099511627776 && inR c9 0 1099511627776 && inR c8 0 1099511627776 &&
  decide (c6.length≤256) && decide (c10.length≤8) && (c6.all fun n=>inR n 0 7) && c10.all itC8):=rfl
 refine C_mementoref16_CmdRight nl nl ?_
 simp only [cz,A_mementoref16_CmdRight,argL,objL,List.length_nil,zX]
 refine aS 16 (fun Q hQ=>by simp (disch:=intros;contradiction) only [zS,cmdC,cC,simprocAttr];exact hQ) ?_
 refine aw_reg 80 (RG.go fun Q hQ=>?_)
 simp (disch:=intros;contradiction) only [zS,simprocAttr]
 repeat refine ⟨by ((simp;done)),?_⟩
 refine hQ ?_
 refine rG _ _ (within16_con c3) ?_
 refine aMs (fun Q hQ=>by simp (disch:=intros;contradiction) only [zS,simprocAttr];repeat refine ⟨by ((simp;done)),?_⟩;exact hQ) ?_
 refine rG _ _ (within16_con c4) ?_
 refine aMs (fun Q hQ=>by simp (disch:=intros;contradiction) only [zS,simprocAttr];repeat refine ⟨by ((simp;done)),?_⟩;exact hQ) ?_
 refine rG _ _ (within16_con c5) ?_
 refine aMs (fun Q hQ=>by simp (disch:=intros;contradiction) only [zS,simprocAttr];repeat refine ⟨by ((simp;done)),?_⟩;exact hQ) ?_
 refine rG _ _ (within16_con c7) ?_
 refine aMs (fun Q hQ=>by simp (disch:=intros;contradiction) only [zS,simprocAttr];repeat refine ⟨by ((simp;done)),?_⟩;exact hQ) ?_
 refine rG _ _ (within16_con c9) ?_
 refine aMs (fun Q hQ=>by simp (disch:=intros;contradiction) only [zS,simprocAttr];repeat refine ⟨by ((simp;done)),?_⟩;exact hQ) ?_
 refine rG _ _ (within16_con c8) ?_
 refine RG.go fun Q hQ=>?_
 simp (disch:=intros;contradiction) only [zS,zW,simprocAttr]
 repeat refine ⟨by ((simp;done)),?_⟩
 refine hQ (RG.nil ?_)
 simp only [zX]
 refine aw_cond _ rfl trivial (fun ht=>?_) (fun hf=>?_)
 ·skip
  try simp at ht
  simp only [zX]
  refine aR 1168 ?_
  refine Fin.b (.inr rfl) rfl trivial ?_
  rw [hs,eq_comm,Bool.eq_false_iff]
  intro h
  simp only [Bool.and_eq_true,inR_iff,decide_eq_true_eq] at h
  simp only [Bool.eq_false_iff,ne_eq,inR_iff] at ht
  omega
 try simp at hf
 simp only [zX]
 simp only [inR_iff] at hf
 have hq : cmdR ⟨c1,c2,c3,c4,c5,c6,c7,c8,c9,c10⟩ = ((c6.all fun n=>inR n 0 7) && c10.all itC8):=by
  rw [hs]
  have : inR c1 1 8 = true∧inR c2 0 7 = true∧inR c3 0 1099511627776 = true∧inR c4 0 1099511627776 = true∧inR c5 0 1099511627776 = true∧inR c7 0 1099511627776 = true∧inR c9 0 1099511627776 = true∧inR c8 0 1099511627776 = true∧c6.length≤256∧c10.length≤8:=by
   simp only [inR_iff];omega
  obtain ⟨q1,q2,q3,q4,q5,q6,q7,q8,q9,q10⟩:=this
  simp [q1,q2,q3,q4,q5,q6,q7,q8,q9,q10]
 rw [hq]
 refine aR 1216 ?_
 refine aw_loopK (X:={ i : Nat // i≤c6.length∧(c6.take i).all (fun n=>inR n 0 7) = true }) [1] (fun i=>[(3,I i.1)]) [16] (fun i=>[]) (fun i=>c6.length - i.1) (⟨0,by omega,rfl⟩) ?_ ?_
 ·skip
  simp only [keepS,keepE,Option.getD_some,lk_cons,lkE_cons,List.cons_append,List.nil_append,simprocAttr]
  refine Le.lit [] [] _ _ ?_ ?_ ?_ ?_
  ·simp only [zL,simprocAttr]
  ·simp only [zL,↓reduceIte]
  ·simp [rlook]
  ·(simp;done)
 rintro ⟨i,hi,ha⟩
 simp only [keepS,keepE,Option.getD_some,lk_cons,lkE_cons,List.cons_append,List.nil_append,simprocAttr]
 simp only [zX]
 refine aS 1264 (fun Q hQ=>by simp (disch:=intros;contradiction) only [zS,zW,simprocAttr];exact hQ) ?_
 refine aw_cond _ rfl trivial (fun ht=>?_) (fun hf=>?_)
 ·skip
  try simp at ht
  simp only [zX]
  have h1 : i < c6.length:=by omega
  refine aw_reg 1376 (RG.go fun Q hQ=>?_)
  simp (disch:=first | (intros;contradiction) | omega | (simp only [zN];omega)) only [zS,zW,nrow,simprocAttr]
  repeat refine ⟨by (first | omega | (simp;omega) | (simp;done)),?_⟩
  refine hQ (RG.nil ?_)
  simp only [zX]
  refine aw_cond _ rfl trivial (fun ht=>?_) (fun hf=>?_)
  ·skip
   try simp at ht
   simp only [zX]
   refine aR 1632 ?_
   refine Fin.b (.inr rfl) rfl trivial ?_
   rw [all_no h1]
   ·rfl
   rw [← Bool.not_eq_true,inR_iff];omega
  try simp at hf
  simp only [zX]
  refine aS 1680 (fun Q hQ=>by simp (disch:=first | (intros;contradiction) | omega | (simp only [zN];omega)) only [zS,zW,simprocAttr];exact hQ) ?_
  refine ⟨⟨i + 1,by omega,by rw [all_succ h1,ha,Bool.true_and,inR_iff];omega⟩,?_,by first | omega | (simp only;omega)⟩
  refine Le.lit [] [] _ _ ?_ ?_ ?_ ?_
  ·simp only [zL,simprocAttr]
   all_goals (try ((repeat' (rfl))))
  ·simp only [zL,↓reduceIte]
  ·simp [rlook]
  ·(simp;done)
 try simp at hf
 simp only [zX,↓reduceIte]
 have ha6:=all_yes (by omega) ha
 rw [ha6,Bool.true_and]
 refine aR 1760 ?_
 refine aw_loopK (X:={ i : Nat // i≤c10.length∧(c10.take i).all itC8 = true }) [1] (fun i=>[(4,I i.1)]) [16] (fun i=>[]) (fun i=>c10.length - i.1) (⟨0,by omega,rfl⟩) ?_ ?_
 ·skip
  simp only [keepS,keepE,Option.getD_some,lk_cons,lkE_cons,List.cons_append,List.nil_append,simprocAttr]
  refine Le.lit [] [] _ _ ?_ ?_ ?_ ?_
  ·simp only [zL,simprocAttr]
  ·simp only [zL,↓reduceIte]
  ·simp [rlook]
  ·(simp;done)
 rintro ⟨i,hi,ha⟩
 simp only [keepS,keepE,Option.getD_some,lk_cons,lkE_cons,List.cons_append,List.nil_append,simprocAttr]
 simp only [zX]
 refine aS 1808 (fun Q hQ=>by simp (disch:=intros;contradiction) only [zS,zW,simprocAttr];exact hQ) ?_
 refine aw_cond _ rfl trivial (fun ht=>?_) (fun hf=>?_)
 ·skip
  try simp at ht
  simp only [zX]
  have h1 : i < c10.length:=by omega
  refine aw_reg 1920 (RG.go fun Q hQ=>?_)
  simp (disch:=first | (intros;contradiction) | omega | (simp only [zN];omega)) only [zS,zW,irow,itC,simprocAttr]
  repeat refine ⟨by (first | omega | (simp;omega) | (simp;done)),?_⟩
  refine hQ (RG.nil ?_)
  simp only [zX]
  refine aw_cond _ rfl trivial (fun ht=>?_) (fun hf=>?_)
  ·skip
   try simp at ht
   simp only [zX]
   refine aR 2368 ?_
   refine Fin.b (.inr rfl) rfl trivial ?_
   rw [all_no h1]
   rw [← Bool.not_eq_true,itC8];simp only [Bool.and_eq_true,inR_iff,decide_eq_true_eq];omega
  try simp at hf
  simp only [zX]
  refine aS 2416 (fun Q hQ=>by simp (disch:=first | (intros;contradiction) | omega | (simp only [zN];omega)) only [zS,zW,simprocAttr];exact hQ) ?_
  refine ⟨⟨i + 1,by omega,by rw [all_succ h1,ha,Bool.true_and];simp only [itC8,Bool.and_eq_true,inR_iff,decide_eq_true_eq];omega⟩,?_,by first | omega | (simp only;omega)⟩
  refine Le.lit [] [] _ _ ?_ ?_ ?_ ?_
  ·simp only [zL,simprocAttr]
   all_goals (try ((repeat' (rfl))))
  ·simp only [zL,↓reduceIte]
  ·simp [rlook]
  ·(simp;done)
 try simp at hf
 simp only [zX,↓reduceIte]
 refine aR 2496 ?_
 refine Fin.b (.inr rfl) rfl trivial ?_
 rw [all_yes (by omega) ha]

def cmdB (c : CMD) : List Nat:=numsL [c.kind,c.vol,c.blocks,c.size,c.per,c.total,c.at',c.index] ++ placeB c.place ++ itemsB c.items
abbrev putC (c : CMD) : SV:=.tup [.c (.sl ((if cmdR c = true then cmdB c else []).map brow)),I (if cmdR c = true then 0 else 23)]

theorem PutCmd_con (c : CMD) (hp : c.place.length≤1000000) (hl : c.items.length≤1000000) (hd : ∀ x ∈ c.items,x.d.length≤1000000) : Con Tryz.prog 29 [.agg (cmdC c)] [] (putC c) []:=by
 have cR:=CmdRight_con c hp hl
 have e1:=numsL_len [c.kind,c.vol,c.blocks,c.size,c.per,c.total,c.at',c.index]
 have e2:=numsL_len c.place
 have e3:=putS1_len c.place.length
 have e4:=itsB_len c.items hd
 have e5:=putS1_len c.items.length
 cases hr : cmdR c
 ·have hE : putC c = .tup [.c (.sl []),I 23]:=by simp [putC,hr]
  rw [hE]
  rw [hr] at cR
  refine C_mementoref16_PutCmd nl nl ?_
  simp only [cz,A_mementoref16_PutCmd,argL,objL,List.length_nil,zX]
  refine aS 16 (fun Q hQ=>by simp (disch:=intros;contradiction) only [zS,cmdC,cC,simprocAttr];exact hQ) ?_
  refine aB 96 ?_
  refine rC [] (cR) ?_
  refine aE ?_
  refine aT ?_
  refine aR 176 ?_
  refine Fin.data [] (.inr rfl) rfl (by (exact trivial)) ?_
  simp only [zL,simprocAttr]
  all_goals (skip)

 ·have hE : putC c = .tup [.c (.sl ((numsL [c.kind,c.vol,c.blocks,c.size,c.per,c.total,c.at',c.index]).map brow ++ (placeB c.place).map brow ++ (itemsB c.items).map brow)),I 0]:=by
   simp [putC,hr,cmdB,List.map_append]
  have hE2 : (cmdB c).map brow = (numsL [c.kind,c.vol,c.blocks,c.size,c.per,c.total,c.at',c.index]).map brow ++ (placeB c.place).map brow ++ (itemsB c.items).map brow:=by
   unfold cmdB;rw [List.map_append,List.map_append]
  have hdr : isDRows ((numsL [c.kind,c.vol,c.blocks,c.size,c.per,c.total,c.at',c.index]).map brow ++ (placeB c.place).map brow ++ (itemsB c.items).map brow):=by rw [← hE2];exact drows_brow _
  rw [hE]
  rw [hr] at cR
  have e6 : (numsL [c.kind,c.vol,c.blocks,c.size,c.per,c.total,c.at',c.index]).length≤80:=by simpa using e1
  have e7 : (placeB c.place).length≤10000010:=by unfold placeB;rw [List.length_append];omega
  have e8 : (itemsB c.items).length≤10 + c.items.length * 1000020:=by unfold itemsB;rw [List.length_append];omega
  refine C_mementoref16_PutCmd nl nl ?_
  simp only [cz,A_mementoref16_PutCmd,argL,objL,List.length_nil,zX]
  refine aS 16 (fun Q hQ=>by simp (disch:=intros;contradiction) only [zS,cmdC,cC,simprocAttr];exact hQ) ?_
  refine aB 96 ?_
  refine rC [] (cR) ?_
  refine aE ?_
  refine aF ?_
  refine aB 176 ?_
  refine rO [] [432] (nums16_con [c.kind,c.vol,c.blocks,c.size,c.per,c.total,c.at',c.index] (by simp)) ?_
  refine aE ?_
  refine aBD 512 ?_
  refine rO [] [] (place_con c.place hp) ?_
  refine aMs (fun Q hQ=>by simp (disch:=intros;contradiction) only [zS,zW,simprocAttr];repeat refine ⟨by (exact ⟨by (intro q hq;obtain ⟨_,_,rfl⟩:=List.mem_map.1 hq;rfl),by omega⟩),?_⟩;exact hQ) ?_
  refine rO [] [] (PutItems_con c.items hl hd) ?_
  refine aEDs (fun Q hQ=>by simp (disch:=intros;contradiction) only [zS,zW,simprocAttr];repeat refine ⟨by (exact ⟨by (intro q hq;obtain ⟨_,_,rfl⟩:=List.mem_map.1 hq;rfl),by omega⟩),?_⟩;exact hQ) ?_
  refine Fin.data [640] (.inr rfl) rfl (by (exact trivial)) ?_
  simp only [zL,simprocAttr]
  all_goals ((repeat' ((refine ⟨⟨_,_,rfl⟩,?_⟩;(assumption)))))

end Go.Abs

namespace Go.Abs
open Go Go.Proofs
set_option maxRecDepth 100000
set_option linter.unusedSimpArgs false
set_option maxHeartbeats 4000000

theorem lumpR_mem {most : Nat} {l : List Nat} {e : Nat} (hl : ∀ c ∈ l,c < 256) : (∀ c ∈ (lumpR most l e).1,c < 256)∧∀ c ∈ (lumpR most l e).2.1,c < 256:=by
 have h:=numR_mem (most:=most) (e:=e) hl
 unfold lumpR
 split
 ·exact ⟨by simp,h⟩
 split
 ·exact ⟨by simp,by simp⟩
 ·exact ⟨fun c hc=>h c (List.mem_of_mem_take hc),fun c hc=>h c (List.mem_of_mem_drop hc)⟩
theorem lumpR_len {most : Nat} {l : List Nat} {e : Nat} : (lumpR most l e).1.length≤l.length∧(lumpR most l e).2.1.length≤l.length:=by
 have h:=numR_len (most:=most) (l:=l) (e:=e)
 unfold lumpR
 split
 ·exact ⟨by simp,h⟩
 split
 ·exact ⟨by simp,by simp⟩
 ·simp only [List.length_take,List.length_drop];omega
theorem numR_le {most : Nat} {l : List Nat} {e : Nat} : (numR most l e).1≤most:=by
 unfold numR
 split
 ·exact Nat.zero_le _
 split
 ·exact Nat.zero_le _
 split
 ·exact Nat.zero_le _
 ·simp only;omega
structure RestOk (n : Nat) (l : List Nat) : Prop where
 b8 : ∀ c ∈ l,c < 256
 len : l.length≤n
theorem RestOk.num {n : Nat} {l : List Nat} (h : RestOk n l) (most e : Nat) : RestOk n (numR most l e).2.1:=⟨numR_mem h.b8,by have:=h.len;have:=numR_len (most:=most) (l:=l) (e:=e);omega⟩
theorem RestOk.lump {n : Nat} {l : List Nat} (h : RestOk n l) (most e : Nat) : RestOk n (lumpR most l e).2.1:=⟨(lumpR_mem h.b8).2,by have:=h.len;have:=(lumpR_len (most:=most) (l:=l) (e:=e)).2;omega⟩

def tkP : Nat→List Int→List Nat→Nat→List Int × List Nat × Nat
 | 0,acc,l,e=>(acc,l,e)
 | k + 1,acc,l,e=>if e = 0 then tkP k (acc ++ [((numR 8 l e).1 : Int)]) (numR 8 l e).2.1 (numR 8 l e).2.2 else (acc,l,e)
def takeP (l : List Nat) (e : Nat) : List Int × List Nat × Nat:=tkP (numR 256 l e).1 [] (numR 256 l e).2.1 (numR 256 l e).2.2

theorem takePlace_con (l : List Nat) (e n : Nat) (hl : RestOk n l) (hn : n≤100000000000000) :
  Con Tryz.prog 88 [.c (.bp 0 0)] [Rd l e] (.c (.osl 1)) [Rd (takeP l e).2.1 (takeP l e).2.2,.arr 3 1 ((takeP l e).1.map nrow) false]:=by
 have h1:=hl.len
 have hq:=hl.num 256 e
 have hm : (numR 256 l e).1≤256:=numR_le
 have cN:=mementoref1_Reader_Num_con l e 256 hl.b8 (by omega)
 generalize hR : takeP l e = R
 unfold takeP at hR
 generalize numR 256 l e = q at hR hq hm cN
 obtain ⟨m,l1,e1⟩:=q
 simp only at hR hq hm cN
 refine C_mementoref16_takePlace nl nl ?_
 simp only [cz,A_mementoref16_takePlace,argL,objL,List.length_nil,List.length_cons,Nat.zero_add,zX]
 refine aR 16 ?_
 refine aR 64 ?_
 refine aB 112 ?_
 refine rO [0] [] (cN) ?_
 refine aE ?_
 refine aR 192 ?_
 refine aw_loopK (X:={ p : Nat × List Int × List Nat × Nat // p.1≤m∧p.2.1.length≤p.1∧RestOk n p.2.2.1∧tkP (m - p.1) p.2.1 p.2.2.1 p.2.2.2 = R }) [0,4] (fun p=>[(3,.c (.osl 5000)),(5,.c (.v (.int .u64 p.1.1)))]) [] (fun p=>[(0,Rd p.1.2.2.1 p.1.2.2.2),(5000,.arr 3 1 (p.1.2.1.map nrow) false)]) (fun p=>m - p.1.1) (⟨(0,[],l1,e1),by simp only;omega,by simp,hq,hR⟩) ?_ ?_
 ·skip
  simp only [keepS,keepE,lk_cons,List.cons_append,List.nil_append,simprocAttr]
  refine (Le.own 3 5000 3 1 rfl rfl (by decide)).trans ?_
  simp only [setS_cons,setE_cons,setE_nil,simprocAttr]
  refine Le.lit [] [] _ _ ?_ ?_ ?_ ?_
  ·simp only [zL,simprocAttr]
  ·simp only [zL,simprocAttr]
   all_goals (try ((repeat' (((simp [C.isD];done))))))
  ·simp [rlook]
  ·(intro k hk;simp [rlook];omega)
 rintro ⟨⟨i,acc,l2,e2⟩,k1,k2,k3,k4⟩
 simp only [keepS,keepE,lk_cons,List.cons_append,List.nil_append,simprocAttr]
 simp only [zX]
 simp only at k1 k2 k3 k4
 refine aR 240 ?_
 refine aw_cond _ rfl trivial (fun ht=>?_) (fun hf=>?_)
 ·skip
  try simp at ht
  simp only [zX]
  obtain ⟨d,hd⟩ : ∃ d,m - i = d + 1:=⟨m - i - 1,by omega⟩
  obtain rfl : e2 = 0:=by omega
  have k5:=k3.len
  have k6:=k3.num 8 0
  have k7 : (numR 8 l2 0).1≤8:=numR_le
  have cM:=mementoref1_Reader_Num_con l2 0 8 k3.b8 (by omega)
  rw [hd] at k4
  unfold tkP at k4
  rw [if_pos rfl] at k4
  generalize numR 8 l2 0 = q at k4 k6 k7 cM
  obtain ⟨v,l3,e3⟩:=q
  simp only at k4 k6 k7 cM
  refine aB 432 ?_
  refine rO [0] [] (cM) ?_
  refine RG.go fun Q hQ=>?_
  simp (disch:=first | (intros;contradiction) | omega | (simp only [zN];omega)) only [zS,zW,simprocAttr]
  have e6 : acc.map nrow ++ [[.v (.int .i64 (v : Int))]] = (acc ++ [(v : Int)]).map nrow:=by rw [List.map_append];rfl
  repeat refine ⟨by ((simp;omega)),?_⟩
  refine hQ (RG.nil ?_)
  simp only [zX]
  refine aS 576 (fun Q hQ=>by simp (disch:=first | (intros;contradiction) | omega | (simp only [zN];omega)) only [zS,zW,e6,simprocAttr];exact hQ) ?_
  refine ⟨⟨(i + 1,acc ++ [(v : Int)],l3,e3),by simp only;omega,by simp;omega,k6,by simp only;rw [show m - (i + 1) = d by omega];exact k4⟩,?_,by first | omega | (simp only;omega)⟩
  refine Le.lit [] [(5000,512)] _ _ ?_ ?_ ?_ ?_
  ·simp only [zL,simprocAttr]
   all_goals (try ((repeat' (rfl))))
  ·simp only [zL,simprocAttr]
   all_goals (try (exact drows_nrow _))
  ·simp [rlook]
  ·(intro k hk;simp [rlook];omega)
 try simp at hf
 simp only [zX,↓reduceIte]
 have hR2 : R = (acc,l2,e2):=by
  rw [← k4]
  cases hmi : m - i with
  | zero=>rfl
  | succ d=>unfold tkP;rw [if_neg (by omega)]
 rw [hR2]
 refine aR 656 ?_
 refine Fin.objs [] [(1,5000)] (.inr rfl) rfl (by exact trivial) ?_ ?_ (by simp [objL,rlook]) (by (simp [objL,rlook];done))
 ·simp only [zL,simprocAttr]
 ·simp only [zL,simprocAttr]
  all_goals (try (exact drows_nrow _))

def tkI : Nat→List IT→List Nat→Nat→List IT × List Nat × Nat
 | 0,acc,l,e=>(acc,l,e)
 | k + 1,acc,l,e =>
  if e = 0 then tkI k (acc ++ [⟨((numR 256 l e).1 : Int),(lumpR 32 (numR 256 l e).2.1 (numR 256 l e).2.2).1⟩]) (lumpR 32 (numR 256 l e).2.1 (numR 256 l e).2.2).2.1 (lumpR 32 (numR 256 l e).2.1 (numR 256 l e).2.2).2.2
  else (acc,l,e)
def takeI (l : List Nat) (e : Nat) : List IT × List Nat × Nat:=tkI (numR 8 l e).1 [] (numR 8 l e).2.1 (numR 8 l e).2.2

structure ItsOk (n : Nat) (its : List IT) : Prop where
 b8 : byI its
 len : its.length≤8
 d : ∀ x ∈ its,x.d.length≤n

theorem tkI_ok {n : Nat} : ∀ (k : Nat) (acc : List IT) (l : List Nat) (e : Nat),RestOk n l→byI acc→(∀ x ∈ acc,x.d.length≤n)→acc.length + k≤8→ItsOk n (tkI k acc l e).1∧RestOk n (tkI k acc l e).2.1
 | 0,acc,l,e,h1,h2,h3,h4=>⟨⟨h2,by unfold tkI;omega,h3⟩,h1⟩
 | k + 1,acc,l,e,h1,h2,h3,h4=>by
  unfold tkI
  split
  ·have g1:=h1.num 256 e
   have g2:=g1.lump 32 (numR 256 l e).2.2
   have g3:=lumpR_mem (most:=32) (e:=(numR 256 l e).2.2) g1.b8
   have g4:=lumpR_len (most:=32) (l:=(numR 256 l e).2.1) (e:=(numR 256 l e).2.2)
   refine tkI_ok k _ _ _ g2 ?_ ?_ (by simp;omega)
   ·intro x hx
    rcases List.mem_append.1 hx with hx | hx
    ·exact h2 x hx
    ·simp only [List.mem_singleton] at hx;subst hx;exact g3.1
   ·intro x hx
    rcases List.mem_append.1 hx with hx | hx
    ·exact h3 x hx
    ·simp only [List.mem_singleton] at hx;subst hx;have:=g1.len;exact Nat.le_trans g4.1 this
  ·exact ⟨⟨h2,by show acc.length≤8;omega,h3⟩,h1⟩
theorem takeI_ok {n : Nat} {l : List Nat} (e : Nat) (h : RestOk n l) : ItsOk n (takeI l e).1∧RestOk n (takeI l e).2.1:=by
 have : (numR 8 l e).1≤8:=numR_le
 exact tkI_ok _ _ _ _ (h.num 8 e) (fun x hx=>by cases hx) (fun x hx=>by cases hx) (by simpa using this)
theorem tkP_ok {n : Nat} : ∀ (k : Nat) (acc : List Int) (l : List Nat) (e : Nat),RestOk n l→acc.length + k≤256→(tkP k acc l e).1.length≤256∧RestOk n (tkP k acc l e).2.1
 | 0,acc,l,e,h1,h4=>⟨by unfold tkP;simpa using h4,h1⟩
 | k + 1,acc,l,e,h1,h4=>by
  unfold tkP
  split
  ·exact tkP_ok k _ _ _ (h1.num 8 e) (by simp;omega)
  ·exact ⟨by show acc.length≤256;omega,h1⟩
theorem takeP_ok {n : Nat} {l : List Nat} (e : Nat) (h : RestOk n l) : (takeP l e).1.length≤256∧RestOk n (takeP l e).2.1:=by
 have : (numR 256 l e).1≤256:=numR_le
 exact tkP_ok _ _ _ _ (h.num 256 e) (by simpa using this)

theorem TakeItems_con (l : List Nat) (e n : Nat) (hl : RestOk n l) (hn : n≤100000000000000) :
  Con Tryz.prog 89 [.c (.bp 0 0)] [Rd l e] (.c (.osl 1)) [Rd (takeI l e).2.1 (takeI l e).2.2,.arr 96 2 ((takeI l e).1.map irow) false]:=by
 have h1:=hl.len
 have hq:=hl.num 8 e
 have hm : (numR 8 l e).1≤8:=numR_le
 have cN:=mementoref1_Reader_Num_con l e 8 hl.b8 (by omega)
 generalize hR : takeI l e = R
 unfold takeI at hR
 generalize numR 8 l e = q at hR hq hm cN
 obtain ⟨m,l1,e1⟩:=q
 simp only at hR hq hm cN
 refine C_mementoref13_TakeItems nl nl ?_
 simp only [cz,A_mementoref13_TakeItems,argL,objL,List.length_nil,List.length_cons,Nat.zero_add,zX]
 refine aR 16 ?_
 refine aR 64 ?_
 refine aB 112 ?_
 refine rO [0] [] (cN) ?_
 refine aE ?_
 refine aR 192 ?_
 refine aw_loopK (X:={ p : Nat × List IT × List Nat × Nat // p.1≤m∧p.2.1.length≤p.1∧RestOk n p.2.2.1∧tkI (m - p.1) p.2.1 p.2.2.1 p.2.2.2 = R }) [0,4] (fun p=>[(3,.c (.osl 5000)),(5,.c (.v (.int .u64 p.1.1)))]) [] (fun p=>[(0,Rd p.1.2.2.1 p.1.2.2.2),(5000,.arr 96 2 (p.1.2.1.map irow) false)]) (fun p=>m - p.1.1) (⟨(0,[],l1,e1),by simp only;omega,by simp,hq,hR⟩) ?_ ?_
 ·skip
  simp only [keepS,keepE,lk_cons,List.cons_append,List.nil_append,simprocAttr]
  refine (Le.own 3 5000 96 2 rfl rfl (by decide)).trans ?_
  simp only [setS_cons,setE_cons,setE_nil,simprocAttr]
  refine Le.lit [] [] _ _ ?_ ?_ ?_ ?_
  ·simp only [zL,simprocAttr]
  ·simp only [zL,simprocAttr]
   all_goals (try ((repeat' (((simp [C.isD];done))))))
  ·simp [rlook]
  ·(intro k hk;simp [rlook];omega)
 rintro ⟨⟨i,acc,l2,e2⟩,k1,k2,k3,k4⟩
 simp only [keepS,keepE,lk_cons,List.cons_append,List.nil_append,simprocAttr]
 simp only [zX]
 simp only at k1 k2 k3 k4
 refine aR 240 ?_
 refine aw_cond _ rfl trivial (fun ht=>?_) (fun hf=>?_)
 ·skip
  try simp at ht
  simp only [zX]
  obtain ⟨d,hd⟩ : ∃ d,m - i = d + 1:=⟨m - i - 1,by omega⟩
  obtain rfl : e2 = 0:=by omega
  have k5:=k3.len
  have k6:=k3.num 256 0
  have k7 : (numR 256 l2 0).1≤256:=numR_le
  have cM:=mementoref1_Reader_Num_con l2 0 256 k3.b8 (by omega)
  rw [hd] at k4
  unfold tkI at k4
  rw [if_pos rfl] at k4
  generalize numR 256 l2 0 = q at k4 k6 k7 cM
  obtain ⟨v,l3,e3⟩:=q
  simp only at k4 k6 k7 cM
  have k8:=k6.len
  have k9:=k6.lump 32 e3
  have ka:=lumpR_len (most:=32) (l:=l3) (e:=e3)
  have cL:=mementoref1_Reader_Lump_con l3 e3 32 k6.b8 (by omega) (by omega)
  generalize lumpR 32 l3 e3 = q at k4 k9 ka cL
  obtain ⟨bs,l4,e4⟩:=q
  simp only at k4 k9 ka cL
  refine aB 432 ?_
  refine rO [0] [] (cM) ?_
  refine aEs (fun Q hQ=>by simp (disch:=first | (intros;contradiction) | omega | (simp only [zN];omega)) only [zS,zW,simprocAttr];exact hQ) ?_
  refine aB 528 ?_
  refine rO [0] [] (cL) ?_
  refine RG.go fun Q hQ=>?_
  simp (disch:=intros;contradiction) only [zS,zW,simprocAttr]
  repeat refine ⟨by (first | exact ⟨by (intro q hq;obtain ⟨_,_,rfl⟩:=List.mem_map.1 hq;rfl),by omega⟩ | (simp;omega)),?_⟩
  refine hQ (RG.nil ?_)
  simp only [zX]
  refine aS 704 (fun Q hQ=>by simp (disch:=first | (intros;contradiction) | omega | (simp only [zN];omega)) only [zS,zW,simprocAttr];exact hQ) ?_
  refine ⟨⟨(i + 1,acc ++ [⟨(v : Int),bs⟩],l4,e4),by simp only;omega,by simp;omega,k9,by simp only;rw [show m - (i + 1) = d by omega];exact k4⟩,?_,by first | omega | (simp only;omega)⟩
  refine (Le.tell [592] 640 96 2 _ ((acc ++ [(⟨(v : Int),bs⟩ : IT)]).map irow) false rfl (by rw [List.map_append];refine tell_app ?_ _;exact ⟨⟨.inl rfl,.inr (.inr ⟨_,_,_,_,rfl,rfl,rfl,drows_brow _⟩),trivial⟩,trivial⟩)).trans ?_
  refine Le.lit [] [(5000,640)] _ _ ?_ ?_ ?_ ?_
  ·simp only [zL,simprocAttr]
   all_goals (try ((repeat' (rfl))))
  ·simp only [zL,simprocAttr]
   all_goals (try ((repeat' ((exact drows_irow _)))))
  ·simp [rlook]
  ·(intro k hk;simp [rlook];omega)
 try simp at hf
 simp only [zX,↓reduceIte]
 have hR2 : R = (acc,l2,e2):=by
  rw [← k4]
  cases hmi : m - i with
  | zero=>rfl
  | succ d=>unfold tkI;rw [if_neg (by omega)]
 rw [hR2]
 refine aR 784 ?_
 refine Fin.objs [] [(1,5000)] (.inr rfl) rfl (by exact trivial) ?_ ?_ (by simp [objL,rlook]) (by (simp [objL,rlook];done))
 ·simp only [zL,simprocAttr]
 ·simp only [zL,simprocAttr]
  all_goals (try ((repeat' ((exact drows_irow _)))))

abbrev NR:=Nat × List Nat × Nat
def rc10 (a b c d e f g h : Nat) (p : List Int × List Nat × Nat) : CMD × List Nat × Nat:=(⟨a,b,c,d,e,p.1,f,g,h,(takeI p.2.1 p.2.2).1⟩,(takeI p.2.1 p.2.2).2)
def rc9 (a b c d e f g : Nat) (q : NR) : CMD × List Nat × Nat:=rc10 a b c d e f g q.1 (takeP q.2.1 q.2.2)
def rc8 (a b c d e f : Nat) (q : NR) : CMD × List Nat × Nat:=rc9 a b c d e f q.1 (numR 1099511627776 q.2.1 q.2.2)
def rc7 (a b c d e : Nat) (q : NR) : CMD × List Nat × Nat:=rc8 a b c d e q.1 (numR 1099511627776 q.2.1 q.2.2)
def rc6 (a b c d : Nat) (q : NR) : CMD × List Nat × Nat:=rc7 a b c d q.1 (numR 1099511627776 q.2.1 q.2.2)
def rc5 (a b c : Nat) (q : NR) : CMD × List Nat × Nat:=rc6 a b c q.1 (numR 1099511627776 q.2.1 q.2.2)
def rc4 (a b : Nat) (q : NR) : CMD × List Nat × Nat:=rc5 a b q.1 (numR 1099511627776 q.2.1 q.2.2)
def rc3 (a : Nat) (q : NR) : CMD × List Nat × Nat:=rc4 a q.1 (numR 1099511627776 q.2.1 q.2.2)
def rc2 (q : NR) : CMD × List Nat × Nat:=rc3 q.1 (numR 8 q.2.1 q.2.2)
def rawC (l : List Nat) : CMD × List Nat × Nat:=rc2 (numR 8 l 0)
def zeroC : CMD:=⟨0,0,0,0,0,[],0,0,0,[]⟩
def readC (l : List Nat) : CMD × Int:=if (rawC l).2.2≠0∨cmdR (rawC l).1 = false∨cmdB (rawC l).1≠l then (zeroC,20) else ((rawC l).1,0)

theorem rc10_ok {n a b c d e f g h : Nat} (p : List Int × List Nat × Nat) (h1 : p.1.length≤256) (h2 : RestOk n p.2.1) : (rc10 a b c d e f g h p).1.place.length≤256∧ItsOk n (rc10 a b c d e f g h p).1.items :=
 ⟨h1,(takeI_ok _ h2).1⟩
theorem rawC_ok {n : Nat} {l : List Nat} (h : RestOk n l) : (rawC l).1.place.length≤256∧ItsOk n (rawC l).1.items:=by
 unfold rawC
 have h:=h.num 8 0
 generalize numR 8 l 0 = q at h
 unfold rc2
 have h:=h.num 8 q.2.2
 generalize numR 8 q.2.1 q.2.2 = q1 at h
 unfold rc3
 have h:=h.num 1099511627776 q1.2.2
 generalize numR 1099511627776 q1.2.1 q1.2.2 = q2 at h
 unfold rc4
 have h:=h.num 1099511627776 q2.2.2
 generalize numR 1099511627776 q2.2.1 q2.2.2 = q3 at h
 unfold rc5
 have h:=h.num 1099511627776 q3.2.2
 generalize numR 1099511627776 q3.2.1 q3.2.2 = q4 at h
 unfold rc6
 have h:=h.num 1099511627776 q4.2.2
 generalize numR 1099511627776 q4.2.1 q4.2.2 = q5 at h
 unfold rc7
 have h:=h.num 1099511627776 q5.2.2
 generalize numR 1099511627776 q5.2.1 q5.2.2 = q6 at h
 unfold rc8
 have h:=h.num 1099511627776 q6.2.2
 generalize numR 1099511627776 q6.2.1 q6.2.2 = q7 at h
 unfold rc9
 obtain ⟨k1,k2⟩:=takeP_ok q7.2.2 h
 exact rc10_ok _ k1 k2
theorem num7_by (n : Nat) : ∀ c ∈ num7 n,c < 256:=by
 induction n using Nat.strongRecOn with
 | _ n ih =>
  intro c hc
  unfold num7 at hc
  split at hc
  ·simp at hc;omega
  ·rcases List.mem_cons.1 hc with rfl | hc
   ·omega
   ·exact ih (n / 128) (by omega) c hc
theorem putS_by (l : List Nat) : ∀ c ∈ putS l,c < 256:=by
 intro c hc
 unfold putS at hc
 obtain ⟨n,_,hc⟩:=List.mem_flatMap.1 hc
 exact num7_by n c hc
theorem cmdB_by (c : CMD) (h : byI c.items) : ∀ x ∈ cmdB c,x < 256:=by
 intro x hx
 unfold cmdB placeB itemsB itsB numsL at hx
 simp only [List.mem_append] at hx
 rcases hx with (hx | hx | hx) | hx | hx
 ·exact putS_by _ _ hx
 ·exact putS_by _ _ hx
 ·exact putS_by _ _ hx
 ·exact putS_by _ _ hx
 ·obtain ⟨y,hy,hx⟩:=List.mem_flatMap.1 hx
  unfold itB at hx
  simp only [List.mem_append] at hx
  rcases hx with hx | hx | hx
  ·exact putS_by _ _ hx
  ·exact num7_by _ _ hx
  ·exact h y hy x hx
end Go.Abs

namespace Go.Abs
open Go Go.Proofs
set_option maxRecDepth 100000
set_option linter.unusedSimpArgs false
set_option maxHeartbeats 8000000

theorem readC_no {l : List Nat} (h : (rawC l).2.2≠0∨cmdR (rawC l).1 = false∨cmdB (rawC l).1≠l) : readC l = (zeroC,20):=by unfold readC;rw [if_pos h]
theorem readC_yes {l : List Nat} (h : ¬ ((rawC l).2.2≠0∨cmdR (rawC l).1 = false∨cmdB (rawC l).1≠l)) : readC l = ((rawC l).1,0):=by unfold readC;rw [if_neg h]

theorem ReadCmd_con (l : List Nat) (h8 : ∀ c ∈ l,c < 256) (hn : l.length≤1000000) :
  Con Tryz.prog 61 [.c (.sl (l.map brow))] [] (.tup [.agg (cmdC (readC l).1),I (readC l).2]) []:=by
 have hok:=rawC_ok (n:=1000000) (l:=l) ⟨h8,hn⟩
 have hr : RestOk 1000000 l:=⟨h8,hn⟩
 obtain ⟨R,hR⟩ : ∃ R,R = rawC l:=⟨_,rfl⟩
 have hno:=readC_no (l:=l)
 have hyes:=readC_yes (l:=l)
 rw [← hR] at hok hno hyes
 unfold rawC at hR
 have c1:=mementoref1_Reader_Num_con l 0 8 hr.b8 (by have:=hr.len;omega)
 have g1:=hr.num 8 0
 have k1 : (numR 8 l 0).1≤8:=numR_le
 generalize numR 8 l 0 = q at hR c1 g1 k1
 obtain ⟨a1,l1,e1⟩:=q
 simp only at c1 g1 k1
 unfold rc2 at hR
 simp only at hR
 have c2:=mementoref1_Reader_Num_con l1 e1 8 g1.b8 (by have:=g1.len;omega)
 have g2:=g1.num 8 e1
 have k2 : (numR 8 l1 e1).1≤8:=numR_le
 generalize numR 8 l1 e1 = q at hR c2 g2 k2
 obtain ⟨a2,l2,e2⟩:=q
 simp only at c2 g2 k2
 unfold rc3 at hR
 simp only at hR
 have c3:=mementoref1_Reader_Num_con l2 e2 1099511627776 g2.b8 (by have:=g2.len;omega)
 have g3:=g2.num 1099511627776 e2
 have k3 : (numR 1099511627776 l2 e2).1≤1099511627776:=numR_le
 generalize numR 1099511627776 l2 e2 = q at hR c3 g3 k3
 obtain ⟨a3,l3,e3⟩:=q
 simp only at c3 g3 k3
 unfold rc4 at hR
 simp only at hR
 have c4:=mementoref1_Reader_Num_con l3 e3 1099511627776 g3.b8 (by have:=g3.len;omega)
 have g4:=g3.num 1099511627776 e3
 have k4 : (numR 1099511627776 l3 e3).1≤1099511627776:=numR_le
 generalize numR 1099511627776 l3 e3 = q at hR c4 g4 k4
 obtain ⟨a4,l4,e4⟩:=q
 simp only at c4 g4 k4
 unfold rc5 at hR
 simp only at hR
 have c5:=mementoref1_Reader_Num_con l4 e4 1099511627776 g4.b8 (by have:=g4.len;omega)
 have g5:=g4.num 1099511627776 e4
 have k5 : (numR 1099511627776 l4 e4).1≤1099511627776:=numR_le
 generalize numR 1099511627776 l4 e4 = q at hR c5 g5 k5
 obtain ⟨a5,l5,e5⟩:=q
 simp only at c5 g5 k5
 unfold rc6 at hR
 simp only at hR
 have c6:=mementoref1_Reader_Num_con l5 e5 1099511627776 g5.b8 (by have:=g5.len;omega)
 have g6:=g5.num 1099511627776 e5
 have k6 : (numR 1099511627776 l5 e5).1≤1099511627776:=numR_le
 generalize numR 1099511627776 l5 e5 = q at hR c6 g6 k6
 obtain ⟨a6,l6,e6⟩:=q
 simp only at c6 g6 k6
 unfold rc7 at hR
 simp only at hR
 have c7:=mementoref1_Reader_Num_con l6 e6 1099511627776 g6.b8 (by have:=g6.len;omega)
 have g7:=g6.num 1099511627776 e6
 have k7 : (numR 1099511627776 l6 e6).1≤1099511627776:=numR_le
 generalize numR 1099511627776 l6 e6 = q at hR c7 g7 k7
 obtain ⟨a7,l7,e7⟩:=q
 simp only at c7 g7 k7
 unfold rc8 at hR
 simp only at hR
 have c8:=mementoref1_Reader_Num_con l7 e7 1099511627776 g7.b8 (by have:=g7.len;omega)
 have g8:=g7.num 1099511627776 e7
 have k8 : (numR 1099511627776 l7 e7).1≤1099511627776:=numR_le
 generalize numR 1099511627776 l7 e7 = q at hR c8 g8 k8
 obtain ⟨a8,l8,e8⟩:=q
 simp only at c8 g8 k8
 unfold rc9 at hR
 simp only at hR
 have cP:=takePlace_con l8 e8 1000000 g8 (by omega)
 have gP:=takeP_ok e8 g8
 generalize takeP l8 e8 = q at hR cP gP
 obtain ⟨pl,l9,e9⟩:=q
 simp only at cP gP
 unfold rc10 at hR
 simp only at hR
 have cI:=TakeItems_con l9 e9 1000000 gP.2 (by omega)
 have gI:=takeI_ok e9 gP.2
 generalize takeI l9 e9 = q at hR cI gI
 obtain ⟨its,l10,e10⟩:=q
 simp only at cI gI hR
 subst hR
 obtain ⟨hpl,hi1,hi2,hi3⟩:=hok
 simp only at hpl hi1 hi2 hi3 hno hyes
 have cC:=PutCmd_con ⟨a1,a2,a3,a4,a5,pl,a6,a7,a8,its⟩ (by simp only;omega) (by simp only;omega) (fun x hx=>hi3 x hx)
 have hby : ∀ c ∈ (if cmdR ⟨a1,a2,a3,a4,a5,pl,a6,a7,a8,its⟩ = true then cmdB ⟨a1,a2,a3,a4,a5,pl,a6,a7,a8,its⟩ else []),c < 256:=by
  split
  ·exact cmdB_by _ hi1
  ·simp
 have hs:=str_eq _ l hby h8
 refine C_mementoref16_ReadCmd nl nl ?_
 simp only [cz,A_mementoref16_ReadCmd,argL,objL,List.length_nil,zX]
 refine aR 16 ?_
 refine aR 80 ?_
 refine aR 176 ?_
 refine aB 224 ?_
 refine rO [112] [] (c1) ?_
 refine aEs (fun Q hQ=>by simp (disch:=first | (intros;contradiction) | omega | (simp only [zN];omega)) only [zS,zW,simprocAttr];exact hQ) ?_
 refine aB 336 ?_
 refine rO [112] [] (c2) ?_
 refine aEs (fun Q hQ=>by simp (disch:=first | (intros;contradiction) | omega | (simp only [zN];omega)) only [zS,zW,simprocAttr];exact hQ) ?_
 refine aB 448 ?_
 refine rO [112] [] (c3) ?_
 refine aEs (fun Q hQ=>by simp (disch:=first | (intros;contradiction) | omega | (simp only [zN];omega)) only [zS,zW,simprocAttr];exact hQ) ?_
 refine aB 560 ?_
 refine rO [112] [] (c4) ?_
 refine aEs (fun Q hQ=>by simp (disch:=first | (intros;contradiction) | omega | (simp only [zN];omega)) only [zS,zW,simprocAttr];exact hQ) ?_
 refine aB 672 ?_
 refine rO [112] [] (c5) ?_
 refine aEs (fun Q hQ=>by simp (disch:=first | (intros;contradiction) | omega | (simp only [zN];omega)) only [zS,zW,simprocAttr];exact hQ) ?_
 refine aB 784 ?_
 refine rO [112] [] (c6) ?_
 refine aEs (fun Q hQ=>by simp (disch:=first | (intros;contradiction) | omega | (simp only [zN];omega)) only [zS,zW,simprocAttr];exact hQ) ?_
 refine aB 896 ?_
 refine rO [112] [] (c7) ?_
 refine aEs (fun Q hQ=>by simp (disch:=first | (intros;contradiction) | omega | (simp only [zN];omega)) only [zS,zW,simprocAttr];exact hQ) ?_
 refine aB 1008 ?_
 refine rO [112] [] (c8) ?_
 refine aEs (fun Q hQ=>by simp (disch:=first | (intros;contradiction) | omega | (simp only [zN];omega)) only [zS,zW,simprocAttr];exact hQ) ?_
 refine aB 1120 ?_
 refine rO [112] [] (cP) ?_
 refine aE ?_
 refine aB 1216 ?_
 refine rO [112] [] (cI) ?_
 refine aE ?_
 refine aB 1312 ?_
 refine rO [] [1136,1232] (cC) ?_
 refine aE ?_
 refine aw_reg 1456 (RG.go fun Q hQ=>?_)
 simp (disch:=intros;contradiction) only [zS,hs,simprocAttr]
 repeat refine ⟨by (first | exact fun h=>⟨isByteRow_brow _,h⟩ | (simp;done)),?_⟩
 refine hQ (RG.nil ?_)
 simp only [zX]
 refine aw_cond _ rfl trivial (fun ht=>?_) (fun hf=>?_)
 ·skip
  try simp at ht
  simp only [zX]
  rw [hno (by
   rcases ht with (h | h) | h
   ·exact .inl (by omega)
   ·refine .inr (.inl ?_)
    cases hc : cmdR ⟨a1,a2,a3,a4,a5,pl,a6,a7,a8,its⟩ with
    | false=>rfl
    | true=>simp [hc] at h
   ·cases hc : cmdR ⟨a1,a2,a3,a4,a5,pl,a6,a7,a8,its⟩ with
    | false=>exact .inr (.inl rfl)
    | true=>refine .inr (.inr ?_);simpa [hc] using h)]
  refine aR 1744 ?_
  refine Fin.data [] (.inr rfl) rfl (by (exact ⟨trivial,trivial⟩)) ?_
  simp only [zL,simprocAttr]
  all_goals ((repeat' (first | exact trivial | rfl | refine ⟨?_,?_⟩)))
 try simp at hf
 simp only [zX]
 obtain ⟨⟨hf1,hf2⟩,hf3⟩:=hf
 rw [if_pos hf2] at hf3
 rw [hyes (by
  rintro (h | h | h)
  ·exact h hf1
  ·rw [hf2] at h;cases h
  ·exact h hf3)]
 refine aR 1824 ?_
 refine Fin.data [1136,1232] (.inr rfl) rfl (by (exact ⟨trivial,trivial⟩)) ?_
 simp only [zL,simprocAttr]
 all_goals ((repeat' (first | exact trivial | rfl | (refine ⟨⟨_,_,rfl⟩,?_⟩;(first | exact drows_nrow _ | exact drows_irow _)) | refine ⟨?_,?_⟩)))

end Go.Abs

namespace Go.Abs
open Go Go.Proofs
set_option maxRecDepth 100000
set_option linter.unusedSimpArgs false
set_option maxHeartbeats 4000000

theorem drows_vol (l : List VOL) : isDRows (l.map volC):=by
 intro r hr c hc
 obtain ⟨p,_,rfl⟩:=List.mem_map.1 hr
 exact volC_pure p c hc
abbrev MB (L : List VOL) : Ent:=.box [.sl (L.map volC)]

def idxV (id : Int) : List VOL→Nat→Int
 | [],_=>-1
 | v :: l,i=>if v.id = id then i else idxV id l (i + 1)
theorem idxV_cases (id : Int) : ∀ (l : List VOL) (i : Nat),(idxV id l i = -1∧∀ v ∈ l,v.id≠id)∨∃ (k : Nat) (hk : k < l.length),idxV id l i = ((i + k : Nat) : Int)∧l[k].id = id
 | [],i=>.inl ⟨rfl,fun v hv=>by cases hv⟩
 | v :: l,i=>by
  unfold idxV
  split
  ·rename_i h;exact .inr ⟨0,by simp,rfl,h⟩
  ·rename_i h
   rcases idxV_cases id l (i + 1) with ⟨h1,h2⟩ | ⟨k,hk,h1,h2⟩
   ·refine .inl ⟨h1,fun w hw=>?_⟩
    rcases List.mem_cons.1 hw with rfl | hw
    ·exact h
    ·exact h2 w hw
   ·exact .inr ⟨k + 1,by simpa using hk,by rw [h1,show i + 1 + k = i + (k + 1) by omega],by simpa using h2⟩

theorem find_con (L : List VOL) (id : Int) (hL : L.length≤1000000) : Con Tryz.prog 55 [.c (.bp 0 0),I id] [MB L] (I (idxV id L 0)) [MB L]:=by
 generalize hR : idxV id L 0 = R
 refine C_mementoref16_Machine_find nl nl ?_
 simp only [cz,A_mementoref16_Machine_find,argL,objL,List.length_nil,List.length_cons,Nat.zero_add,zX]
 refine aR 16 ?_
 refine aR 64 ?_
 refine aw_loopK (X:={ i : Nat // i≤L.length∧idxV id (L.drop i) i = R }) [0,1] (fun i=>[(5,I i.1)]) [0] (fun i=>[]) (fun i=>L.length - i.1) (⟨0,by omega,hR⟩) ?_ ?_
 ·skip
  simp only [keepS,keepE,Option.getD_some,lk_cons,lkE_cons,List.cons_append,List.nil_append,simprocAttr]
  refine Le.lit [] [] _ _ ?_ ?_ ?_ ?_
  ·simp only [zL,simprocAttr]
  ·simp only [zL,↓reduceIte]
  ·simp [rlook]
  ·(intro k hk;simp [rlook];omega)
 rintro ⟨i,hi,hr⟩
 simp only [keepS,keepE,Option.getD_some,lk_cons,lkE_cons,List.cons_append,List.nil_append,simprocAttr]
 simp only [zX]
 refine aS 112 (fun Q hQ=>by simp (disch:=intros;contradiction) only [zS,zW,simprocAttr];exact hQ) ?_
 refine aw_cond _ rfl trivial (fun ht=>?_) (fun hf=>?_)
 ·skip
  try simp at ht
  simp only [zX]
  have h1 : i < L.length:=by omega
  rw [drop_get h1] at hr
  unfold idxV at hr
  refine aS 256 (fun Q hQ=>by simp (disch:=first | (intros;contradiction) | omega | (simp only [zN];omega)) only [zS,zW,volC,vC,simprocAttr];repeat refine ⟨by (omega),?_⟩;exact hQ) ?_
  refine aw_cond _ rfl trivial (fun ht=>?_) (fun hf=>?_)
  ·skip
   try simp at ht
   simp only [zX]
   rw [if_pos ht] at hr
   refine aR 448 ?_
   rw [← hr]
   refine Fin.objs [] [] (.inr rfl) rfl (by exact trivial) ?_ ?_ (by simp [objL,rlook]) (by (simp [objL,rlook];done))
   ·simp only [zL,simprocAttr]
   ·simp only [zL,↓reduceIte]
  try simp at hf
  simp only [zX]
  rw [if_neg hf] at hr
  refine aS 512 (fun Q hQ=>by simp (disch:=first | (intros;contradiction) | omega | (simp only [zN];omega)) only [zS,zW,simprocAttr];exact hQ) ?_
  refine ⟨⟨i + 1,h1,hr⟩,?_,by first | omega | (simp only;omega)⟩
  refine Le.lit [] [] _ _ ?_ ?_ ?_ ?_
  ·simp only [zL,simprocAttr]
   all_goals (try ((repeat' (rfl))))
  ·simp only [zL,↓reduceIte]
  ·simp [rlook]
  ·(intro k hk;simp [rlook];omega)
 try simp at hf
 simp only [zX,↓reduceIte]
 have hr' : R = -1:=by rw [← hr,List.drop_of_length_le (by omega)];rfl
 refine aR 592 ?_
 rw [hr']
 refine Fin.objs [] [] (.inr rfl) rfl (by exact trivial) ?_ ?_ (by simp [objL,rlook]) (by (simp [objL,rlook];done))
 ·simp only [zL,simprocAttr]
 ·simp only [zL,↓reduceIte]

def volM (L : List VOL) (id : Int) : VOL × Bool:=if idxV id L 0 < 0 then (zeroV,false) else (L.getD (idxV id L 0).toNat zeroV,true)
theorem MVolume_con (L : List VOL) (id : Int) (hL : L.length≤1000000) : Con Tryz.prog 28 [.c (.bp 0 0),I id] [MB L] (.tup [.agg (volC (volM L id).1),B (volM L id).2]) [MB L]:=by
 have cF:=find_con L id hL
 rcases idxV_cases id L 0 with ⟨h1,_⟩ | ⟨k,hk,h1,_⟩
 ·rw [show volM L id = (zeroV,false) from by unfold volM;rw [h1,if_pos (by decide)]]
  rw [h1] at cF
  refine C_mementoref16_Machine_Volume nl nl ?_
  simp only [cz,A_mementoref16_Machine_Volume,argL,objL,List.length_nil,List.length_cons,Nat.zero_add,zX]
  refine aR 16 ?_
  refine aB 80 ?_
  refine rO [0] [] (cF) ?_
  refine aE ?_
  refine aR 176 ?_
  refine aT ?_
  refine aR 240 ?_
  refine Fin.objs [] [] (.inr rfl) rfl (by exact ⟨trivial,trivial⟩) ?_ ?_ (by simp [objL,rlook]) (by (simp [objL,rlook];done))
  ·simp only [zL,simprocAttr]
   all_goals ((repeat' (first | exact trivial | rfl | refine ⟨?_,?_⟩)))
  ·simp only [zL,↓reduceIte]

 ·rw [Nat.zero_add] at h1
  rw [show volM L id = (L[k],true) from by unfold volM;rw [h1,if_neg (by omega),Int.toNat_natCast,List.getD_eq_getElem?_getD,List.getElem?_eq_getElem hk];rfl]
  rw [h1] at cF
  refine C_mementoref16_Machine_Volume nl nl ?_
  simp only [cz,A_mementoref16_Machine_Volume,argL,objL,List.length_nil,List.length_cons,Nat.zero_add,zX]
  refine aR 16 ?_
  refine aB 80 ?_
  refine rO [0] [] (cF) ?_
  refine aE ?_
  refine aR 176 ?_
  refine aF ?_
  refine aS 240 (fun Q hQ=>by simp (disch:=first | (intros;contradiction) | omega | (simp only [zN];omega)) only [zS,zW,vC_eq,simprocAttr];repeat refine ⟨by (omega),?_⟩;exact hQ) ?_
  refine Fin.objs [] [] (.inr rfl) rfl (by exact ⟨trivial,trivial⟩) ?_ ?_ (by simp [objL,rlook]) (by (simp [objL,rlook];done))
  ·simp only [zL,simprocAttr]
   all_goals ((repeat' (first | exact trivial | rfl | refine ⟨?_,?_⟩)))
  ·simp only [zL,↓reduceIte]

def insM (v : VOL) (L : List VOL) : List VOL:=L.takeWhile (fun w=>decide (w.id < v.id)) ++ v :: L.dropWhile (fun w=>decide (w.id < v.id))
structure RP where
 e : Int
 len : Int
 floor : Int
 next : Int
def appM (L : List VOL) (d : List Nat) : List VOL × RP :=
  if (readC d).2≠0 then (L,⟨20,0,0,0⟩)
  else if (readC d).1.kind = 1 then
    (if 0≤idxV (readC d).1.vol L 0 then (L,⟨29,0,0,0⟩)
     else if (newR (readC d).1).2≠0 then (L,⟨(newR (readC d).1).2,0,0,0⟩)
     else (insM (newR (readC d).1).1 L,⟨0,0,0,0⟩))
  else if idxV (readC d).1.vol L 0 < 0 then (L,⟨28,0,0,0⟩)
  else (L.set (idxV (readC d).1.vol L 0).toNat (doV (L.getD (idxV (readC d).1.vol L 0).toNat zeroV) (readC d).1).v,
    ⟨(doV (L.getD (idxV (readC d).1.vol L 0).toNat zeroV) (readC d).1).e,(doV (L.getD (idxV (readC d).1.vol L 0).toNat zeroV) (readC d).1).len,(doV (L.getD (idxV (readC d).1.vol L 0).toNat zeroV) (readC d).1).floor,(doV (L.getD (idxV (readC d).1.vol L 0).toNat zeroV) (readC d).1).next⟩)

theorem readC_ok {d : List Nat} {c : CMD} {n : Nat} (hd : RestOk n d) (h : readC d = (c,0)) : cmdR c = true∧byI c.items∧c.place.length≤256∧c.items.length≤8∧∀ x ∈ c.items,x.d.length≤n:=by
 unfold readC at h
 split at h
 ·cases h
 ·rename_i hn
  cases h
  obtain ⟨h1,h2,h3,h4⟩:=rawC_ok hd
  refine ⟨?_,h2,h1,h3,h4⟩
  cases hc : cmdR (rawC d).1 with
  | true=>rfl
  | false=>exact absurd (.inr (.inl hc)) hn
end Go.Abs

