/- What the functions that the law comes to do, part 1. No condition. -/
import Derived.Test.YtnpiigcmedmifaaCode
set_option linter.unusedVariables false
set_option linter.unusedSimpArgs false
set_option linter.unnecessarySimpa false
namespace Go.Abs
open Go Go.Proofs
set_option maxRecDepth 100000
set_option linter.unusedSimpArgs false

theorem slices_Clone_byte_byte_con (rows : List (List C)) (hd : isDRows rows) (h1 : ∀ r ∈ rows,r.length = 1) (hb : rows.length≤140737488355328) : Con Try.prog 77 [.c (.sl rows)] [] (.c (.osl 0)) [.arr 5 1 rows false]:=by
 by_cases hr : rows = []
 ·subst hr
  refine Con.split1 ?_ fun ad cap=>?_
  ·skip
   refine C_slices_Clone_byte_byte nl nl ?_
   simp only [cz,A_slices_Clone_byte_byte,argL,objL,List.length_nil,zX]
   refine aR 16 ?_
   refine aR 160 ?_
   refine aT ?_
   refine aR 320 ?_
   exact Fin.ownNil (.inr rfl) rfl trivial (by decide)
  ·skip
   refine C_slices_Clone_byte_byte nl nl ?_
   simp only [cz,A_slices_Clone_byte_byte,argL,objL,List.length_nil,zX]
   refine aR 16 ?_
   refine aR 160 ?_
   refine aF ?_
   refine aw_reg 320 (RG.go fun Q hQ=>?_)
   simp only [zS,simprocAttr]
   refine ⟨by simp,hQ (RG.nil ?_)⟩
   simp only [zX]
   refine Fin.objs [] [(0,352)] (.inr rfl) rfl trivial ?_ ?_ ?_ ?_
   ·skip
    simp only [zL,simprocAttr]
   ·skip
    simp only [zL,simprocAttr]
    simp
   ·simp [objL]
   ·simp
 ·skip
  refine C_slices_Clone_byte_byte nl nl ?_
  simp only [cz,A_slices_Clone_byte_byte,argL,objL,List.length_nil,zX]
  refine aR 16 ?_
  refine aw_reg 160 (RG.go fun Q hQ=>?_)
  simp only [zS,simprocAttr]
  refine ⟨hr,hQ (RG.nil ?_)⟩
  simp only [zX]
  refine aF ?_
  refine aw_reg 320 (RG.go fun Q hQ=>?_)
  simp only [zS,simprocAttr]
  refine ⟨⟨h1,by omega⟩,hQ (RG.nil ?_)⟩
  simp only [zX]
  refine Fin.objs [] [(0,352)] (.inr rfl) rfl trivial ?_ ?_ ?_ ?_
  ·skip
   simp only [zL,simprocAttr]
  ·skip
   simp only [zL,simprocAttr]
   exact hd
  ·simp [objL]
  ·simp


def rdN (i acc : Nat) : List Nat→Nat × Nat × Nat
 | []=>(0,0,21)
 | c :: r=>if i = 9∧1 < c then (0,0,20) else
  if 128≤c then rdN (i + 1) (acc + c % 128 * 128 ^ i) r
  else if 0 < i∧c = 0 then (0,0,20) else (acc + c % 128 * 128 ^ i,i + 1,0)

theorem andNot128 (c : Nat) (h : c < 256) : bitsI .andNot .u8 c 128 = ((c % 128 : Nat) : Int):=by
 have h1 : ∀ k : Fin 256,bitsI .andNot .u8 (k.val : Int) 128 = ((k.val % 128 : Nat) : Int):=by decide
 exact h1 ⟨c,h⟩

theorem orNum (i acc c : Nat) (hi : i≤9) (hacc : acc < 128 ^ i) (hc : c < 256) (h9 : i = 9→c≤1) :
  bitsI .or .u64 acc (IntKind.u64.wrap (IntKind.u64.wrap (bitsI .andNot .u8 c 128) * 2 ^ min (IntKind.i64.wrap (7 * i)).toNat IntKind.u64.bits)) = ((acc + c % 128 * 128 ^ i : Nat) : Int):=by
 have e1 : min (IntKind.i64.wrap (7 * (i : Int))).toNat IntKind.u64.bits = 7 * i:=by
  rw [w64 _ (by omega) (by omega)]
  have : IntKind.u64.bits = 64:=rfl
  omega
 have e3 : (128 : Nat) ^ i = 2 ^ (7 * i):=by rw [Nat.pow_mul]
 have hb : c % 128 * 128 ^ i < 9223372036854775808 * 2:=by
  rcases Nat.lt_or_ge i 9 with h | h
  ·have h1 : 128 ^ i≤128 ^ 8:=Nat.pow_le_pow_right (by omega) (by omega)
   have h2 : c % 128 * 128 ^ i≤127 * 128 ^ 8:=Nat.mul_le_mul (by omega) h1
   omega
  ·have : i = 9:=by omega
   subst this
   have:=h9 rfl
   have h2 : c % 128 * 128 ^ 9≤1 * 128 ^ 9:=Nat.mul_le_mul_right _ (by omega)
   omega
 have ha : acc < 18446744073709551616:=by
  have h1 : 128 ^ i≤128 ^ 9:=Nat.pow_le_pow_right (by omega) hi
  omega
 have e4 : IntKind.u64.wrap (((c % 128 : Nat) : Int)) = ((c % 128 : Nat) : Int):=by rw [w_u64];omega
 have e5 : (((c % 128 : Nat) : Int)) * 2 ^ (7 * i) = ((c % 128 * 128 ^ i : Nat) : Int):=by rw [e3];push_cast;rfl
 have e6 : IntKind.u64.wrap ((c % 128 * 128 ^ i : Nat) : Int) = ((c % 128 * 128 ^ i : Nat) : Int):=by rw [w_u64];omega
 rw [andNot128 c hc,e4,e1,e5,e6]
 show IntKind.u64.wrap ((BitVec.ofInt 64 (acc : Int) ||| BitVec.ofInt 64 ((c % 128 * 128 ^ i : Nat) : Int)).toNat : Int) = _
 have e7 : (BitVec.ofInt 64 (acc : Int) ||| BitVec.ofInt 64 ((c % 128 * 128 ^ i : Nat) : Int)).toNat = acc + c % 128 * 128 ^ i:=by
  rw [BitVec.ofInt_natCast,BitVec.ofInt_natCast,BitVec.toNat_or,BitVec.toNat_ofNat,BitVec.toNat_ofNat,Nat.mod_eq_of_lt (by omega),Nat.mod_eq_of_lt (by omega),Nat.or_comm]
  have h:=Nat.shiftLeft_add_eq_or_of_lt (b:=acc) (i:=7 * i) (by rw [← e3];exact hacc) (c % 128)
  rw [Nat.shiftLeft_eq,← e3] at h
  rw [← h,Nat.add_comm]
 rw [e7,w_u64]
 have hs : acc + c % 128 * 128 ^ i < 18446744073709551616:=by
  have h1 : acc + c % 128 * 128 ^ i < (c % 128 + 1) * 128 ^ i:=by rw [Nat.add_mul];omega
  rcases Nat.lt_or_ge i 9 with h | h
  ·have h1' : 128 ^ i≤128 ^ 8:=Nat.pow_le_pow_right (by omega) (by omega)
   have h2 : (c % 128 + 1) * 128 ^ i≤128 * 128 ^ 8:=Nat.mul_le_mul (by omega) h1'
   omega
  ·have : i = 9:=by omega
   subst this
   have:=h9 rfl
   have h2 : (c % 128 + 1) * 128 ^ 9≤2 * 128 ^ 9:=Nat.mul_le_mul_right _ (by omega)
   omega
 omega

abbrev Rd (l : List Nat) (e : Nat) : Ent:=.box [.sl (l.map brow),.v (.int .i64 e)]

def numR (most : Nat) (l : List Nat) (e : Nat) : Nat × List Nat × Nat :=
 if e≠0 then (0,l,e) else
 if (rdN 0 0 l).2.2≠0 then (0,[],(rdN 0 0 l).2.2) else
 if most < (rdN 0 0 l).1 then (0,[],22) else ((rdN 0 0 l).1,l.drop (rdN 0 0 l).2.1,0)

theorem numR_mem {most : Nat} {l : List Nat} {e : Nat} (hl : ∀ c ∈ l,c < 256) : ∀ c ∈ (numR most l e).2.1,c < 256:=by
 unfold numR
 split
 ·exact hl
 ·split
  ·simp
  ·split
   ·simp
   ·intro c hc;exact hl c (List.mem_of_mem_drop hc)

theorem numR_len {most : Nat} {l : List Nat} {e : Nat} : (numR most l e).2.1.length≤l.length:=by
 unfold numR
 split
 ·exact Nat.le_refl _
 ·split
  ·simp
  ·split
   ·simp
   ·simp

def lumpR (most : Nat) (l : List Nat) (e : Nat) : List Nat × List Nat × Nat :=
 if (numR most l e).2.2≠0 then ([],(numR most l e).2.1,(numR most l e).2.2) else
 if (numR most l e).2.1.length < (numR most l e).1 then ([],[],21) else ((numR most l e).2.1.take (numR most l e).1,(numR most l e).2.1.drop (numR most l e).1,0)

end Go.Abs

namespace Go.Abs
open Go Go.Proofs
set_option maxRecDepth 100000
set_option linter.unusedSimpArgs false

theorem mementoref1_Put_con (l : List Nat) (hb : l.length * 10≤140737488355328) (hl : ∀ n ∈ l,n < 18446744073709551616) : Con Try.prog 84 [.c (.sl (l.map urow))] [] (.c (.osl 0)) [.arr 5 1 ((putS l).map brow) false]:=by
 refine C_mementoref1_Put nl nl ?_
 simp only [cz,A_mementoref1_Put,argL,objL,List.length_nil,zX]
 refine aR 16 ?_
 refine aR 160 ?_
 refine aR 320 ?_
 refine aw_loop (X:={ i : Nat // i≤l.length }) (fun i=>mkSt [(3,.c (.osl 1000)),(0,.c (.sl (l.map urow))),(4,I i.1)] [(1000,.arr 5 1 ((putS (l.take i.1)).map brow) false)]) (fun i=>l.length - i.1) ⟨0,Nat.zero_le _⟩ ?_ ?_
 ·refine (Le.own 3 1000 5 1 rfl rfl (by decide)).trans (Le.lit [] [] _ _ ?_ ?_ ?_ ?_)
  ·skip
   simp only [zL,simprocAttr]
  ·skip
   simp only [zL,simprocAttr]
   simp [putS]
  ·simp
  ·simp
 rintro ⟨i,hi⟩
 simp only [zX]
 refine aR 480 ?_
 refine aw_cond _ rfl trivial (fun ht=>?_) (fun hf=>?_)
 rotate_left
 ·skip
  simp only [zX,↓reduceIte]
  refine aR 640 ?_
  have hi' : i = l.length:=by simp at hf;omega
  subst hi'
  refine Fin.objs [] [(0,1000)] (.inr rfl) rfl trivial ?_ ?_ ?_ ?_
  ·skip
   simp only [zL,simprocAttr]
  ·skip
   simp only [zL,simprocAttr]
   simp [brow,C.isD]
  ·simp [objL]
  ·simp
 have hi' : i < l.length:=by simp at ht;omega
 have hr : (List.map urow l)[(i : Int).toNat]?.getD [] = [.v (.int .u64 l[i])]:=by simp [hi',urow]
 simp only [zX]
 refine aw_reg 640 (RG.go fun Q hQ=>?_)
 simp only [zS,hr,simprocAttr]
 refine ⟨by simp;omega,hQ (RG.nil ?_)⟩
 simp only [zX]
 refine aw_loop (X:={ p : Nat × List Nat // p.2 ++ num7 p.1 = putS (l.take i) ++ num7 l[i]∧p.1 < 18446744073709551616 }) (fun p=>mkSt [(3,.c (.osl 1000)),(5,.c (.v (.int .u64 p.1.1))),(0,.c (.sl (l.map urow))),(4,I i)] [(1000,.arr 5 1 (p.1.2.map brow) false)]) (fun p=>p.1.1) ⟨(l[i],putS (l.take i)),rfl,hl _ (List.getElem_mem hi')⟩ ?_ ?_
 ·refine Le.lit [] [] _ _ ?_ ?_ ?_ ?_
  ·skip
   simp only [zL,simprocAttr]
  ·skip
   simp only [zL,simprocAttr]
   simp [brow,C.isD]
  ·simp
  ·simp
 rintro ⟨⟨n,acc⟩,hp,hn⟩
 simp only [zX]
 refine aR 800 ?_
 refine aw_cond _ rfl trivial (fun ht=>?_) (fun hf=>?_)
 ·have hn' : 128≤n:=by simp at ht;omega
  have hlen : acc.length + (num7 n).length≤l.length * 10:=by
   have h0:=putS_len (l.take (i + 1)) fun m hm=>hl m (List.mem_of_mem_take hm)
   rw [putS_take l i hi',← hp] at h0
   simp at h0
   omega
  have hpos:=num7_pos n
  simp only [zX]
  refine aw_reg 1200 (RG.go fun Q hQ=>?_)
  simp only [zS,simprocAttr]
  refine ⟨⟨by simp,by simp;omega⟩,hQ (RG.nil ?_)⟩
  simp only [zX]
  refine aR 1400 ?_
  refine ⟨⟨(n / 128,acc ++ [n % 128 + 128]),?_,by simp only;omega⟩,?_,by simp only;omega⟩
  ·have h7 : num7 n = (n % 128 + 128) :: num7 (n / 128):=by rw [num7,if_neg (by omega)]
   rw [← hp,h7]
   simp
  refine Le.lit [] [(1000,1280)] _ _ ?_ ?_ ?_ ?_
  ·skip
   simp only [zL,simprocAttr]
   rw [shr7]
  ·skip
   simp only [zL,simprocAttr]
   refine ⟨by simp [or128,brow],drows_brow _⟩
  ·simp
  ·simp
 have hn' : n < 128:=by simp at hf;omega
 have hlen : acc.length + (num7 n).length≤l.length * 10:=by
  have h0:=putS_len (l.take (i + 1)) fun m hm=>hl m (List.mem_of_mem_take hm)
  rw [putS_take l i hi',← hp] at h0
  simp at h0
  omega
 have hpos:=num7_pos n
 simp only [zX,↓reduceIte]
 refine aw_reg 1200 (RG.go fun Q hQ=>?_)
 simp only [zS,simprocAttr]
 refine ⟨⟨by simp,by simp;omega⟩,hQ (RG.nil ?_)⟩
 simp only [zX]
 refine aR 1400 ?_
 refine ⟨⟨i + 1,hi'⟩,?_,by simp;omega⟩
 refine Le.lit [] [(1000,1264)] _ _ ?_ ?_ ?_ ?_
 ·skip
  simp only [zL,simprocAttr]
  rw [w64 _ (by omega) (by omega)];rfl
 ·skip
  simp only [zL,simprocAttr]
  refine ⟨?_,drows_brow _⟩
  rw [putS_take l i hi',← hp,num7,if_pos hn',u8wrap n hn']
  simp [brow]
 ·simp
 ·simp

theorem mementoref1_Reader_fail_con (rows : List (List C)) (e x : Int) : Con Try.prog 103 [.c (.bp 0 0),I x] [.box [.sl rows,.v (.int .i64 e)]] (.tup []) [.box [.sl [],.v (.int .i64 x)]]:=by
 refine C_mementoref1_Reader_fail nl nl ?_
 simp only [cz,A_mementoref1_Reader_fail,argL,objL,List.length_nil,List.length_cons,Nat.zero_add]
 refine aw_reg 16 (RG.go fun Q hQ=>?_)
 simp only [zS,simprocAttr]
 refine hQ (RG.nil ?_)
 refine Fin.objs [] [] (.inl rfl) rfl trivial ?_ ?_ (by simp [objL,rlook]) (by simp [objL,rlook])
 ·skip
  simp only [zL]
 ·skip
  simp only [zL,↓reduceIte]

theorem mementoref1_Lump_con (l : List Nat) (hb : l.length≤100000000000000) : Con Try.prog 86 [.c (.sl (l.map brow))] [] (.c (.osl 0)) [.arr 5 1 ((num7 l.length ++ l).map brow) false]:=by
 have hw : IntKind.u64.wrap ((l.map brow).length : Int) = (l.length : Int):=by rw [w_u64,List.length_map];omega
 have hl:=num7_len l.length (by omega)
 refine C_mementoref1_Lump nl nl ?_
 simp only [cz,A_mementoref1_Lump,argL,objL,List.length_nil,zX]
 refine aR 16 ?_
 refine aBs 160 (fun Q hQ=>by simp only [zS,hw,simprocAttr];exact hQ) ?_
 refine RG.callo [] [208] (mementoref1_Put_con [l.length] (by simp) (by simp;omega)) (.mk (tr_cons (tr_view (by simp) rfl (by simp [isDRows,urow,C.isD])) tr_nil) (trivial) (by simp) (by simp) (views1 rfl trivial) (by simp [lkE_cons,lkE_nil]) (by simp only [List.mem_singleton,forall_eq,Ent.pure];exact drows_brow _) (by simp) (by simp)) ?_
 refine RG.go fun Q hQ=>?_
 simp only [zS,simprocAttr]
 have hp : putS [l.length] = num7 l.length:=by simp [putS]
 refine ⟨⟨by simp [brow],by simp [hp];omega⟩,hQ (RG.nil ?_)⟩
 simp only [zX]
 refine Fin.objs [] [(0,256)] (.inr rfl) rfl (by exact trivial) ?_ ?_ (by simp [objL,rlook]) (by (simp [objL,rlook];done))
 ·simp only [zL,simprocAttr]
 ·simp only [zL,simprocAttr]
  all_goals (exact ⟨by rw [hp,List.map_append],drows_brow _⟩)


theorem and127 (c : Nat) (h : c < 256) : bitsI .and .u8 c 127 = ((c % 128 : Nat) : Int):=by
 have h1 : ∀ k : Fin 256,bitsI .and .u8 (k.val : Int) 127 = ((k.val % 128 : Nat) : Int):=by decide
 exact h1 ⟨c,h⟩

theorem mementoref1_Reader_Num_con (l : List Nat) (e most : Nat) (hl : ∀ c ∈ l,c < 256) (hb : l.length≤140737488355328) : Con Try.prog 87 [.c (.bp 0 0),.c (.v (.int .u64 most))] [Rd l e] (.c (.v (.int .u64 (numR most l e).1))) [Rd (numR most l e).2.1 (numR most l e).2.2]:=by
 generalize hN : numR most l e = r
 unfold numR at hN
 refine C_mementoref1_Reader_Num nl nl ?_
 simp only [cz,A_mementoref1_Reader_Num,argL,objL,List.length_nil,List.length_cons,Nat.zero_add,zX]
 refine aR 16 ?_
 refine aR 160 ?_
 refine aw_cond _ rfl trivial (fun ht=>?_) (fun hf=>?_)
 ·skip
  simp only [zX]
  refine aR 320 ?_
  have he : e≠0:=by simp at ht;omega
  rw [if_pos he] at hN
  subst hN
  refine Fin.objs [] [] (.inr rfl) rfl (by exact trivial) ?_ ?_ (by simp [objL,rlook]) (by (simp [objL,rlook];done))
  ·simp only [zL,simprocAttr]
  ·simp only [zL,↓reduceIte]
 have he : e = 0:=by simp at hf;omega
 subst he
 rw [if_neg (by simp)] at hN
 simp only [zX]
 refine aR 400 ?_
 refine aR 480 ?_
 refine aw_loop (X:={ p : Nat × Nat // p.1≤l.length∧p.1≤9∧p.2 < 128 ^ p.1∧rdN p.1 p.2 (l.drop p.1) = rdN 0 0 l }) (fun p=>mkSt [(0,.c (.bp 0 0)),(1,.c (.v (.int .u64 most))),(5,.c (.v (.int .u64 p.1.2))),(6,I p.1.1)] [(0,Rd l 0)]) (fun p=>l.length - p.1.1) ⟨(0,0),by simp⟩ ?_ ?_
 ·refine Le.lit [] [] _ _ ?_ ?_ (by simp) (by simp [rlook])
  ·skip
   simp only [zL,simprocAttr]
  ·skip
   simp only [zL,↓reduceIte]
 rintro ⟨⟨i,acc⟩,hi,hi9,hacc,hrd⟩
 simp only at hi hi9 hacc hrd
 simp only [zX]
 refine aR 600 ?_
 refine aw_cond _ rfl trivial (fun ht=>?_) (fun hf=>?_)
 rotate_left
 ·skip
  simp only [zX,↓reduceIte]
  have hi' : i = l.length:=by simp at hf;omega
  rw [hi',List.drop_length,rdN] at hrd
  rw [← hrd] at hN
  subst hN
  refine aB 800 ?_
  refine rO [0] [] (mementoref1_Reader_fail_con (l.map brow) 0 21) ?_
  refine aE ?_
  refine aR 1000 ?_
  refine Fin.objs [] [] (.inr rfl) rfl (by exact trivial) ?_ ?_ (by simp [objL,rlook]) (by (simp [objL,rlook];done))
  ·simp only [zL,simprocAttr]
  ·simp only [zL,simprocAttr]
 have hi' : i < l.length:=by simp at ht;omega
 have hr : (List.map brow l)[(i : Int).toNat]?.getD [] = [.v (.int .u8 l[i])]:=by simp [hi',brow]
 have hc:=hl _ (List.getElem_mem hi')
 rw [List.drop_eq_getElem_cons hi',rdN] at hrd
 generalize l[i] = c at hr hc hrd
 simp only [zX]
 refine aw_reg 800 (RG.go fun Q hQ=>?_)
 simp only [zS,hr,simprocAttr]
 refine ⟨by simp;omega,hQ (RG.nil ?_)⟩
 simp only [zX]
 refine aR 1000 ?_
 refine aw_cond _ rfl trivial (fun ht2=>?_) (fun hf2=>?_)
 ·have hcc : i = 9∧1 < c:=by simp at ht2;omega
  rw [if_pos hcc] at hrd
  rw [← hrd] at hN
  subst hN
  simp only [zX]
  refine aB 1200 ?_
  refine rO [0] [] (mementoref1_Reader_fail_con (l.map brow) 0 20) ?_
  refine aE ?_
  refine aR 1400 ?_
  refine Fin.objs [] [] (.inr rfl) rfl (by exact trivial) ?_ ?_ (by simp [objL,rlook]) (by (simp [objL,rlook];done))
  ·simp only [zL,simprocAttr]
  ·simp only [zL,simprocAttr]
 have hcc : ¬ (i = 9∧1 < c):=by simp at hf2;omega
 rw [if_neg hcc] at hrd
 have hor:=orNum i acc c hi9 hacc hc (by omega)
 rw [andNot128 c hc] at hor
 have h127:=and127 c hc
 simp only [zX]
 refine aw_reg 1200 (RG.go fun Q hQ=>?_)
 simp only [zS,h127,hor,simprocAttr]
 refine ⟨by rw [w64 _ (by omega) (by omega)];omega,hQ (RG.nil ?_)⟩
 simp only [zX]
 refine aR 1400 ?_
 refine aw_cond _ rfl trivial (fun ht3=>?_) (fun hf3=>?_)
 rotate_left
 ·have hc3 : 128≤c:=by simp at hf3;omega
  rw [if_pos hc3] at hrd
  simp only [zX]
  refine aR 1600 ?_
  refine ⟨⟨(i + 1,acc + c % 128 * 128 ^ i),by simp only;omega,by simp only;omega,?_,hrd⟩,?_,by simp only;omega⟩
  ·simp only
   have h1 : c % 128≤127:=by omega
   have h2:=Nat.mul_le_mul_right (128 ^ i) h1
   have h3 : 128 ^ (i + 1) = 128 * 128 ^ i:=by rw [Nat.pow_succ,Nat.mul_comm]
   omega
  ·refine Le.lit [] [] _ _ ?_ ?_ (by simp) (by simp [rlook])
   ·skip
    simp only [zL,simprocAttr]
    rw [w64 _ (by omega) (by omega)];rfl
   ·skip
    simp only [zL,↓reduceIte]
 have hc3 : ¬ 128≤c:=by simp at ht3;omega
 rw [if_neg hc3] at hrd
 simp only [zX]
 refine aR 1600 ?_
 refine aw_cond _ rfl trivial (fun ht4=>?_) (fun hf4=>?_)
 ·have hc4 : 0 < i∧c = 0:=by simp at ht4;omega
  rw [if_pos hc4] at hrd
  rw [← hrd] at hN
  subst hN
  simp only [zX]
  refine aB 1800 ?_
  refine rO [0] [] (mementoref1_Reader_fail_con (l.map brow) 0 20) ?_
  refine aE ?_
  refine aR 2000 ?_
  refine Fin.objs [] [] (.inr rfl) rfl (by exact trivial) ?_ ?_ (by simp [objL,rlook]) (by (simp [objL,rlook];done))
  ·simp only [zL,simprocAttr]
  ·simp only [zL,simprocAttr]
 have hc4 : ¬ (0 < i∧c = 0):=by simp at hf4;omega
 rw [if_neg hc4] at hrd
 rw [← hrd] at hN
 simp only [ne_eq,not_true_eq_false,if_false] at hN
 simp only [zX]
 refine aR 1800 ?_
 refine aw_cond _ rfl trivial (fun ht5=>?_) (fun hf5=>?_)
 ·have hm : most < acc + c % 128 * 128 ^ i:=by simp only [decide_eq_true_eq] at ht5;omega
  rw [if_pos hm] at hN
  subst hN
  simp only [zX]
  refine aB 2000 ?_
  refine rO [0] [] (mementoref1_Reader_fail_con (l.map brow) 0 22) ?_
  refine aE ?_
  refine aR 2200 ?_
  refine Fin.objs [] [] (.inr rfl) rfl (by exact trivial) ?_ ?_ (by simp [objL,rlook]) (by (simp [objL,rlook];done))
  ·simp only [zL,simprocAttr]
  ·simp only [zL,↓reduceIte]
 have hm : ¬ most < acc + c % 128 * 128 ^ i:=by simp only [decide_eq_false_iff_not] at hf5;omega
 rw [if_neg hm] at hN
 subst hN
 have hwi : IntKind.i64.wrap ((i : Int) + 1) = ((i + 1 : Nat) : Int):=by rw [w64 _ (by omega) (by omega)];rfl
 have hd : ((l.map brow).take ((l.map brow).length : Int).toNat).drop ((i + 1 : Nat) : Int).toNat = (l.drop (i + 1)).map brow:=by rw [Int.toNat_natCast,Int.toNat_natCast,List.take_of_length_le (Nat.le_refl _),List.map_drop]
 simp only [zX]
 refine aw_reg 2000 (RG.go fun Q hQ=>?_)
 simp only [zS,hwi,hd,simprocAttr]
 refine ⟨⟨by omega,by simp;omega,by simp,brow_len _⟩,hQ (RG.nil ?_)⟩
 simp only [zX]
 refine aR 2200 ?_
 refine Fin.objs [] [] (.inr rfl) rfl (by exact trivial) ?_ ?_ (by simp [objL,rlook]) (by (simp [objL,rlook];done))
 ·simp only [zL,simprocAttr]
 ·simp only [zL,↓reduceIte]

theorem mementoref1_Reader_Lump_con (l : List Nat) (e most : Nat) (hl : ∀ c ∈ l,c < 256) (hb : l.length≤140737488355328) (hm : most < 9223372036854775808) :
  Con Try.prog 104 [.c (.bp 0 0),I most] [Rd l e] (.c (.sl ((lumpR most l e).1.map brow))) [Rd (lumpR most l e).2.1 (lumpR most l e).2.2]:=by
 have hw : IntKind.u64.wrap (most : Int) = (most : Int):=by rw [w_u64];omega
 have hmx : (if (0 : Int) > (most : Int) then (0 : Int) else (most : Int)) = (most : Int):=by split <;> omega
 have hlen:=numR_len (most:=most) (l:=l) (e:=e)
 have hnum:=mementoref1_Reader_Num_con l e most hl hb
 generalize hN : lumpR most l e = r
 unfold lumpR at hN
 generalize numR most l e = q at hN hlen hnum
 obtain ⟨n,l',e'⟩:=q
 simp only at hN hlen hnum
 have hw2 : IntKind.u64.wrap ((l'.map brow).length : Int) = (l'.length : Int):=by rw [w_u64,List.length_map];omega
 refine C_mementoref1_Reader_Lump nl nl ?_
 simp only [cz,A_mementoref1_Reader_Lump,argL,objL,List.length_nil,List.length_cons,Nat.zero_add,zX]
 refine aR 16 ?_
 refine aBs 160 (fun Q hQ=>by simp only [zS,foldMx,hmx,hw,simprocAttr];exact hQ) ?_
 refine rO [0] [] (hnum) ?_
 refine aE ?_
 refine aR 400 ?_
 refine aw_cond _ rfl trivial (fun ht=>?_) (fun hf=>?_)
 ·have he : e'≠0:=by simp at ht;omega
  rw [if_pos he] at hN
  subst hN
  simp only [zX]
  refine aR 600 ?_
  refine Fin.objs [] [] (.inr rfl) rfl (by exact trivial) ?_ ?_ (by simp [objL,rlook]) (by (simp [objL,rlook];done))
  ·simp only [zL,simprocAttr]
  ·simp only [zL,↓reduceIte]
 have he : e' = 0:=by simp at hf;omega
 subst he
 rw [if_neg (by simp)] at hN
 simp only [zX]
 refine aS 600 (fun Q hQ=>by simp only [zS,hw2,simprocAttr];exact hQ) ?_
 refine aw_cond _ rfl trivial (fun ht=>?_) (fun hf=>?_)
 ·have h2 : l'.length < n:=by simp at ht;omega
  rw [if_pos h2] at hN
  subst hN
  simp only [zX]
  refine aB 800 ?_
  refine rO [0] [] (mementoref1_Reader_fail_con (l'.map brow) 0 21) ?_
  refine aE ?_
  refine aR 1000 ?_
  refine Fin.objs [] [] (.inr rfl) rfl (by exact trivial) ?_ ?_ (by simp [objL,rlook]) (by (simp [objL,rlook];done))
  ·simp only [zL,simprocAttr]
  ·simp only [zL,↓reduceIte]
 have h2 : ¬ l'.length < n:=by simp at hf;omega
 rw [if_neg h2] at hN
 subst hN
 have ht1 : (l'.map brow).take (n : Int).toNat = (l'.take n).map brow:=by simp
 have ht2 : ((l'.map brow).take ((l'.map brow).length : Int).toNat).drop (n : Int).toNat = (l'.drop n).map brow:=by rw [Int.toNat_natCast,Int.toNat_natCast,List.take_of_length_le (Nat.le_refl _),List.map_drop]
 simp only [zX]
 refine aw_reg 800 (RG.go fun Q hQ=>?_)
 simp only [zS,ht1,simprocAttr]
 refine ⟨⟨by omega,by simp;omega,brow_len _⟩,hQ (RG.nil ?_)⟩
 simp only [zX]
 refine aw_reg 1200 (RG.go fun Q hQ=>?_)
 simp only [zS,ht2,simprocAttr]
 refine ⟨⟨by omega,by simp;omega,by simp,brow_len _⟩,hQ (RG.nil ?_)⟩
 simp only [zX]
 refine aR 1400 ?_
 refine Fin.objs [] [] (.inr rfl) rfl (by exact trivial) ?_ ?_ (by simp [objL,rlook]) (by (simp [objL,rlook];done))
 ·simp only [zL,simprocAttr]
 ·simp only [zL,↓reduceIte]

end Go.Abs

namespace Go.Abs
open Go Go.Proofs
set_option maxRecDepth 100000
set_option linter.unusedSimpArgs false

theorem toList_go (b : ByteArray) : ∀ (k i : Nat) (r : List UInt8),b.size - i = k→ByteArray.toList.loop b i r = r.reverse ++ b.data.toList.drop i
 | 0,i,r,h=>by
  rw [ByteArray.toList.loop,if_neg (by omega),List.drop_eq_nil_of_le (by have : b.data.toList.length = b.size:=rfl;omega)];simp
 | k + 1,i,r,h=>by
  have hi : i < b.size:=by omega
  rw [ByteArray.toList.loop,if_pos hi,toList_go b k (i + 1) _ (by omega)]
  have hi' : i < b.data.toList.length:=hi
  rw [List.drop_eq_getElem_cons hi',List.reverse_cons,List.append_assoc]
  congr 1
  have : b.get! i = b.data.toList[i]:=by
   have h2 : b.get! i = b.data[i]!:=rfl
   rw [h2,getElem!_pos b.data i hi];rfl
  rw [this];rfl

theorem ba_toList (b : ByteArray) : b.toList = b.data.toList:=by
 have:=toList_go b _ 0 [] rfl
 simpa [ByteArray.toList] using this

theorem rowByte_map (l : List Nat) : (l.map brow).map rowByte = l.map UInt8.ofNat:=by
 rw [List.map_map]
 refine List.map_congr_left fun n _=>?_
 simp [brow,rowByte]

theorem u8_inj {a b : Nat} (ha : a < 256) (hb : b < 256) (h : UInt8.ofNat a = UInt8.ofNat b) : a = b:=by
 have:=congrArg UInt8.toNat h
 simp at this
 omega

theorem map_u8_inj : ∀ {l m : List Nat},(∀ c ∈ l,c < 256)→(∀ c ∈ m,c < 256)→l.map UInt8.ofNat = m.map UInt8.ofNat→l = m
 | [],[],_,_,_=>rfl
 | a :: l,b :: m,hl,hm,h=>by
  simp only [List.map_cons,List.cons.injEq] at h
  rw [u8_inj (hl a (by simp)) (hm b (by simp)) h.1,map_u8_inj (fun c hc=>hl c (by simp [hc])) (fun c hc=>hm c (by simp [hc])) h.2]
 | [],_ :: _,_,_,h=>by simp at h
 | _ :: _,[],_,_,h=>by simp at h

theorem str_eq (l m : List Nat) (hl : ∀ c ∈ l,c < 256) (hm : ∀ c ∈ m,c < 256) :
  ((⟨((l.map brow).map rowByte).toArray⟩ : ByteArray).toList == (⟨((m.map brow).map rowByte).toArray⟩ : ByteArray).toList) = decide (l = m):=by
 rw [ba_toList,ba_toList,rowByte_map,rowByte_map]
 by_cases h : l = m
 ·subst h;simp
 ·have : l.map UInt8.ofNat≠m.map UInt8.ofNat:=fun hh=>h (map_u8_inj hl hm hh)
  simp [h,this]

theorem isByteRow_brow (l : List Nat) : ∀ r ∈ l.map brow,isByteRow r:=by
 intro r hr
 obtain ⟨n,_,rfl⟩:=List.mem_map.1 hr
 exact ⟨n,rfl⟩

end Go.Abs

namespace Go.Abs
open Go Go.Proofs
set_option maxRecDepth 100000
set_option linter.unusedSimpArgs false
set_option maxHeartbeats 2000000

structure IT where
 b : Int
 d : List Nat
structure WR where
 s : Int
 its : List IT
structure VOL where
 id : Int
 blocks : Int
 size : Int
 per : Int
 place : List Int
 total : Int
 next : Int
 hid : Bool
 floor : Int
 pins : List Int
 ws : List WR
structure CMD where
 kind : Int
 vol : Int
 blocks : Int
 size : Int
 per : Int
 place : List Int
 total : Int
 at' : Int
 index : Int
 items : List IT

def nrow (n : Int) : List C:=[.v (.int .i64 n)]
def itC (b : Int) (d : List Nat) : List C:=[.v (.int .i64 b),.sl (d.map brow)]
def irow (x : IT) : List C:=itC x.b x.d
def wrC (s : Int) (its : List IT) : List C:=[.v (.int .i64 s),.sl (its.map irow)]
def wrow (w : WR) : List C:=wrC w.s w.its
def vC (id blocks size per : Int) (place : List Int) (total next : Int) (hid : Bool) (floor : Int) (pins : List Int) (ws : List WR) : List C :=
 [.v (.int .i64 id),.v (.int .i64 blocks),.v (.int .i64 size),.v (.int .i64 per),.sl (place.map nrow),.v (.int .i64 total),.v (.int .i64 next),.v (.bool hid),.v (.int .i64 floor),.sl (pins.map nrow),.sl (ws.map wrow)]
def volC (v : VOL) : List C:=vC v.id v.blocks v.size v.per v.place v.total v.next v.hid v.floor v.pins v.ws
def cC (kind vol blocks size per : Int) (place : List Int) (total at' index : Int) (items : List IT) : List C :=
 [.v (.int .i64 kind),.v (.int .i64 vol),.v (.int .i64 blocks),.v (.int .i64 size),.v (.int .i64 per),.sl (place.map nrow),.v (.int .i64 total),.v (.int .i64 at'),.v (.int .i64 index),.sl (items.map irow)]
def cmdC (c : CMD) : List C:=cC c.kind c.vol c.blocks c.size c.per c.place c.total c.at' c.index c.items

theorem drows_nrow (l : List Int) : isDRows (l.map nrow):=by
 intro r hr c hc
 obtain ⟨p,_,rfl⟩:=List.mem_map.1 hr
 simp only [nrow,List.mem_singleton] at hc
 subst hc;rfl
theorem drows_irow (l : List IT) : isDRows (l.map irow):=by
 intro r hr c hc
 obtain ⟨p,_,rfl⟩:=List.mem_map.1 hr
 simp only [irow,itC,List.mem_cons,List.not_mem_nil,or_false] at hc
 rcases hc with rfl | rfl <;> rfl
theorem drows_wrow (l : List WR) : isDRows (l.map wrow):=by
 intro r hr c hc
 obtain ⟨p,_,rfl⟩:=List.mem_map.1 hr
 simp only [wrow,wrC,List.mem_cons,List.not_mem_nil,or_false] at hc
 rcases hc with rfl | rfl <;> rfl
theorem nrow_len (l : List Int) : ∀ r ∈ l.map nrow,r.length = 1:=by
 intro r hr;obtain ⟨p,_,rfl⟩:=List.mem_map.1 hr;rfl
theorem irow_len (l : List IT) : ∀ r ∈ l.map irow,r.length = 2:=by
 intro r hr;obtain ⟨p,_,rfl⟩:=List.mem_map.1 hr;rfl
theorem wrow_len (l : List WR) : ∀ r ∈ l.map wrow,r.length = 2:=by
 intro r hr;obtain ⟨p,_,rfl⟩:=List.mem_map.1 hr;rfl

def i64 (n : Int) : Prop:=-9223372036854775808≤n∧n≤9223372036854775807

theorem all_succ {α : Type} {p : α→Bool} {l : List α} {i : Nat} (hi : i < l.length) : (l.take (i + 1)).all p = ((l.take i).all p && p l[i]):=by
 rw [take_one l i hi,List.all_append];simp
theorem all_no {α : Type} {p : α→Bool} {l : List α} {i : Nat} (hi : i < l.length) (h : p l[i] = false) : l.all p = false:=by
 rw [Bool.eq_false_iff];intro ha
 have:=List.all_eq_true.1 ha _ (List.getElem_mem hi)
 rw [h] at this;cases this
theorem all_yes {α : Type} {p : α→Bool} {l : List α} {i : Nat} (h : ¬ i < l.length) (ha : (l.take i).all p = true) : l.all p = true:=by
 rwa [List.take_of_length_le (by omega)] at ha
theorem map_get {α β : Type} (f : α→β) {l : List α} {i : Nat} (hi : i < l.length) (d : β) : ((l.map f)[((i : Int)).toNat]?).getD d = f l[i]:=by
 simp [hi]
theorem wi (i n : Nat) (h : i < n) (hn : n≤9223372036854775807) : IntKind.i64.wrap ((i : Int) + 1) = ((i + 1 : Nat) : Int):=by
 rw [w64 _ (by omega) (by omega)];rfl

theorem min_if (a b : Int) : min a b = if b < a then b else a:=by split <;> omega
theorem max_if (a b : Int) : max a b = if a < b then b else a:=by split <;> omega

def lenV (v : VOL) : Int:=v.ws.length
def lowL (n : Int) (pins : List Int) : Int:=pins.foldl min n
def lowV (v : VOL) : Int:=lowL v.ws.length v.pins
def chunksN (b p : Int) : Int:=(b + p - 1).tdiv p
def inR (n a b : Int) : Bool:=decide (a≤n) && decide (n≤b)

theorem volume_Len_con (v : VOL) : Con Try.prog 22 [.agg (volC v)] [] (I (lenV v)) []:=by
 refine C_volume_Len nl nl ?_
 simp only [cz,A_volume_Len,argL,objL,List.length_nil,zX]
 refine aS 16 (fun Q hQ=>by simp only [zS,volC,vC,simprocAttr];exact hQ) ?_
 refine aR 80 ?_
 exact Fin.i (.inr rfl) rfl trivial (by simp [lenV])

theorem mementoref16_Len_con (v : VOL) : Con Try.prog 23 [.agg (volC v)] [] (I (lenV v)) []:=by
 refine C_mementoref16_Len nl nl ?_
 simp only [cz,A_mementoref16_Len,argL,objL,List.length_nil,zX]
 refine aS 16 (fun Q hQ=>by simp only [zS,volC,vC,simprocAttr];exact hQ) ?_
 refine aR 80 ?_
 exact Fin.i (.inr rfl) rfl trivial (by simp [lenV])

theorem volume_within_con (n a b : Int) : Con Try.prog 51 [I n,I a,I b] [] (B (inR n a b)) []:=by
 refine C_volume_within nl nl ?_
 simp only [cz,A_volume_within,argL,objL,List.length_nil,Nat.zero_add,zX,simprocAttr]
 refine aR 16 ?_
 refine aR 64 ?_
 refine Fin.b (.inr rfl) rfl trivial ?_
 simp [inR]

theorem lowL_succ (n : Int) (l : List Int) (i : Nat) (hi : i < l.length) : lowL n (l.take (i + 1)) = min (lowL n (l.take i)) l[i]:=by
 rw [take_one l i hi];simp only [lowL,List.foldl_append];rfl

theorem volume_Low_con (v : VOL) (hb : v.pins.length≤1000000) : Con Try.prog 24 [.agg (volC v)] [] (I (lowV v)) []:=by
 refine C_volume_Low nl nl ?_
 simp only [cz,A_volume_Low,argL,objL,List.length_nil,zX]
 refine aS 16 (fun Q hQ=>by simp only [zS,volC,vC,simprocAttr];exact hQ) ?_
 refine aB 80 ?_
 refine rC [] (volume_Len_con v) ?_
 refine aE ?_
 refine aR 160 ?_
 refine aw_loopK (X:={ i : Nat // i≤v.pins.length }) [9,10] (fun i=>[(3,I (lowL (lenV v) (v.pins.take i.1))),(11,I i.1)]) [] (fun i=>[]) (fun i=>v.pins.length - i.1) (⟨0,by omega⟩) ?_ ?_
 ·skip
  simp only [keepS,keepE,lk_cons,List.cons_append,List.nil_append,simprocAttr]
  refine Le.lit [] [] _ _ ?_ ?_ ?_ ?_
  ·simp only [zL,simprocAttr]
   all_goals (rfl)
  ·simp only [zL]
  ·simp [rlook]
  ·(simp;done)
 rintro ⟨i,hi⟩
 simp only [keepS,keepE,lk_cons,List.cons_append,List.nil_append,simprocAttr]
 simp only [zX]
 refine aR 256 ?_
 refine aw_cond _ rfl trivial (fun ht=>?_) (fun hf=>?_)
 ·have hi' : i < v.pins.length:=by simpa using ht
  have hr : ((v.pins.map nrow)[((i : Int)).toNat]?).getD [] = [.v (.int .i64 v.pins[i])]:=map_get nrow hi' []
  simp only [zX]
  refine aS 304 (fun Q hQ=>by simp only [zS,hr,simprocAttr];repeat refine ⟨by ((simp;omega)),?_⟩;exact hQ) ?_
  refine aR 384 ?_
  refine aS 480 (fun Q hQ=>by simp only [zS,wi i _ hi' (by omega),simprocAttr];exact hQ) ?_
  refine ⟨⟨i + 1,hi'⟩,?_,by simp only;omega⟩
  refine Le.lit [] [] _ _ ?_ ?_ ?_ ?_
  ·simp only [zL,simprocAttr]
   all_goals (rw [lowL_succ _ _ _ hi',min_if])
  ·simp only [zL,simprocAttr]
  ·simp [rlook]
  ·(simp;done)
 have hi' : i = v.pins.length:=by simp at hf;omega
 simp only [zX,↓reduceIte]
 refine aR 544 ?_
 exact Fin.i (.inr rfl) rfl trivial (by rw [hi',List.take_length];rfl)

theorem mementoref16_Low_con (v : VOL) (hb : v.pins.length≤1000000) : Con Try.prog 25 [.agg (volC v)] [] (I (lowV v)) []:=by
 refine C_mementoref16_Low nl nl ?_
 simp only [cz,A_mementoref16_Low,argL,objL,List.length_nil,zX]
 refine aS 16 (fun Q hQ=>by simp only [zS,volC,vC,simprocAttr];exact hQ) ?_
 refine aB 80 ?_
 refine rC [] (mementoref16_Len_con v) ?_
 refine aE ?_
 refine aR 160 ?_
 refine aw_loopK (X:={ i : Nat // i≤v.pins.length }) [1] (fun i=>[(3,I (lowL (lenV v) (v.pins.take i.1))),(4,I i.1)]) [16] (fun i=>[]) (fun i=>v.pins.length - i.1) (⟨0,by omega⟩) ?_ ?_
 ·skip
  simp only [keepS,keepE,Option.getD_some,lk_cons,lkE_cons,List.cons_append,List.nil_append,simprocAttr]
  refine Le.lit [] [] _ _ ?_ ?_ ?_ ?_
  ·simp only [zL,simprocAttr]
   all_goals (rfl)
  ·simp only [zL,↓reduceIte]
  ·simp [rlook]
  ·(simp;done)
 rintro ⟨i,hi⟩
 simp only [keepS,keepE,Option.getD_some,lk_cons,lkE_cons,List.cons_append,List.nil_append,simprocAttr]
 simp only [zX]
 refine aR 208 ?_
 refine aw_cond _ rfl trivial (fun ht=>?_) (fun hf=>?_)
 ·have hi' : i < v.pins.length:=by simpa using ht
  have hr : ((v.pins.map nrow)[((i : Int)).toNat]?).getD [] = [.v (.int .i64 v.pins[i])]:=map_get nrow hi' []
  simp only [zX]
  refine aS 320 (fun Q hQ=>by simp only [zS,hr,simprocAttr];repeat refine ⟨by ((simp;omega)),?_⟩;exact hQ) ?_
  refine aS 480 (fun Q hQ=>by simp only [zS,wi i _ hi' (by omega),simprocAttr];exact hQ) ?_
  refine ⟨⟨i + 1,hi'⟩,?_,by simp only;omega⟩
  refine Le.lit [] [] _ _ ?_ ?_ ?_ ?_
  ·simp only [zL,simprocAttr]
   all_goals (rw [lowL_succ _ _ _ hi',min_if])
  ·simp only [zL,↓reduceIte]
  ·simp [rlook]
  ·(simp;done)
 have hi' : i = v.pins.length:=by simp at hf;omega
 simp only [zX,↓reduceIte]
 refine aR 560 ?_
 exact Fin.i (.inr rfl) rfl trivial (by rw [hi',List.take_length];rfl)

theorem mementoref16_samePins_con (a b : List Int) (hb : a.length≤1000000) : Con Try.prog 44 [.c (.sl (a.map nrow)),.c (.sl (b.map nrow))] [] (B (decide (a = b))) []:=by
 refine C_mementoref16_samePins nl nl ?_
 simp only [cz,A_mementoref16_samePins,argL,objL,List.length_nil,Nat.zero_add,zX]
 refine aR 16 ?_
 refine aR 64 ?_
 refine aw_cond _ rfl trivial (fun ht=>?_) (fun hf=>?_)
 ·have hl : a.length≠b.length:=by simp at ht;omega
  simp only [zX]
  refine aR 176 ?_
  exact Fin.b (.inr rfl) rfl trivial (by rw [eq_comm,decide_eq_false_iff_not];rintro rfl;exact hl rfl)
 have hl : a.length = b.length:=by simp at hf;omega
 simp only [zX]
 refine aR 224 ?_
 refine aw_loopK (X:={ i : Nat // i≤a.length∧a.take i = b.take i }) [0,1] (fun i=>[(5,I i.1)]) [] (fun i=>[]) (fun i=>a.length - i.1) (⟨0,by omega,rfl⟩) ?_ ?_
 ·skip
  simp only [keepS,keepE,lk_cons,List.cons_append,List.nil_append,simprocAttr]
  refine Le.lit [] [] _ _ ?_ ?_ ?_ ?_
  ·simp only [zL,simprocAttr]
  ·simp only [zL,simprocAttr]
  ·simp [rlook]
  ·(simp;done)
 rintro ⟨i,hi,he⟩
 simp only [keepS,keepE,lk_cons,List.cons_append,List.nil_append,simprocAttr]
 simp only [zX]
 refine aR 272 ?_
 refine aw_cond _ rfl trivial (fun ht=>?_) (fun hf=>?_)
 ·have hi' : i < a.length:=by simpa using ht
  have hj' : i < b.length:=by omega
  have hr : ((a.map nrow)[((i : Int)).toNat]?).getD [] = [.v (.int .i64 a[i])]:=map_get nrow hi' []
  have hs : ((b.map nrow)[((i : Int)).toNat]?).getD [] = [.v (.int .i64 b[i])]:=map_get nrow hj' []
  simp only [zX]
  refine aw_draw 368 (RG.go fun Q hQ=>?_)
  simp only [zS,hr,hs,simprocAttr]
  repeat refine ⟨by ((simp;omega)),?_⟩
  refine hQ (RG.nil ⟨by decide +kernel,?_⟩)
  simp only [zX]
  refine aw_cond _ rfl trivial (fun ht=>?_) (fun hf=>?_)
  ·skip
   simp only [zX]
   refine aR 544 ?_
   refine Fin.b (.inr rfl) rfl trivial ?_
   rw [eq_comm,decide_eq_false_iff_not];rintro rfl;simp at ht
  have hab : a[i] = b[i]:=by simpa using hf
  simp only [zX]
  refine aS 592 (fun Q hQ=>by simp only [zS,wi i _ hi' (by omega),simprocAttr];exact hQ) ?_
  refine ⟨⟨i + 1,hi',by rw [take_one a i hi',take_one b i hj',he,hab]⟩,?_,by simp only;omega⟩
  refine Le.lit [] [] _ _ ?_ ?_ ?_ ?_
  ·simp only [zL,simprocAttr]
  ·simp only [zL,simprocAttr]
  ·simp [rlook]
  ·(simp;done)
 have hi' : i = a.length:=by simp at hf;omega
 simp only [zX,↓reduceIte]
 refine aR 672 ?_
 refine Fin.b (.inr rfl) rfl trivial ?_
 rw [eq_comm,decide_eq_true_iff]
 rw [List.take_of_length_le (by omega),List.take_of_length_le (by omega)] at he
 exact he

end Go.Abs

namespace Go.Abs
open Go Go.Proofs
set_option maxRecDepth 100000
set_option linter.unusedSimpArgs false
set_option maxHeartbeats 2000000

theorem mementoref16_sameInts_con (a b : List Int) (hb : a.length≤1000000) : Con Try.prog 62 [.c (.sl (a.map nrow)),.c (.sl (b.map nrow))] [] (B (decide (a = b))) []:=by
 refine C_mementoref16_sameInts nl nl ?_
 simp only [cz,A_mementoref16_sameInts,argL,objL,List.length_nil,Nat.zero_add,zX]
 refine aR 16 ?_
 refine aR 64 ?_
 refine aw_cond _ rfl trivial (fun ht=>?_) (fun hf=>?_)
 ·have hl : a.length≠b.length:=by simp at ht;omega
  simp only [zX]
  refine aR 176 ?_
  exact Fin.b (.inr rfl) rfl trivial (by rw [eq_comm,decide_eq_false_iff_not];rintro rfl;exact hl rfl)
 have hl : a.length = b.length:=by simp at hf;omega
 simp only [zX]
 refine aR 224 ?_
 refine aw_loopK (X:={ i : Nat // i≤a.length∧a.take i = b.take i }) [0,1] (fun i=>[(5,I i.1)]) [] (fun i=>[]) (fun i=>a.length - i.1) (⟨0,by omega,rfl⟩) ?_ ?_
 ·skip
  simp only [keepS,keepE,lk_cons,List.cons_append,List.nil_append,simprocAttr]
  refine Le.lit [] [] _ _ ?_ ?_ ?_ ?_
  ·simp only [zL,simprocAttr]
  ·simp only [zL,simprocAttr]
  ·simp [rlook]
  ·(simp;done)
 rintro ⟨i,hi,he⟩
 simp only [keepS,keepE,lk_cons,List.cons_append,List.nil_append,simprocAttr]
 simp only [zX]
 refine aR 272 ?_
 refine aw_cond _ rfl trivial (fun ht=>?_) (fun hf=>?_)
 ·have hi' : i < a.length:=by simpa using ht
  have hj' : i < b.length:=by omega
  have hr : ((a.map nrow)[((i : Int)).toNat]?).getD [] = [.v (.int .i64 a[i])]:=map_get nrow hi' []
  have hs : ((b.map nrow)[((i : Int)).toNat]?).getD [] = [.v (.int .i64 b[i])]:=map_get nrow hj' []
  simp only [zX]
  refine aw_draw 368 (RG.go fun Q hQ=>?_)
  simp only [zS,hr,hs,simprocAttr]
  repeat refine ⟨by ((simp;omega)),?_⟩
  refine hQ (RG.nil ⟨by decide +kernel,?_⟩)
  simp only [zX]
  refine aw_cond _ rfl trivial (fun ht=>?_) (fun hf=>?_)
  ·skip
   simp only [zX]
   refine aR 544 ?_
   refine Fin.b (.inr rfl) rfl trivial ?_
   rw [eq_comm,decide_eq_false_iff_not];rintro rfl;simp at ht
  have hab : a[i] = b[i]:=by simpa using hf
  simp only [zX]
  refine aS 592 (fun Q hQ=>by simp only [zS,wi i _ hi' (by omega),simprocAttr];exact hQ) ?_
  refine ⟨⟨i + 1,hi',by rw [take_one a i hi',take_one b i hj',he,hab]⟩,?_,by simp only;omega⟩
  refine Le.lit [] [] _ _ ?_ ?_ ?_ ?_
  ·simp only [zL,simprocAttr]
  ·simp only [zL,simprocAttr]
  ·simp [rlook]
  ·(simp;done)
 have hi' : i = a.length:=by simp at hf;omega
 simp only [zX,↓reduceIte]
 refine aR 672 ?_
 refine Fin.b (.inr rfl) rfl trivial ?_
 rw [eq_comm,decide_eq_true_iff]
 rw [List.take_of_length_le (by omega),List.take_of_length_le (by omega)] at he
 exact he


theorem slices_Clone_int_int_con (rows : List (List C)) (hd : isDRows rows) (h1 : ∀ r ∈ rows,r.length = 1) (hb : rows.length≤1000000) : Con Try.prog 40 [.c (.sl rows)] [] (.c (.osl 0)) [.arr 3 1 rows false]:=by
 by_cases hr : rows = []
 ·subst hr
  refine Con.split1 ?_ fun ad cap=>?_
  ·skip
   refine C_slices_Clone_int_int nl nl ?_
   simp only [cz,A_slices_Clone_int_int,argL,objL,List.length_nil,zX]
   refine aR 16 ?_
   refine aR 160 ?_
   refine aT ?_
   refine aR 320 ?_
   exact Fin.ownNil (.inr rfl) rfl trivial (by decide)
  ·skip
   refine C_slices_Clone_int_int nl nl ?_
   simp only [cz,A_slices_Clone_int_int,argL,objL,List.length_nil,zX]
   refine aR 16 ?_
   refine aR 160 ?_
   refine aF ?_
   refine aw_reg 320 (RG.go fun Q hQ=>?_)
   simp only [zS,simprocAttr]
   refine ⟨by simp,hQ (RG.nil ?_)⟩
   simp only [zX]
   refine Fin.objs [] [(0,352)] (.inr rfl) rfl trivial ?_ ?_ ?_ ?_
   ·skip
    simp only [zL,simprocAttr]
   ·skip
    simp only [zL,simprocAttr]
    simp
   ·simp [objL]
   ·simp
 ·skip
  refine C_slices_Clone_int_int nl nl ?_
  simp only [cz,A_slices_Clone_int_int,argL,objL,List.length_nil,zX]
  refine aR 16 ?_
  refine aw_reg 160 (RG.go fun Q hQ=>?_)
  simp only [zS,simprocAttr]
  refine ⟨hr,hQ (RG.nil ?_)⟩
  simp only [zX]
  refine aF ?_
  refine aw_reg 320 (RG.go fun Q hQ=>?_)
  simp only [zS,simprocAttr]
  refine ⟨⟨h1,by omega⟩,hQ (RG.nil ?_)⟩
  simp only [zX]
  refine Fin.objs [] [(0,352)] (.inr rfl) rfl trivial ?_ ?_ ?_ ?_
  ·skip
   simp only [zL,simprocAttr]
  ·skip
   simp only [zL,simprocAttr]
   exact hd
  ·simp [objL]
  ·simp



theorem slices_Clone_int64_int64_con (rows : List (List C)) (hd : isDRows rows) (h1 : ∀ r ∈ rows,r.length = 1) (hb : rows.length≤1000000) : Con Try.prog 64 [.c (.sl rows)] [] (.c (.osl 0)) [.arr 2 1 rows false]:=by
 by_cases hr : rows = []
 ·subst hr
  refine Con.split1 ?_ fun ad cap=>?_
  ·skip
   refine C_slices_Clone_int64_int64 nl nl ?_
   simp only [cz,A_slices_Clone_int64_int64,argL,objL,List.length_nil,zX]
   refine aR 16 ?_
   refine aR 160 ?_
   refine aT ?_
   refine aR 320 ?_
   exact Fin.ownNil (.inr rfl) rfl trivial (by decide)
  ·skip
   refine C_slices_Clone_int64_int64 nl nl ?_
   simp only [cz,A_slices_Clone_int64_int64,argL,objL,List.length_nil,zX]
   refine aR 16 ?_
   refine aR 160 ?_
   refine aF ?_
   refine aw_reg 320 (RG.go fun Q hQ=>?_)
   simp only [zS,simprocAttr]
   refine ⟨by simp,hQ (RG.nil ?_)⟩
   simp only [zX]
   refine Fin.objs [] [(0,352)] (.inr rfl) rfl trivial ?_ ?_ ?_ ?_
   ·skip
    simp only [zL,simprocAttr]
   ·skip
    simp only [zL,simprocAttr]
    simp
   ·simp [objL]
   ·simp
 ·skip
  refine C_slices_Clone_int64_int64 nl nl ?_
  simp only [cz,A_slices_Clone_int64_int64,argL,objL,List.length_nil,zX]
  refine aR 16 ?_
  refine aw_reg 160 (RG.go fun Q hQ=>?_)
  simp only [zS,simprocAttr]
  refine ⟨hr,hQ (RG.nil ?_)⟩
  simp only [zX]
  refine aF ?_
  refine aw_reg 320 (RG.go fun Q hQ=>?_)
  simp only [zS,simprocAttr]
  refine ⟨⟨h1,by omega⟩,hQ (RG.nil ?_)⟩
  simp only [zX]
  refine Fin.objs [] [(0,352)] (.inr rfl) rfl trivial ?_ ?_ ?_ ?_
  ·skip
   simp only [zL,simprocAttr]
  ·skip
   simp only [zL,simprocAttr]
   exact hd
  ·simp [objL]
  ·simp



theorem slices_Clone_api_Write_api_Write_con (rows : List (List C)) (hd : isDRows rows) (h1 : ∀ r ∈ rows,r.length = 2) (hb : rows.length≤1000000) : Con Try.prog 65 [.c (.sl rows)] [] (.c (.osl 0)) [.arr 55 2 rows false]:=by
 by_cases hr : rows = []
 ·subst hr
  refine Con.split1 ?_ fun ad cap=>?_
  ·skip
   refine C_slices_Clone_api_Write_api_Write nl nl ?_
   simp only [cz,A_slices_Clone_api_Write_api_Write,argL,objL,List.length_nil,zX]
   refine aR 16 ?_
   refine aR 160 ?_
   refine aT ?_
   refine aR 320 ?_
   exact Fin.ownNil (.inr rfl) rfl trivial (by decide)
  ·skip
   refine C_slices_Clone_api_Write_api_Write nl nl ?_
   simp only [cz,A_slices_Clone_api_Write_api_Write,argL,objL,List.length_nil,zX]
   refine aR 16 ?_
   refine aR 160 ?_
   refine aF ?_
   refine aw_reg 320 (RG.go fun Q hQ=>?_)
   simp only [zS,simprocAttr]
   refine ⟨by simp,hQ (RG.nil ?_)⟩
   simp only [zX]
   refine Fin.objs [] [(0,352)] (.inr rfl) rfl trivial ?_ ?_ ?_ ?_
   ·skip
    simp only [zL,simprocAttr]
   ·skip
    simp only [zL,simprocAttr]
    simp
   ·simp [objL]
   ·simp
 ·skip
  refine C_slices_Clone_api_Write_api_Write nl nl ?_
  simp only [cz,A_slices_Clone_api_Write_api_Write,argL,objL,List.length_nil,zX]
  refine aR 16 ?_
  refine aw_reg 160 (RG.go fun Q hQ=>?_)
  simp only [zS,simprocAttr]
  refine ⟨hr,hQ (RG.nil ?_)⟩
  simp only [zX]
  refine aF ?_
  refine aw_reg 320 (RG.go fun Q hQ=>?_)
  simp only [zS,simprocAttr]
  refine ⟨⟨h1,by omega⟩,hQ (RG.nil ?_)⟩
  simp only [zX]
  refine Fin.objs [] [(0,352)] (.inr rfl) rfl trivial ?_ ?_ ?_ ?_
  ·skip
   simp only [zL,simprocAttr]
  ·skip
   simp only [zL,simprocAttr]
   exact hd
  ·simp [objL]
  ·simp



theorem slices_Clone_api_Item_api_Item_con (rows : List (List C)) (hd : isDRows rows) (h1 : ∀ r ∈ rows,r.length = 2) (hb : rows.length≤1000000) : Con Try.prog 76 [.c (.sl rows)] [] (.c (.osl 0)) [.arr 76 2 rows false]:=by
 by_cases hr : rows = []
 ·subst hr
  refine Con.split1 ?_ fun ad cap=>?_
  ·skip
   refine C_slices_Clone_api_Item_api_Item nl nl ?_
   simp only [cz,A_slices_Clone_api_Item_api_Item,argL,objL,List.length_nil,zX]
   refine aR 16 ?_
   refine aR 160 ?_
   refine aT ?_
   refine aR 320 ?_
   exact Fin.ownNil (.inr rfl) rfl trivial (by decide)
  ·skip
   refine C_slices_Clone_api_Item_api_Item nl nl ?_
   simp only [cz,A_slices_Clone_api_Item_api_Item,argL,objL,List.length_nil,zX]
   refine aR 16 ?_
   refine aR 160 ?_
   refine aF ?_
   refine aw_reg 320 (RG.go fun Q hQ=>?_)
   simp only [zS,simprocAttr]
   refine ⟨by simp,hQ (RG.nil ?_)⟩
   simp only [zX]
   refine Fin.objs [] [(0,352)] (.inr rfl) rfl trivial ?_ ?_ ?_ ?_
   ·skip
    simp only [zL,simprocAttr]
   ·skip
    simp only [zL,simprocAttr]
    simp
   ·simp [objL]
   ·simp
 ·skip
  refine C_slices_Clone_api_Item_api_Item nl nl ?_
  simp only [cz,A_slices_Clone_api_Item_api_Item,argL,objL,List.length_nil,zX]
  refine aR 16 ?_
  refine aw_reg 160 (RG.go fun Q hQ=>?_)
  simp only [zS,simprocAttr]
  refine ⟨hr,hQ (RG.nil ?_)⟩
  simp only [zX]
  refine aF ?_
  refine aw_reg 320 (RG.go fun Q hQ=>?_)
  simp only [zS,simprocAttr]
  refine ⟨⟨h1,by omega⟩,hQ (RG.nil ?_)⟩
  simp only [zX]
  refine Fin.objs [] [(0,352)] (.inr rfl) rfl trivial ?_ ?_ ?_ ?_
  ·skip
   simp only [zL,simprocAttr]
  ·skip
   simp only [zL,simprocAttr]
   exact hd
  ·simp [objL]
  ·simp




theorem volume_shape_1_con (n : Int) : Con Try.prog 61 [I n] [] (B (!inR n 1 7)) []:=by
 refine C_volume_shape_1 nl nl ?_
 simp only [cz,A_volume_shape_1,argL,objL,List.length_nil,zX]
 refine aR 16 ?_
 refine aB 64 ?_
 refine rC [] (volume_within_con n 1 7) ?_
 refine aE ?_
 exact Fin.b (.inr rfl) rfl trivial (by simp)

theorem slices_IndexFunc_int_int_con (l : List Int) (hb : l.length≤1000000) : ∃ k : Int,(decide (k ≥ 0) = !(l.all fun n=>inR n 1 7))∧Con Try.prog 79 [.c (.sl (l.map nrow)),.c (.fn 61 [])] [] (I k) []:=by
 by_cases hall : (l.all fun n=>inR n 1 7) = true
 ·refine ⟨-1,by rw [hall];rfl,?_⟩
  refine C_slices_IndexFunc_int_int nl nl ?_
  simp only [cz,A_slices_IndexFunc_int_int,argL,objL,List.length_nil,Nat.zero_add,zX]
  refine aR 16 ?_
  refine aR 64 ?_
  refine aw_loopK (X:={ i : Nat // i≤l.length }) [0,1,7] (fun i=>[(8,I i.1)]) [] (fun i=>[]) (fun i=>l.length - i.1) (⟨0,by omega⟩) ?_ ?_
  ·skip
   simp only [keepS,keepE,lk_cons,List.cons_append,List.nil_append,simprocAttr]
   refine Le.lit [] [] _ _ ?_ ?_ ?_ ?_
   ·simp only [zL,simprocAttr]
   ·simp only [zL,simprocAttr]
   ·simp [rlook]
   ·(simp;done)
  rintro ⟨i,hi⟩
  simp only [keepS,keepE,lk_cons,List.cons_append,List.nil_append,simprocAttr]
  simp only [zX]
  refine aR 144 ?_
  refine aw_cond _ rfl trivial (fun ht=>?_) (fun hf=>?_)
  ·have hi' : i < l.length:=by simpa using ht
   have hr : ((l.map nrow)[((i : Int)).toNat]?).getD [] = [.v (.int .i64 l[i])]:=map_get nrow hi' []
   have hin : inR l[i] 1 7 = true:=List.all_eq_true.1 hall _ (List.getElem_mem hi')
   simp only [zX]
   refine aR 192 ?_
   refine aBs 256 (fun Q hQ=>by simp only [zS,hr,simprocAttr];repeat refine ⟨by ((simp;omega)),?_⟩;exact hQ) ?_
   refine RG.callv [] rfl trivial (volume_shape_1_con l[i]) (tr_cons tr_v tr_nil) trivial (.inl trivial) ?_
   refine aEs (fun Q hQ=>by simp only [zS,hin,simprocAttr];exact hQ) ?_
   refine aF ?_
   refine aS 432 (fun Q hQ=>by simp only [zS,wi i _ hi' (by omega),simprocAttr];exact hQ) ?_
   refine ⟨⟨i + 1,hi'⟩,?_,by simp only;omega⟩
   refine Le.lit [] [] _ _ ?_ ?_ ?_ ?_
   ·simp only [zL,simprocAttr]
   ·simp only [zL,simprocAttr]
   ·simp [rlook]
   ·(simp;done)
  simp only [zX,↓reduceIte]
  refine aR 496 ?_
  exact Fin.scalar (.inr rfl) rfl trivial rfl trivial
 ·have hall' : ∃ x ∈ l,(!inR x 1 7) = true:=by
   simp only [List.all_eq_true,Classical.not_forall] at hall
   obtain ⟨x,hx,hn⟩:=hall
   exact ⟨x,hx,by simpa using hn⟩
  have hk : l.findIdx (fun n=>!inR n 1 7) < l.length:=List.findIdx_lt_length_of_exists hall'
  have hk1 : (!inR l[l.findIdx (fun n=>!inR n 1 7)] 1 7) = true:=List.findIdx_getElem (p:=fun n=>!inR n 1 7) (w:=hk)
  have hk2 : ∀ i (hi : i < l.length),i < l.findIdx (fun n=>!inR n 1 7)→(!inR l[i] 1 7) = false:=fun i hi h=>by simpa using List.not_of_lt_findIdx h
  obtain ⟨k,hkk⟩ : ∃ k,k = l.findIdx (fun n=>!inR n 1 7):=⟨_,rfl⟩
  simp only [← hkk] at hk hk1 hk2
  refine ⟨k,by rw [Bool.eq_false_iff.2 hall];simp,?_⟩
  refine C_slices_IndexFunc_int_int nl nl ?_
  simp only [cz,A_slices_IndexFunc_int_int,argL,objL,List.length_nil,Nat.zero_add,zX]
  refine aR 16 ?_
  refine aR 64 ?_
  refine aw_loopK (X:={ i : Nat // i≤k }) [0,1,7] (fun i=>[(8,I i.1)]) [] (fun i=>[]) (fun i=>l.length - i.1) (⟨0,by omega⟩) ?_ ?_
  ·skip
   simp only [keepS,keepE,lk_cons,List.cons_append,List.nil_append,simprocAttr]
   refine Le.lit [] [] _ _ ?_ ?_ ?_ ?_
   ·simp only [zL,simprocAttr]
   ·simp only [zL,simprocAttr]
   ·simp [rlook]
   ·(simp;done)
  rintro ⟨i,hi⟩
  simp only [keepS,keepE,lk_cons,List.cons_append,List.nil_append,simprocAttr]
  simp only [zX]
  refine aR 144 ?_
  refine aw_cond _ rfl trivial (fun ht=>?_) (fun hf=>?_)
  ·have hi' : i < l.length:=by omega
   have hr : ((l.map nrow)[((i : Int)).toNat]?).getD [] = [.v (.int .i64 l[i])]:=map_get nrow hi' []
   simp only [zX]
   refine aR 192 ?_
   refine aBs 256 (fun Q hQ=>by simp only [zS,hr,simprocAttr];repeat refine ⟨by ((simp;omega)),?_⟩;exact hQ) ?_
   refine RG.callv [] rfl trivial (volume_shape_1_con l[i]) (tr_cons tr_v tr_nil) trivial (.inl trivial) ?_
   refine aE ?_
   refine aw_cond _ rfl trivial (fun ht=>?_) (fun hf=>?_)
   ·have hik : i = k:=by
     rcases Nat.lt_or_ge i k with h | h
     ·rw [hk2 i hi' h] at ht;cases ht
     ·omega
    subst hik
    simp only [zX]
    refine aR 400 ?_
    exact Fin.scalar (.inr rfl) rfl trivial rfl trivial
   have hik : i < k:=by
    rcases Nat.lt_or_ge i k with h | h
    ·exact h
    ·have : i = k:=by omega
     subst this
     rw [hk1] at hf;cases hf
   simp only [zX]
   refine aS 432 (fun Q hQ=>by simp only [zS,wi i _ hi' (by omega),simprocAttr];exact hQ) ?_
   refine ⟨⟨i + 1,hik⟩,?_,by simp only;omega⟩
   refine Le.lit [] [] _ _ ?_ ?_ ?_ ?_
   ·simp only [zL,simprocAttr]
   ·simp only [zL,simprocAttr]
   ·simp [rlook]
   ·(simp;done)
  simp at hf
  omega

theorem slices_ContainsFunc_int_int_con (l : List Int) (hb : l.length≤1000000) : Con Try.prog 60 [.c (.sl (l.map nrow)),.c (.fn 61 [])] [] (B (!(l.all fun n=>inR n 1 7))) []:=by
 obtain ⟨k,hk,hc⟩:=slices_IndexFunc_int_int_con l hb
 refine C_slices_ContainsFunc_int_int nl nl ?_
 simp only [cz,A_slices_ContainsFunc_int_int,argL,objL,List.length_nil,Nat.zero_add,zX]
 refine aR 16 ?_
 refine aB 64 ?_
 refine RG.call [] hc (tr_cons tr_sl (tr_cons (.intro rfl trivial) tr_nil)) trivial (.inl trivial) ?_
 refine aE ?_
 exact Fin.b (.inr rfl) rfl trivial hk

def shapeP (id blocks size per : Int) (place : List Int) (total : Int) : Bool :=
 inR id 0 7 && inR blocks 1 256 && inR size 1 32 && inR per 1 blocks && decide ((place.length : Int) = chunksN blocks per) && inR total 0 1099511627776 && place.all fun n=>inR n 1 7
def shapeV (v : VOL) : Bool:=shapeP v.id v.blocks v.size v.per v.place v.total

end Go.Abs

namespace Go.Abs
open Go Go.Proofs
set_option maxRecDepth 100000
set_option linter.unusedSimpArgs false
set_option maxHeartbeats 2000000

theorem inR_iff (n a b : Int) : inR n a b = true ↔ a≤n∧n≤b:=by simp [inR]

theorem volume_shape_con (v : VOL) (hb : v.place.length≤1000000) : Con Try.prog 41 [.agg (volC v)] [] (B (shapeV v)) []:=by
 have hw : inR v.blocks 1 256 = true→inR v.per 1 v.blocks = true→IntKind.i64.wrap (IntKind.i64.wrap (v.blocks + v.per) - 1) = v.blocks + v.per - 1:=fun h1 h2=>by
  rw [inR_iff] at h1 h2
  rw [w64 (v.blocks + v.per) (by omega) (by omega),w64 _ (by omega) (by omega)]
 have hq : inR v.blocks 1 256 = true→inR v.per 1 v.blocks = true→IntKind.i64.wrap ((v.blocks + v.per - 1).tdiv v.per) = chunksN v.blocks v.per:=fun h1 h2=>by
  rw [inR_iff] at h1 h2
  have h3 : (v.blocks + v.per - 1).tdiv v.per = (v.blocks + v.per - 1) / v.per:=Int.tdiv_eq_ediv_of_nonneg (by omega)
  have h4:=Int.ediv_le_self v.per (show 0≤v.blocks + v.per - 1 by omega)
  have h5:=Int.ediv_nonneg (show 0≤v.blocks + v.per - 1 by omega) (show 0≤v.per by omega)
  unfold chunksN
  rw [h3,w64 _ (by omega) (by omega)]
 refine C_volume_shape nl nl ?_
 simp only [cz,A_volume_shape,argL,objL,List.length_nil,zX]
 refine aS 16 (fun Q hQ=>by simp only [zS,volC,vC,simprocAttr];exact hQ) ?_
 refine aBD 64 ?_
 refine rC [] (volume_within_con v.id 0 7) ?_
 refine aM ?_
 refine rG _ _ (volume_within_con v.blocks 1 256) ?_
 refine aMs (fun Q hQ=>by simp only [zS,simprocAttr];repeat refine ⟨by ((simp;done)),?_⟩;exact hQ) ?_
 refine rG _ _ (volume_within_con v.size 1 32) ?_
 refine aMs (fun Q hQ=>by simp only [zS,simprocAttr];repeat refine ⟨by ((simp;done)),?_⟩;exact hQ) ?_
 refine rG _ _ (volume_within_con v.per 1 v.blocks) ?_
 refine RG.go fun Q hQ=>?_
 simp only [zS,simprocAttr]
 repeat refine ⟨by (first | (simp;done) | (intro h;refine ⟨?_,h⟩;simp [inR] at h;omega)),?_⟩
 refine hQ ?_
 refine rG _ _ (volume_within_con v.total 0 1099511627776) ?_
 refine aEDs (fun Q hQ=>by simp only [zS,simprocAttr];repeat refine ⟨by ((simp;done)),?_⟩;exact hQ) ?_
 refine aw_cond _ rfl trivial (fun ht=>?_) (fun hf=>?_)
 ·skip
  simp only [zX]
  refine aR 900 ?_
  refine Fin.b (.inr rfl) rfl trivial ?_
  rw [eq_comm,Bool.eq_false_iff]
  intro hs
  simp only [shapeV,shapeP,Bool.and_eq_true] at hs
  obtain ⟨⟨⟨⟨⟨⟨s1,s2⟩,s3⟩,s4⟩,s5⟩,s6⟩,s7⟩:=hs
  rw [hw s2 s4,hq s2 s4] at ht
  simp [s1,s2,s3,s4,s6] at ht
  simp at s5
  omega
 simp at hf
 obtain ⟨⟨⟨⟨⟨s1,s2⟩,s3⟩,s4⟩,s5⟩,s6⟩:=hf
 rw [hw s2 s4,hq s2 s4] at s5
 simp only [zX]
 refine aB 1000 ?_
 refine RG.call [] (slices_ContainsFunc_int_int_con v.place hb) (tr_cons tr_sl (tr_cons (.intro rfl trivial) tr_nil)) trivial (.inl trivial) ?_
 refine aE ?_
 refine Fin.b (.inr rfl) rfl trivial ?_
 simp [shapeV,shapeP,s1,s2,s3,s4,s5,s6]

end Go.Abs

namespace Go.Abs
open Go Go.Proofs
set_option maxRecDepth 100000
set_option linter.unusedSimpArgs false
set_option maxHeartbeats 2000000

def seenM (l : List IT) : List (Value × List C):=l.map fun x=>(.int .i64 x.b,[.v (.bool true)])

def itOk (blocks size : Int) (x : IT) : Bool:=decide (0≤x.b) && decide (x.b < blocks) && decide ((x.d.length : Int) = size)
def onceB : List IT→Bool
 | []=>true
 | x :: l=>!(l.any fun y=>decide (y.b = x.b)) && onceB l
def itemsR (blocks size : Int) (l : List IT) : Bool:=decide (1≤l.length) && decide (l.length≤8) && l.all (itOk blocks size) && onceB l

theorem onceB_append : ∀ (l : List IT) (x : IT),onceB (l ++ [x]) = (onceB l && !(l.any fun y=>decide (y.b = x.b)))
 | [],x=>by simp [onceB]
 | y :: l,x=>by
  simp only [List.cons_append,onceB,onceB_append l x,List.any_append,List.any_cons,List.any_nil,Bool.or_false]
  by_cases h : y.b = x.b
  ·simp [h]
  ·have h' : ¬ x.b = y.b:=fun e=>h e.symm
   simp only [decide_eq_false h,decide_eq_false h',Bool.or_false,Bool.false_or]
   cases l.any (fun z=>decide (z.b = y.b)) <;> cases onceB l <;> cases l.any (fun z=>decide (z.b = x.b)) <;> rfl

theorem onceB_take {l : List IT} : onceB l = true→∀ i,onceB (l.take i) = true:=by
 induction l with
 | nil=>intro _ i;simp [onceB]
 | cons x l ih =>
  intro h i
  simp only [onceB,Bool.and_eq_true,Bool.not_eq_true'] at h
  cases i with
  | zero=>rfl
  | succ i =>
   simp only [List.take_succ_cons,onceB,Bool.and_eq_true,Bool.not_eq_true']
   refine ⟨?_,ih h.2 i⟩
   rw [Bool.eq_false_iff] at h ⊢
   intro hh
   refine h.1 ?_
   obtain ⟨y,hy,he⟩:=List.any_eq_true.1 hh
   exact List.any_eq_true.2 ⟨y,List.mem_of_mem_take hy,he⟩

theorem keyEq_i64 (n m : Int) : keyEq (.int .i64 n) (.int .i64 m) = decide (n = m):=by
 rw [show keyEq (.int .i64 n) (.int .i64 m) = (n == m) from by simp [keyEq]];rfl

theorem mfind_seen (n : Int) : ∀ l : List IT,mfind (seenM l) (.int .i64 n) = if (l.any fun y=>decide (y.b = n)) = true then some [.v (.bool true)] else none
 | []=>rfl
 | x :: l=>by
  have:=mfind_seen n l
  simp only [seenM,List.map_cons,mfind,keyEq_i64,List.any_cons] at this ⊢
  by_cases h : n = x.b
  ·simp [h]
  ·have h' : ¬ x.b = n:=fun e=>h e.symm
   simp only [decide_eq_false h,decide_eq_false h',Bool.false_eq_true,if_false,this,Bool.false_or]

theorem mset_seen (x : IT) : ∀ l : List IT,(l.any fun y=>decide (y.b = x.b)) = false→mset (seenM l) (.int .i64 x.b) [.v (.bool true)] = seenM (l ++ [x])
 | [],_=>rfl
 | y :: l,h=>by
  simp only [List.any_cons,Bool.or_eq_false_iff,decide_eq_false_iff_not] at h
  have:=mset_seen x l h.2
  simp only [seenM,List.map_cons,List.cons_append,mset,keyEq_i64] at this ⊢
  rw [decide_eq_false (fun e=>h.1 e.symm),if_neg (by simp),this]

theorem seen_keys (l : List IT) (n : Int) : ∀ p ∈ seenM l,sameK (.int .i64 n) p.1:=by
 intro p hp
 obtain ⟨x,_,rfl⟩:=List.mem_map.1 hp
 rfl

theorem volume_ItemsRight_con (blocks size : Int) (l : List IT) (hb : l.length≤1000000) (hd : ∀ x ∈ l,x.d.length≤1000000) : Con Try.prog 30 [I blocks,I size,.c (.sl (l.map irow))] [] (B (itemsR blocks size l)) []:=by
 refine C_volume_ItemsRight nl nl ?_
 simp only [cz,A_volume_ItemsRight,argL,objL,List.length_nil,Nat.zero_add,zX,simprocAttr]
 refine aR 16 ?_
 refine aR 64 ?_
 refine aR 128 ?_
 refine aw_loopK (X:={ i : Nat // i≤l.length∧(l.take i).all (itOk blocks size) = true∧onceB (l.take i) = true }) [0,1,2,7,11,12] (fun i=>[(13,I i.1)]) [] (fun i=>[(64,.mp false (seenM (l.take i.1)))]) (fun i=>l.length - i.1) (⟨0,by omega,rfl,rfl⟩) ?_ ?_
 ·skip
  simp only [keepS,keepE,lk_cons,List.cons_append,List.nil_append,simprocAttr]
  refine Le.lit [] [] _ _ ?_ ?_ ?_ ?_
  ·simp only [zL,simprocAttr]
  ·simp only [zL,↓reduceIte]
   all_goals (rfl)
  ·simp [rlook]
  ·(simp;done)
 rintro ⟨i,hi,hall,honce⟩
 simp only [keepS,keepE,lk_cons,List.cons_append,List.nil_append,simprocAttr]
 simp only [zX]
 refine aR 208 ?_
 refine aw_cond _ rfl trivial (fun ht=>?_) (fun hf=>?_)
 ·have hi' : i < l.length:=by simpa using ht
  have hr : ((l.map irow)[((i : Int)).toNat]?).getD [] = [.v (.int .i64 l[i].b),.sl (l[i].d.map brow)]:=map_get irow hi' []
  have hdl:=hd _ (List.getElem_mem hi')
  have hmf:=mfind_seen l[i].b (l.take i)
  simp only [zX]
  refine aS 256 (fun Q hQ=>by simp only [zS,hr,simprocAttr];repeat refine ⟨by ((simp;omega)),?_⟩;exact hQ) ?_
  have hk:=seen_keys (l.take i) l[i].b
  have hone : List.length ((if ((l.take i).any fun y=>decide (y.b = l[i].b)) = true then some [C.v (.bool true)] else none).getD [C.v (.bool false)]) = 1:=by split <;> rfl
  have hbb : ((((if ((l.take i).any fun y=>decide (y.b = l[i].b)) = true then some [C.v (.bool true)] else none).getD [C.v (.bool false)])[0]?).getD (C.v (.bool false))) = C.v (.bool ((l.take i).any fun y=>decide (y.b = l[i].b))):=by
   cases (l.take i).any fun y=>decide (y.b = l[i].b) <;> rfl
  refine aw_reg 352 (RG.go fun Q hQ=>?_)
  simp only [zS,hmf,hone,hbb,simprocAttr]
  repeat refine ⟨by (first | omega | (simp;done)),?_⟩
  refine hQ (RG.nil ?_)
  simp only [zX]
  refine aw_cond _ rfl trivial (fun ht=>?_) (fun hf=>?_)
  ·skip
   simp only [zX]
   refine aR 736 ?_
   refine Fin.b (.inr rfl) rfl trivial ?_
   rw [eq_comm,Bool.eq_false_iff]
   intro hs
   simp only [itemsR,Bool.and_eq_true] at hs
   have h1:=List.all_eq_true.1 hs.1.2 _ (List.getElem_mem hi')
   have h2:=onceB_take hs.2 (i + 1)
   rw [take_one l i hi',onceB_append] at h2
   simp only [Bool.and_eq_true,Bool.not_eq_true'] at h2
   rw [h2.2] at ht
   simp [itOk] at h1 ht
   omega
  have hsn : ((l.take i).any fun y=>decide (y.b = l[i].b)) = false:=by
   cases hh : (l.take i).any fun y=>decide (y.b = l[i].b) with
   | false=>rfl
   | true=>rw [hh] at hf;simp at hf
  have hok : itOk blocks size l[i] = true:=by
   rw [hsn] at hf
   simp at hf
   simp [itOk];omega
  have hms:=mset_seen l[i] (l.take i) hsn
  rw [← take_one l i hi'] at hms
  simp only [zX]
  refine aw_reg 784 (RG.go fun Q hQ=>?_)
  simp only [zS,hms,simprocAttr]
  refine ⟨⟨by simp [C.isD],hk⟩,hQ (RG.nil ?_)⟩
  simp only [zX]
  refine aS 880 (fun Q hQ=>by simp only [zS,wi i _ hi' (by omega),simprocAttr];exact hQ) ?_
  refine ⟨⟨i + 1,hi',by rw [all_succ hi',hall,hok];rfl,by rw [take_one l i hi',onceB_append,honce,hsn];rfl⟩,?_,by simp only;omega⟩
  refine Le.lit [] [] _ _ ?_ ?_ ?_ ?_
  ·simp only [zL,simprocAttr]
  ·simp only [zL,↓reduceIte]
   all_goals (rfl)
  ·simp [rlook]
  ·(simp;done)
 have hi' : i = l.length:=by simp at hf;omega
 rw [hi',List.take_length] at hall honce
 simp only [zX,↓reduceIte]
 refine aB 944 ?_
 refine rC [] (volume_within_con _ 1 8) ?_
 refine aE ?_
 refine Fin.b (.inr rfl) rfl trivial ?_
 simp [itemsR,inR,hall,honce]
 congr 1 <;> exact decide_eq_decide.2 (by omega)

theorem mementoref13_ItemsRight_con (blocks size : Int) (l : List IT) (hb : l.length≤1000000) (hd : ∀ x ∈ l,x.d.length≤1000000) : Con Try.prog 31 [I blocks,I size,.c (.sl (l.map irow))] [] (B (itemsR blocks size l)) []:=by
 refine C_mementoref13_ItemsRight nl nl ?_
 simp only [cz,A_mementoref13_ItemsRight,argL,objL,List.length_nil,Nat.zero_add,zX,simprocAttr]
 refine aR 16 ?_
 refine aS 64 (fun Q hQ=>by simp only [zS,simprocAttr];repeat refine ⟨by ((simp;done)),?_⟩;exact hQ) ?_
 refine aw_cond _ rfl trivial (fun ht=>?_) (fun hf=>?_)
 ·skip
  simp only [zX]
  refine aR 224 ?_
  refine Fin.b (.inr rfl) rfl trivial ?_
  rw [eq_comm,Bool.eq_false_iff]
  intro hs
  simp [itemsR] at hs ht
  omega
 have hlen : 1≤l.length∧l.length≤8:=by simp at hf;omega
 simp only [zX]
 refine aR 272 ?_
 refine aw_loopK (X:={ i : Nat // i≤l.length∧(l.take i).all (itOk blocks size) = true∧onceB (l.take i) = true }) [0,1,2] (fun i=>[(7,I i.1)]) [] (fun i=>[]) (fun i=>l.length - i.1) (⟨0,by omega,rfl,rfl⟩) ?_ ?_
 ·skip
  simp only [keepS,keepE,lk_cons,List.cons_append,List.nil_append,simprocAttr]
  refine Le.lit [] [] _ _ ?_ ?_ ?_ ?_
  ·simp only [zL,simprocAttr]
  ·simp only [zL,simprocAttr]
  ·simp [rlook]
  ·(simp;done)
 rintro ⟨i,hi,hall,honce⟩
 simp only [keepS,keepE,lk_cons,List.cons_append,List.nil_append,simprocAttr]
 simp only [zX]
 refine aR 320 ?_
 refine aw_cond _ rfl trivial (fun ht=>?_) (fun hf=>?_)
 ·have hi' : i < l.length:=by simpa using ht
  have hr : ((l.map irow)[((i : Int)).toNat]?).getD [] = [.v (.int .i64 l[i].b),.sl (l[i].d.map brow)]:=map_get irow hi' []
  have hdl:=hd _ (List.getElem_mem hi')
  simp only [zX]
  refine aw_reg 416 (RG.go fun Q hQ=>?_)
  simp only [zS,hr,simprocAttr]
  repeat refine ⟨by (first | (simp;omega) | (simp;done)),?_⟩
  refine hQ (RG.nil ?_)
  simp only [zX]
  refine aw_cond _ rfl trivial (fun ht=>?_) (fun hf=>?_)
  ·skip
   simp only [zX]
   refine aR 848 ?_
   refine Fin.b (.inr rfl) rfl trivial ?_
   rw [eq_comm,Bool.eq_false_iff]
   intro hs
   simp only [itemsR,Bool.and_eq_true] at hs
   have h1:=List.all_eq_true.1 hs.1.2 _ (List.getElem_mem hi')
   simp [itOk] at h1 ht
   omega
  have hok : itOk blocks size l[i] = true:=by
   simp at hf
   simp [itOk];omega
  simp only [zX]
  refine aR 896 ?_
  refine aw_loopK (X:={ k : Nat // k≤i∧((l.take k).any fun y=>decide (y.b = l[i].b)) = false }) [0,1,2,7] (fun k=>[(8,I k.1)]) [] (fun k=>[]) (fun k=>i - k.1) (⟨0,by omega,rfl⟩) ?_ ?_
  ·skip
   simp only [keepS,keepE,lk_cons,List.cons_append,List.nil_append,simprocAttr]
   refine Le.lit [] [] _ _ ?_ ?_ ?_ ?_
   ·simp only [zL,simprocAttr]
   ·simp only [zL,simprocAttr]
   ·simp [rlook]
   ·(simp;done)
  rintro ⟨k,hk,hany⟩
  simp only [keepS,keepE,lk_cons,List.cons_append,List.nil_append,simprocAttr]
  simp only [zX]
  refine aR 944 ?_
  refine aw_cond _ rfl trivial (fun ht=>?_) (fun hf=>?_)
  ·have hk' : k < i:=by simpa using ht
   have hkl : k < l.length:=by omega
   have hrk : ((l.map irow)[((k : Int)).toNat]?).getD [] = [.v (.int .i64 l[k].b),.sl (l[k].d.map brow)]:=map_get irow hkl []
   simp only [zX]
   refine aw_draw 1024 (RG.go fun Q hQ=>?_)
   simp only [zS,hr,hrk,simprocAttr]
   repeat refine ⟨by ((simp;omega)),?_⟩
   refine hQ (RG.nil ⟨by decide +kernel,?_⟩)
   simp only [zX]
   refine aw_cond _ rfl trivial (fun ht=>?_) (fun hf=>?_)
   ·skip
    simp only [zX]
    refine aR 1232 ?_
    refine Fin.b (.inr rfl) rfl trivial ?_
    rw [eq_comm,Bool.eq_false_iff]
    intro hs
    simp only [itemsR,Bool.and_eq_true] at hs
    have h2:=onceB_take hs.2 (i + 1)
    rw [take_one l i hi',onceB_append] at h2
    simp only [Bool.and_eq_true,Bool.not_eq_true'] at h2
    have h3:=List.any_eq_false.1 h2.2 l[k] (by
     refine List.mem_iff_getElem.2 ⟨k,by simp;omega,by simp⟩)
    simp at h3 ht
    exact h3 ht
   have hne : ¬ l[k].b = l[i].b:=by simpa using hf
   simp only [zX]
   refine aS 1280 (fun Q hQ=>by simp only [zS,wi k _ hkl (by omega),simprocAttr];exact hQ) ?_
   refine ⟨⟨k + 1,hk',by rw [take_one l k hkl,List.any_append,hany];simp [hne]⟩,?_,by simp only;omega⟩
   refine Le.lit [] [] _ _ ?_ ?_ ?_ ?_
   ·simp only [zL,simprocAttr]
   ·simp only [zL,simprocAttr]
   ·simp [rlook]
   ·(simp;done)
  have hki : k = i:=by simp at hf;omega
  rw [hki] at hany
  simp only [zX,↓reduceIte]
  refine aS 1360 (fun Q hQ=>by simp only [zS,wi i _ hi' (by omega),simprocAttr];exact hQ) ?_
  refine ⟨⟨i + 1,hi',by rw [all_succ hi',hall,hok];rfl,by rw [take_one l i hi',onceB_append,honce,hany];rfl⟩,?_,by simp only;omega⟩
  refine Le.lit [] [] _ _ ?_ ?_ ?_ ?_
  ·simp only [zL,simprocAttr]
  ·simp only [zL,simprocAttr]
  ·simp [rlook]
  ·(simp;done)
 have hi' : i = l.length:=by simp at hf;omega
 rw [hi',List.take_length] at hall honce
 simp only [zX,↓reduceIte]
 refine aR 1440 ?_
 refine Fin.b (.inr rfl) rfl trivial ?_
 simp [itemsR,hall,honce,hlen]

end Go.Abs

namespace Go.Abs
open Go Go.Proofs
set_option maxRecDepth 100000
set_option linter.unusedSimpArgs false
set_option maxHeartbeats 2000000

def pinsR (n : Int) : Int→List Int→Bool
 | _,[]=>true
 | last,p :: l=>decide (last≤p) && decide (p≤n) && pinsR n p l
def wsR (blocks size : Int) : Nat→List WR→Bool
 | _,[]=>true
 | i,w :: l=>decide (w.s = i + 1) && itemsR blocks size w.its && wsR blocks size (i + 1) l
def rightV (v : VOL) : Bool :=
 shapeV v && inR v.next 0 v.total && (v.hid || decide (v.next = v.total)) && (!v.hid || decide (v.total≠0)) && decide (0≤v.floor) && decide (v.floor≤lenV v) &&
  pinsR (lenV v) v.floor v.pins && wsR v.blocks v.size 0 v.ws

structure Vok (v : VOL) : Prop where
 place : v.place.length≤1000000
 pins : v.pins.length≤1000000
 ws : v.ws.length≤1000000
 its : ∀ w ∈ v.ws,w.its.length≤1000000∧∀ x ∈ w.its,x.d.length≤1000000

theorem drop_get {α : Type} {l : List α} {i : Nat} (h : i < l.length) : l.drop i = l[i] :: l.drop (i + 1):=List.drop_eq_getElem_cons h

theorem volume_Right_con (v : VOL) (ok : Vok v) : Con Try.prog 21 [.agg (volC v)] [] (B (rightV v)) []:=by
 obtain ⟨ok1,ok2,ok3,ok4⟩:=ok
 refine C_volume_Right nl nl ?_
 simp only [cz,A_volume_Right,argL,objL,List.length_nil,zX]
 refine aS 16 (fun Q hQ=>by simp only [zS,volC,vC,simprocAttr];exact hQ) ?_
 refine aBD 64 ?_
 refine rC [] (volume_shape_con v ok1) ?_
 refine aM ?_
 refine rG _ _ (volume_within_con v.next 0 v.total) ?_
 refine RG.go fun Q hQ=>?_
 simp only [zS,simprocAttr]
 repeat refine ⟨by (first | (simp;done) | (intro h;rw [h];rfl) | (intro h;refine ⟨fun h2=>?_,h⟩;rw [h,h2];rfl)),?_⟩
 refine hQ ?_
 refine rG _ _ (volume_Len_con v) ?_
 refine aEDs (fun Q hQ=>by simp only [zS,simprocAttr];repeat refine ⟨by ((intro h;rw [h];rfl)),?_⟩;exact hQ) ?_
 refine aw_cond _ rfl trivial (fun ht=>?_) (fun hf=>?_)
 ·skip
  simp only [zX]
  refine aR 800 ?_
  refine Fin.b (.inr rfl) rfl trivial ?_
  rw [eq_comm,Bool.eq_false_iff]
  intro hs
  simp only [rightV,Bool.and_eq_true] at hs
  obtain ⟨⟨⟨⟨⟨⟨⟨s1,s2⟩,s3⟩,s4⟩,s5⟩,s6⟩,s7⟩,s8⟩:=hs
  cases hh : v.hid <;> simp [s1,s2,hh] at ht s3 s4 s5 s6 <;> omega
 obtain ⟨r1,r2⟩ : shapeV v = true∧(inR v.next 0 v.total && (v.hid || decide (v.next = v.total)) && (!v.hid || decide (v.total≠0)) && decide (0≤v.floor) && decide (v.floor≤lenV v)) = true:=by
  cases hh : v.hid <;> simp [hh] at hf ⊢ <;> exact ⟨hf.1.1.1.1,⟨⟨hf.1.1.1.2,by omega⟩,by omega⟩,by omega⟩
 have hrv : rightV v = (pinsR (lenV v) v.floor v.pins && wsR v.blocks v.size 0 v.ws):=by
  simp only [Bool.and_eq_true] at r2
  obtain ⟨⟨⟨⟨s2,s3⟩,s4⟩,s5⟩,s6⟩:=r2
  simp only [rightV,r1,s2,s3,s4,s5,s6,Bool.true_and]
 simp only [zX]
 refine aR 864 ?_
 refine aR 944 ?_
 refine aw_loopK (X:={ p : Nat × Int // p.1≤v.pins.length∧pinsR (lenV v) v.floor v.pins = pinsR (lenV v) p.2 (v.pins.drop p.1) }) [1,55,56] (fun p=>[(3,I p.1.2),(57,I p.1.1)]) [16] (fun p=>[]) (fun p=>v.pins.length - p.1.1) (⟨(0,v.floor),by omega,rfl⟩) ?_ ?_
 ·skip
  simp only [keepS,keepE,Option.getD_some,lk_cons,lkE_cons,List.cons_append,List.nil_append,simprocAttr]
  refine Le.lit [] [] _ _ ?_ ?_ ?_ ?_
  ·simp only [zL,simprocAttr]
  ·simp only [zL,↓reduceIte]
  ·simp [rlook]
  ·(simp;done)
 rintro ⟨⟨i,last⟩,hi,hp⟩
 simp only at hi hp
 simp only [keepS,keepE,Option.getD_some,lk_cons,lkE_cons,List.cons_append,List.nil_append,simprocAttr]
 simp only [zX]
 refine aR 1040 ?_
 refine aw_cond _ rfl trivial (fun ht=>?_) (fun hf=>?_)
 ·have hi' : i < v.pins.length:=by simpa using ht
  have hr : ((v.pins.map nrow)[((i : Int)).toNat]?).getD [] = [.v (.int .i64 v.pins[i])]:=map_get nrow hi' []
  have hdr:=drop_get hi'
  simp only [zX]
  refine aS 1088 (fun Q hQ=>by simp only [zS,hr,simprocAttr];repeat refine ⟨by ((simp;omega)),?_⟩;exact hQ) ?_
  refine aB 1168 ?_
  refine rG _ _ (volume_Len_con v) ?_
  refine aEs (fun Q hQ=>by simp only [zS,simprocAttr];repeat refine ⟨by ((simp;done)),?_⟩;exact hQ) ?_
  refine aw_cond _ rfl trivial (fun ht=>?_) (fun hf=>?_)
  ·skip
   simp only [zX]
   refine aR 1344 ?_
   refine Fin.b (.inr rfl) rfl trivial ?_
   rw [hrv,hp,hdr]
   simp [pinsR] at ht ⊢
   omega
  rw [hdr] at hp
  have hp' : pinsR (lenV v) v.floor v.pins = pinsR (lenV v) v.pins[i] (v.pins.drop (i + 1)):=by
   rw [hp]
   simp [pinsR] at hf ⊢
   omega
  simp only [zX]
  refine aR 1392 ?_
  refine aS 1456 (fun Q hQ=>by simp only [zS,wi i _ hi' (by omega),simprocAttr];exact hQ) ?_
  refine ⟨⟨(i + 1,v.pins[i]),hi',hp'⟩,?_,by simp only;omega⟩
  refine Le.lit [] [] _ _ ?_ ?_ ?_ ?_
  ·simp only [zL,simprocAttr]
  ·simp only [zL,↓reduceIte]
  ·simp [rlook]
  ·(simp;done)
 have hi' : i = v.pins.length:=by simp at hf;omega
 rw [hi',List.drop_length] at hp
 rw [hp] at hrv
 simp only [zX,↓reduceIte]
 refine aR 1520 ?_
 refine aw_loopK (X:={ i : Nat // i≤v.ws.length∧wsR v.blocks v.size 0 v.ws = wsR v.blocks v.size i (v.ws.drop i) }) [1,73,74] (fun i=>[(75,I i.1)]) [16] (fun i=>[]) (fun i=>v.ws.length - i.1) (⟨0,by omega,rfl⟩) ?_ ?_
 ·skip
  simp only [keepS,keepE,Option.getD_some,lk_cons,lkE_cons,List.cons_append,List.nil_append,simprocAttr]
  refine Le.lit [] [] _ _ ?_ ?_ ?_ ?_
  ·simp only [zL,simprocAttr]
  ·simp only [zL,↓reduceIte]
  ·simp [rlook]
  ·(simp;done)
 rintro ⟨k,hk,hw⟩
 try simp only at hk hw
 simp only [keepS,keepE,Option.getD_some,lk_cons,lkE_cons,List.cons_append,List.nil_append,simprocAttr]
 simp only [zX]
 refine aR 1616 ?_
 refine aw_cond _ rfl trivial (fun ht=>?_) (fun hf=>?_)
 ·have hk' : k < v.ws.length:=by simpa using ht
  have hr : ((v.ws.map wrow)[((k : Int)).toNat]?).getD [] = [.v (.int .i64 v.ws[k].s),.sl (v.ws[k].its.map irow)]:=map_get wrow hk' []
  have hdr:=drop_get hk'
  obtain ⟨hz1,hz2⟩:=ok4 _ (List.getElem_mem hk')
  have hwk:=wi k _ hk' (by omega)
  simp only [zX]
  refine aS 1664 (fun Q hQ=>by simp only [zS,hr,simprocAttr];repeat refine ⟨by ((simp;omega)),?_⟩;exact hQ) ?_
  refine aBs 1792 (fun Q hQ=>by simp only [zS,hwk,simprocAttr];exact hQ) ?_
  refine rG _ _ (volume_ItemsRight_con v.blocks v.size v.ws[k].its hz1 hz2) ?_
  refine aEs (fun Q hQ=>by simp only [zS,simprocAttr];repeat refine ⟨by ((simp;done)),?_⟩;exact hQ) ?_
  rw [hdr] at hw
  refine aw_cond _ rfl trivial (fun ht=>?_) (fun hf=>?_)
  ·skip
   simp only [zX]
   refine aR 2064 ?_
   refine Fin.b (.inr rfl) rfl trivial ?_
   rw [hrv,hw]
   simp at ht
   rcases ht with h | h
   ·simp [pinsR,wsR,h]
   ·simp [pinsR,wsR,h]
  have hw' : wsR v.blocks v.size 0 v.ws = wsR v.blocks v.size (k + 1) (v.ws.drop (k + 1)):=by
   rw [hw]
   simp at hf
   simp [wsR,hf.1,hf.2]
  simp only [zX]
  refine aS 2100 (fun Q hQ=>by simp only [zS,hwk,simprocAttr];exact hQ) ?_
  refine ⟨⟨k + 1,hk',hw'⟩,?_,by simp only;omega⟩
  refine Le.lit [] [] _ _ ?_ ?_ ?_ ?_
  ·simp only [zL,simprocAttr]
  ·simp only [zL,↓reduceIte]
  ·simp [rlook]
  ·(simp;done)
 have hk' : k = v.ws.length:=by simp at hf;omega
 rw [hk',List.drop_length] at hw
 simp only [zX,↓reduceIte]
 refine aR 2200 ?_
 refine Fin.b (.inr rfl) rfl trivial ?_
 rw [hrv,hw];rfl

end Go.Abs

namespace Go.Abs
open Go Go.Proofs
set_option maxRecDepth 100000
set_option linter.unusedSimpArgs false
set_option maxHeartbeats 2000000

theorem hist_behind_1_con (l : List IT) (t : Int) (i : Nat) (hi : i < l.length) (hl : l.length≤1000000) : Con Try.prog 91 [I i,.c (.bp 0 0),.c (.bp 1 0)] [.box [.sl (l.map irow)],.box [.v (.int .i64 t)]] (B (decide (l[i].b > t))) [.box [.sl (l.map irow)],.box [.v (.int .i64 t)]]:=by
 have hr : ((l.map irow)[((i : Int)).toNat]?).getD [] = [.v (.int .i64 l[i].b),.sl (l[i].d.map brow)]:=map_get irow hi []
 refine C_hist_behind_1 nl nl ?_
 simp only [cz,A_hist_behind_1,argL,objL,List.length_nil,List.length_cons,Nat.zero_add,zX,simprocAttr]
 refine aR 16 ?_
 refine aSD 64 (fun Q hQ=>by simp only [zS,hr,simprocAttr];repeat refine ⟨by ((simp;omega)),?_⟩;exact hQ) ?_
 refine Fin.objs [] [] (.inr rfl) rfl (by exact trivial) ?_ ?_ (by simp [objL,rlook]) (by (intro k hk;simp [objL,rlook];omega))
 ·simp only [zL,simprocAttr]
 ·simp only [zL,simprocAttr]

theorem sort_Search_con (l : List IT) (t : Int) (k : Nat) (hl : l.length≤1000000) (hk : k≤l.length) (h1 : ∀ i (hi : i < l.length),i < k→l[i].b≤t) (h2 : ∀ i (hi : i < l.length),k≤i→t < l[i].b) :
  Con Try.prog 90 [I l.length,.c (.fn 91 [.bp 0 0,.bp 1 0])] [.box [.sl (l.map irow)],.box [.v (.int .i64 t)]] (I k) [.box [.sl (l.map irow)],.box [.v (.int .i64 t)]]:=by
 refine C_sort_Search nl nl ?_
 simp only [cz,A_sort_Search,argL,objL,List.length_nil,List.length_cons,Nat.zero_add,zX,simprocAttr]
 refine aR 16 ?_
 refine aR 64 ?_
 refine aw_loopK (X:={ p : Nat × Nat // p.1≤k∧k≤p.2∧p.2≤l.length }) [1] (fun p=>[(5,I p.1.1),(6,I p.1.2)]) [0,1] (fun p=>[]) (fun p=>p.1.2 - p.1.1) (⟨(0,l.length),by omega,hk,by omega⟩) ?_ ?_
 ·skip
  simp only [keepS,keepE,Option.getD_some,lk_cons,lkE_cons,List.cons_append,List.nil_append,simprocAttr]
  refine Le.lit [] [] _ _ ?_ ?_ ?_ ?_
  ·simp only [zL,simprocAttr]
  ·simp only [zL,simprocAttr]
  ·simp [rlook]
  ·(intro k hk;simp [rlook];omega)
 rintro ⟨⟨i,j⟩,hi,hj,hjl⟩
 simp only at hi hj hjl
 simp only [keepS,keepE,Option.getD_some,lk_cons,lkE_cons,List.cons_append,List.nil_append,simprocAttr]
 simp only [zX]
 refine aR 144 ?_
 refine aw_cond _ rfl trivial (fun ht=>?_) (fun hf=>?_)
 ·have hij : i < j:=by simpa using ht
  have w1 : IntKind.i64.wrap ((i : Int) + j) = ((i + j : Nat) : Int):=by rw [w64 _ (by omega) (by omega)];omega
  have w2 : IntKind.u64.wrap ((i + j : Nat) : Int) = ((i + j : Nat) : Int):=by rw [w_u64];omega
  have w3 : ((i + j : Nat) : Int).fdiv (2 ^ min 1 IntKind.u64.bits) = (((i + j) / 2 : Nat) : Int):=by
   rw [show (2 : Int) ^ min 1 IntKind.u64.bits = 2 from rfl,Int.fdiv_eq_ediv_of_nonneg _ (by omega)];omega
  have w4 : IntKind.i64.wrap (((i + j) / 2 : Nat) : Int) = (((i + j) / 2 : Nat) : Int):=w64 _ (by omega) (by omega)
  simp only [zX]
  refine aS 224 (fun Q hQ=>by simp only [zS,w1,w2,w3,w4,simprocAttr];exact hQ) ?_
  obtain ⟨h,hh⟩ : ∃ h,h = (i + j) / 2:=⟨_,rfl⟩
  rw [← hh]
  have hhl : h < l.length:=by omega
  refine aB 368 ?_
  refine RG.callvo [0,1] [] rfl trivial (hist_behind_1_con l t h hhl hl) (.mk (tr_cons tr_v (tr_cons (tr_bp rfl) (tr_cons (tr_bp rfl) tr_nil))) (by simp only [zT,simprocAttr]) (by simp) (by simp) trivial (by simp [lkE_cons,lkE_nil]) (by simp [Ent.pure]) (by simp) (by simp)) ?_
  refine aE ?_
  refine aw_cond _ rfl trivial (fun ht=>?_) (fun hf=>?_)
  ·have hkh : h < k:=by
    simp at ht
    rcases Nat.lt_or_ge h k with g | g
    ·exact g
    ·have:=h2 h hhl g;omega
   refine aS 464 (fun Q hQ=>by simp only [zS,wi h _ hhl (by omega),simprocAttr];exact hQ) ?_
   refine ⟨⟨(h + 1,j),by simp only;omega⟩,?_,by simp only;omega⟩
   refine Le.lit [] [] _ _ ?_ ?_ ?_ ?_
   ·simp only [zL,simprocAttr]
   ·simp only [zL,simprocAttr]
   ·simp [rlook]
   ·(intro k hk;simp [rlook];omega)
  have hkh : k≤h:=by
   simp at hf
   rcases Nat.lt_or_ge h k with g | g
   ·have:=h1 h hhl g;omega
   ·exact g
  refine aR 544 ?_
  refine ⟨⟨(i,h),by simp only;omega⟩,?_,by simp only;omega⟩
  refine Le.lit [] [] _ _ ?_ ?_ ?_ ?_
  ·simp only [zL,simprocAttr]
  ·simp only [zL,simprocAttr]
  ·simp [rlook]
  ·(intro k hk;simp [rlook];omega)
 have hij : i = k:=by simp at hf;omega
 subst hij
 simp only [zX,↓reduceIte]
 refine aR 608 ?_
 refine Fin.objs [] [] (.inr rfl) rfl (by exact trivial) ?_ ?_ (by simp [objL,rlook]) (by (intro k hk;simp [objL,rlook];omega))
 ·simp only [zL,simprocAttr]
 ·simp only [zL,simprocAttr]

def behN (t : Int) (l : List IT) : Nat:=(l.takeWhile fun x=>decide (x.b≤t)).length
def rise : List IT→Prop
 | []=>True
 | x :: l=>(∀ y ∈ l,x.b≤y.b)∧rise l

theorem behN_le (t : Int) (l : List IT) : behN t l≤l.length:=(List.takeWhile_prefix _).length_le
theorem behN_lt (t : Int) : ∀ (l : List IT) (i : Nat) (hi : i < l.length),i < behN t l→l[i].b≤t
 | x :: l,i,hi,h=>by
  unfold behN at h
  rw [List.takeWhile_cons] at h
  split at h
  ·rename_i hx
   cases i with
   | zero=>simpa using hx
   | succ i=>exact behN_lt t l i (by simpa using hi) (by simpa [behN] using h)
  ·simp at h
theorem rise_le : ∀ (l : List IT),rise l→∀ i j (hi : i < l.length) (hj : j < l.length),i≤j→l[i].b≤l[j].b
 | x :: l,h,0,0,_,_,_=>by simp
 | x :: l,h,0,j + 1,_,hj,_=>h.1 _ (List.getElem_mem (by simpa using hj))
 | x :: l,h,i + 1,j + 1,hi,hj,hij=>rise_le l h.2 i j (by simpa using hi) (by simpa using hj) (by omega)
theorem behN_ge (t : Int) (l : List IT) (hr : rise l) (i : Nat) (hi : i < l.length) (h : behN t l≤i) : t < l[i].b:=by
 have hb : behN t l < l.length:=by omega
 have h0 : t < l[behN t l].b:=by
  have key : ∀ (l : List IT) (hb : behN t l < l.length),t < l[behN t l].b:=by
   intro l
   induction l with
   | nil=>intro hb;simp at hb
   | cons x l ih =>
    intro hb
    by_cases hx : x.b≤t
    ·have e : behN t (x :: l) = behN t l + 1:=by simp [behN,hx]
     have:=ih (by rw [e] at hb;simpa using hb)
     simp only [e,List.getElem_cons_succ];exact this
    ·have e : behN t (x :: l) = 0:=by simp [behN,hx]
     simp only [e,List.getElem_cons_zero];omega
  exact key l hb
 have:=rise_le l hr (behN t l) i hb hi h
 omega

theorem hist_behind_con (l : List IT) (t : Int) (hl : l.length≤1000000) (hr : rise l) : Con Try.prog 78 [.c (.sl (l.map irow)),I t] [] (I (behN t l)) []:=by
 have cS:=sort_Search_con l t (behN t l) hl (behN_le t l) (behN_lt t l) (behN_ge t l hr)
 refine C_hist_behind nl nl ?_
 simp only [cz,A_hist_behind,argL,objL,List.length_nil,Nat.zero_add,zX]
 refine aR 16 ?_
 refine aBs 96 (fun Q hQ=>by simp only [zS,List.length_map,simprocAttr];repeat refine ⟨by ((simp;done)),?_⟩;exact hQ) ?_
 refine RG.callo [16,32] [] (cS) (.mk (tr_cons tr_v (tr_cons ⟨rfl,⟨rfl,rfl⟩,⟨rfl,rfl⟩,trivial⟩ tr_nil)) (by (simp only [zT,simprocAttr];done)) (by simp) (by simp) (trivial) (by (simp [];done)) (by (simp [Ent.pure];done)) (by simp) (by simp)) ?_
 refine aE ?_
 exact Fin.scalar (.inr rfl) rfl trivial rfl trivial

end Go.Abs

namespace Go.Abs
open Go Go.Proofs
set_option maxRecDepth 100000
set_option linter.unusedSimpArgs false
set_option maxHeartbeats 2000000

theorem cloneB_con (d : List Nat) (hb : d.length≤1000000) : Con Try.prog 77 [.c (.sl (d.map brow))] [] (.c (.sl (d.map brow))) [] :=
 (slices_Clone_byte_byte_con (d.map brow) (drows_brow d) (brow_len d) (by simp;omega)).rows (drows_brow d)
theorem cloneI_con (l : List Int) (hb : l.length≤1000000) : Con Try.prog 40 [.c (.sl (l.map nrow))] [] (.c (.sl (l.map nrow))) [] :=
 (slices_Clone_int_int_con (l.map nrow) (drows_nrow l) (nrow_len l) (by simp;omega)).rows (drows_nrow l)

theorem hist_At_con (l : List IT) (t : Int) (hl : l.length≤1000000) (hr : rise l) (hd : ∀ x ∈ l,x.d.length≤1000000) :
  Con Try.prog 58 [.c (.sl (l.map irow)),I t] [] (.tup [.c (.sl (((l.take (behN t l)).getLast?.elim [] (·.d)).map brow)),B (decide (0 < behN t l))]) []:=by
 have hk:=behN_le t l
 have cB:=hist_behind_con l t hl hr
 generalize behN t l = k at *
 refine C_hist_At nl nl ?_
 simp only [cz,A_hist_At,argL,objL,List.length_nil,Nat.zero_add,zX]
 refine aR 16 ?_
 refine aB 80 ?_
 refine rC [] (cB) ?_
 refine aE ?_
 refine aR 176 ?_
 refine aw_cond _ rfl trivial (fun ht=>?_) (fun hf=>?_)
 ·have hk0 : k = 0:=by simp at ht;omega
  subst hk0
  simp only [zX]
  refine aR 240 ?_
  refine Fin.data [] (.inr rfl) rfl (by (exact trivial)) ?_
  simp only [zL,simprocAttr]
  all_goals (simp)
 have hk0 : 0 < k:=by simp at hf;omega
 have hk1 : k - 1 < l.length:=by omega
 have hw : IntKind.i64.wrap ((k : Int) - 1) = ((k - 1 : Nat) : Int):=by rw [w64 _ (by omega) (by omega)];omega
 have hr1 : ((l.map irow)[(((k - 1 : Nat) : Int)).toNat]?).getD [] = [.v (.int .i64 l[k - 1].b),.sl (l[k - 1].d.map brow)]:=map_get irow hk1 []
 have hdl:=hd _ (List.getElem_mem hk1)
 have hlast : (l.take k).getLast?.elim [] (·.d) = l[k - 1].d:=by
  obtain ⟨j,rfl⟩ : ∃ j,k = j + 1:=⟨k - 1,by omega⟩
  simp only [Nat.add_sub_cancel]
  rw [take_one l j (by omega),List.getLast?_concat];rfl
 rw [hlast,decide_eq_true hk0]
 simp only [zX]
 refine aBs 304 (fun Q hQ=>by simp only [zS,hw,hr1,simprocAttr];repeat refine ⟨by ((simp;omega)),?_⟩;exact hQ) ?_
 refine rC [] (cloneB_con l[k - 1].d hdl) ?_
 refine aE ?_
 refine Fin.data [] (.inr rfl) rfl (by (exact trivial)) ?_
 simp only [zL,simprocAttr]
 all_goals (simp)

theorem set_same {α β : Type} (f : α→β) {l : List α} {i : Nat} (hi : i < l.length) : (l.map f).set i (f l[i]) = l.map f:=by
 rw [← List.map_set,List.set_getElem_self]

theorem volume_items_con (l : List IT) (hl : l.length≤1000000) (hd : ∀ x ∈ l,x.d.length≤1000000) : Con Try.prog 55 [.c (.sl (l.map irow))] [] (.c (.osl 0)) [.arr 76 2 (l.map irow) false]:=by
 refine C_volume_items nl nl ?_
 simp only [cz,A_volume_items,argL,objL,List.length_nil,zX]
 refine aR 16 ?_
 refine aB 64 ?_
 refine rO [] [] (slices_Clone_api_Item_api_Item_con (l.map irow) (drows_irow l) (irow_len l) (by simp;omega)) ?_
 refine aE ?_
 refine aR 144 ?_
 refine aw_loopK (X:={ i : Nat // i≤l.length }) [3,8] (fun i=>[(9,I i.1)]) [80] (fun i=>[]) (fun i=>l.length - i.1) (⟨0,by omega⟩) ?_ ?_
 ·skip
  simp only [keepS,keepE,Option.getD_some,lk_cons,lkE_cons,List.cons_append,List.nil_append,simprocAttr]
  refine Le.lit [] [] _ _ ?_ ?_ ?_ ?_
  ·simp only [zL,simprocAttr]
  ·simp only [zL,simprocAttr]
   all_goals (exact drows_irow _)
  ·simp [rlook]
  ·(simp;done)
 rintro ⟨i,hi⟩
 simp only [keepS,keepE,Option.getD_some,lk_cons,lkE_cons,List.cons_append,List.nil_append,simprocAttr]
 simp only [zX]
 refine aR 224 ?_
 refine aw_cond _ rfl trivial (fun ht=>?_) (fun hf=>?_)
 ·have hi' : i < l.length:=by simpa using ht
  have hr : ((l.map irow)[((i : Int)).toNat]?).getD [] = [.v (.int .i64 l[i].b),.sl (l[i].d.map brow)]:=map_get irow hi' []
  have hdl:=hd _ (List.getElem_mem hi')
  have hset : (l.map irow).set ((i : Int)).toNat [.v (.int .i64 l[i].b),.sl (l[i].d.map brow)] = l.map irow:=set_same irow hi'
  simp only [zX]
  refine aR 272 ?_
  refine aw_reg 336 (RG.go fun Q hQ=>?_)
  simp only [zS,hr,simprocAttr]
  repeat refine ⟨by ((simp;omega)),?_⟩
  refine hQ ?_
  refine rC [] (cloneB_con l[i].d hdl) ?_
  refine RG.go fun Q hQ=>?_
  simp only [zS,simprocAttr]
  simp only [zS,hr,hset]
  repeat refine ⟨by ((simp;omega)),?_⟩
  refine hQ (RG.nil ?_)
  simp only [zX]
  refine aS 544 (fun Q hQ=>by simp only [zS,wi i _ hi' (by omega),simprocAttr];exact hQ) ?_
  refine ⟨⟨i + 1,hi'⟩,?_,by simp only;omega⟩
  refine Le.lit [] [] _ _ ?_ ?_ ?_ ?_
  ·simp only [zL,simprocAttr]
  ·simp only [zL,simprocAttr]
   all_goals (exact drows_irow _)
  ·simp [rlook]
  ·(simp;done)
 simp only [zX,↓reduceIte]
 refine aR 608 ?_
 refine Fin.objs [] [(0,80)] (.inr rfl) rfl (by exact trivial) ?_ ?_ (by simp [objL,rlook]) (by (simp [objL,rlook];done))
 ·simp only [zL,simprocAttr]
 ·simp only [zL,simprocAttr]
  all_goals (exact drows_irow _)

theorem itemsD_con (l : List IT) (hl : l.length≤1000000) (hd : ∀ x ∈ l,x.d.length≤1000000) : Con Try.prog 55 [.c (.sl (l.map irow))] [] (.c (.sl (l.map irow))) [] :=
 (volume_items_con l hl hd).rows (drows_irow l)

theorem volume_copied_con (v : VOL) (ok : Vok v) : Con Try.prog 46 [.agg (volC v)] [] (.agg [.v (.int .i64 v.id),.v (.int .i64 v.blocks),.v (.int .i64 v.size),.v (.int .i64 v.per),.sl (v.place.map nrow),.v (.int .i64 v.total),.v (.int .i64 v.next),.v (.bool v.hid),.v (.int .i64 v.floor),.osl 0,.osl 1])
  [.arr 2 1 (v.pins.map nrow) false,.arr 55 2 (v.ws.map wrow) false]:=by
 obtain ⟨ok1,ok2,ok3,ok4⟩:=ok
 refine C_volume_copied nl nl ?_
 simp only [cz,A_volume_copied,argL,objL,List.length_nil,zX]
 refine aS 16 (fun Q hQ=>by simp only [zS,volC,vC,simprocAttr];exact hQ) ?_
 refine aBD 80 ?_
 refine rC [] (cloneI_con v.place ok1) ?_
 refine aM ?_
 refine rO [] [] (slices_Clone_int64_int64_con (v.pins.map nrow) (drows_nrow _) (nrow_len _) (by simp;omega)) ?_
 refine aM ?_
 refine rO [] [] (slices_Clone_api_Write_api_Write_con (v.ws.map wrow) (drows_wrow _) (wrow_len _) (by simp;omega)) ?_
 refine aED ?_
 refine aR 352 ?_
 refine aw_loopK (X:={ i : Nat // i≤v.ws.length }) [1,2,18] (fun i=>[(19,I i.1)]) [16,32,160,208] (fun i=>[]) (fun i=>v.ws.length - i.1) (⟨0,by omega⟩) ?_ ?_
 ·skip
  simp only [keepS,keepE,Option.getD_some,lk_cons,lkE_cons,List.cons_append,List.nil_append,simprocAttr]
  refine Le.lit [] [] _ _ ?_ ?_ ?_ ?_
  ·simp only [zL,simprocAttr]
  ·simp only [zL,simprocAttr]
   all_goals (exact ⟨drows_nrow _,drows_wrow _⟩)
  ·simp [rlook]
  ·(simp;done)
 rintro ⟨i,hi⟩
 simp only [keepS,keepE,Option.getD_some,lk_cons,lkE_cons,List.cons_append,List.nil_append,simprocAttr]
 simp only [zX]
 refine aR 448 ?_
 refine aw_cond _ rfl trivial (fun ht=>?_) (fun hf=>?_)
 ·have hi' : i < v.ws.length:=by simpa using ht
  have hr : ((v.ws.map wrow)[((i : Int)).toNat]?).getD [] = [.v (.int .i64 v.ws[i].s),.sl (v.ws[i].its.map irow)]:=map_get wrow hi' []
  have hset : (v.ws.map wrow).set ((i : Int)).toNat [.v (.int .i64 v.ws[i].s),.sl (v.ws[i].its.map irow)] = v.ws.map wrow:=set_same wrow hi'
  obtain ⟨hz1,hz2⟩:=ok4 _ (List.getElem_mem hi')
  simp only [zX]
  refine aR 496 ?_
  refine aw_draw 560 (RG.go fun Q hQ=>?_)
  simp only [zS,hr,simprocAttr]
  repeat refine ⟨by ((simp;omega)),?_⟩
  refine hQ ?_
  refine rC [] (itemsD_con v.ws[i].its hz1 hz2) ?_
  refine RG.go fun Q hQ=>?_
  simp only [zS,simprocAttr]
  simp only [zS,hr,hset]
  repeat refine ⟨by ((simp;omega)),?_⟩
  refine hQ (RG.nil ⟨by decide +kernel,?_⟩)
  simp only [zX]
  refine aS 800 (fun Q hQ=>by simp only [zS,wi i _ hi' (by omega),simprocAttr];exact hQ) ?_
  refine ⟨⟨i + 1,hi'⟩,?_,by simp only;omega⟩
  refine Le.lit [] [] _ _ ?_ ?_ ?_ ?_
  ·simp only [zL,simprocAttr]
  ·simp only [zL,simprocAttr]
   all_goals (exact ⟨drows_nrow _,drows_wrow _⟩)
  ·simp [rlook]
  ·(simp;done)
 simp only [zX,↓reduceIte]
 refine aR 864 ?_
 refine Fin.objs [] [(0,160),(1,208)] (.inr rfl) rfl (by exact ⟨trivial,trivial⟩) ?_ ?_ (by simp [objL,rlook]) (by (simp [objL,rlook];done))
 ·simp only [zL,simprocAttr]
  all_goals ((repeat' (first | exact trivial | rfl | (simp;done) | refine ⟨?_,?_⟩)))
 ·simp only [zL,simprocAttr]
  all_goals (exact ⟨drows_nrow _,drows_wrow _⟩)

end Go.Abs

namespace Go.Abs
open Go Go.Proofs
set_option maxRecDepth 100000
set_option linter.unusedSimpArgs false
set_option maxHeartbeats 2000000

def newV (c : CMD) : VOL:=⟨c.vol,c.blocks,c.size,c.per,c.place,c.total,0,decide (0 < c.total),0,[],[]⟩
def zeroV : VOL:=⟨0,0,0,0,[],0,0,false,0,[],[]⟩
def newR (c : CMD) : VOL × Int:=if shapeV (newV c) = true then (newV c,0) else (zeroV,23)

theorem volume_New_con (c : CMD) (hb : c.place.length≤1000000) : Con Try.prog 13 [.agg (cmdC c)] [] (.tup [.agg (volC (newR c).1),I (newR c).2]) []:=by
 have cS:=volume_shape_con (newV c) hb
 have hzc : volC (newV c) = [.v (.int .i64 c.vol),.v (.int .i64 c.blocks),.v (.int .i64 c.size),.v (.int .i64 c.per),.sl (c.place.map nrow),.v (.int .i64 c.total),.v (.int .i64 0),.v (.bool (decide (0 < c.total))),.v (.int .i64 0),.sl [],.sl []]:=rfl
 refine C_volume_New nl nl ?_
 simp only [cz,A_volume_New,argL,objL,List.length_nil,zX]
 refine aS 16 (fun Q hQ=>by simp only [zS,cmdC,cC,simprocAttr];exact hQ) ?_
 refine aBD 96 ?_
 refine rC [] (cloneI_con c.place hb) ?_
 refine aED ?_
 refine aB 432 ?_
 refine rC [] (cS) ?_
 refine aE ?_
 refine aw_cond _ rfl trivial (fun ht=>?_) (fun hf=>?_)
 ·have hn : newR c = (zeroV,23):=by
   unfold newR;rw [if_neg (by simpa using ht)]
  rw [hn]
  simp only [zX]
  refine aR 512 ?_
  refine Fin.data [] (.inr rfl) rfl (by (exact ⟨trivial,trivial⟩)) ?_
  simp only [zL,simprocAttr]
  all_goals ((repeat' (first | exact trivial | rfl | refine ⟨?_,?_⟩)))
 have hn : newR c = (newV c,0):=by
  unfold newR;rw [if_pos (by simpa using hf)]
 rw [hn]
 simp only [zX]
 refine aR 592 ?_
 refine Fin.data [] (.inr rfl) rfl (by (exact ⟨trivial,trivial⟩)) ?_
 simp only [zL,simprocAttr]
 all_goals ((repeat' (first | exact trivial | rfl | refine ⟨?_,?_⟩)))

def timeE (floor t most : Int) : Int:=if t < floor then 30 else if most < t then 31 else 0

theorem volume_time_con (v : VOL) (t most : Int) : Con Try.prog 57 [.agg (volC v),I t,I most] [] (I (timeE v.floor t most)) []:=by
 refine C_volume_time nl nl ?_
 simp only [cz,A_volume_time,argL,objL,List.length_nil,Nat.zero_add,zX,simprocAttr]
 refine aS 16 (fun Q hQ=>by simp only [zS,volC,vC,simprocAttr];exact hQ) ?_
 refine aR 80 ?_
 refine aw_cond _ rfl trivial (fun ht=>?_) (fun hf=>?_)
 ·skip
  simp only [zX]
  refine aR 192 ?_
  refine Fin.i (.inr rfl) rfl trivial ?_
  unfold timeE;rw [if_pos (by simpa using ht)]
 have h1 : ¬ t < v.floor:=by simpa using hf
 simp only [zX]
 refine aR 240 ?_
 refine aw_cond _ rfl trivial (fun ht=>?_) (fun hf=>?_)
 ·skip
  simp only [zX]
  refine aR 336 ?_
  refine Fin.i (.inr rfl) rfl trivial ?_
  unfold timeE;rw [if_neg h1,if_pos (by simpa using ht)]
 simp only [zX]
 refine aR 384 ?_
 refine Fin.i (.inr rfl) rfl trivial ?_
 unfold timeE;rw [if_neg h1,if_neg (by simpa using hf)]

def vO (v : VOL) (pins ws : C) : List C:=[.v (.int .i64 v.id),.v (.int .i64 v.blocks),.v (.int .i64 v.size),.v (.int .i64 v.per),.sl (v.place.map nrow),.v (.int .i64 v.total),.v (.int .i64 v.next),.v (.bool v.hid),.v (.int .i64 v.floor),pins,ws]
def addW (v : VOL) (l : List IT) : VOL:={ v with ws:=v.ws ++ [⟨v.ws.length + 1,l⟩] }

theorem volume_write_yes (v : VOL) (l : List IT) (ok : Vok v) (hl : l.length≤1000000) (hd : ∀ x ∈ l,x.d.length≤1000000) (hr : itemsR v.blocks v.size l = true) :
  Con Try.prog 47 [.agg (vO v (.osl 0) (.osl 1)),.c (.sl (l.map irow))] [.arr 2 1 (v.pins.map nrow) false,.arr 55 2 (v.ws.map wrow) false] (.tup [.agg (vO v (.osl 0) (.osl 2)),I 0])
   [.arr 2 1 (v.pins.map nrow) false,.gone,.arr 55 2 ((addW v l).ws.map wrow) false]:=by
 have cI:=volume_ItemsRight_con v.blocks v.size l hl hd
 rw [hr] at cI
 obtain ⟨ok1,ok2,ok3,ok4⟩:=ok
 refine C_volume_write nl nl ?_
 simp only [cz,A_volume_write,argL,objL,List.length_nil,List.length_cons,Nat.zero_add,zX,simprocAttr]
 refine aS 16 (fun Q hQ=>by simp only [zS,vO,simprocAttr];exact hQ) ?_
 refine aB 96 ?_
 refine rC [] (cI) ?_
 refine aE ?_
 refine aF ?_
 refine aBD 320 ?_
 refine rC [0,1] (volume_Len_con v) ?_
 refine aM ?_
 refine rC [] (itemsD_con l hl hd) ?_
 refine RG.go fun Q hQ=>?_
 simp only [zS,simprocAttr]
 simp only [lenV,w64 ((v.ws.length : Int) + 1) (by omega) (by omega)]
 repeat refine ⟨by ((simp;omega)),?_⟩
 refine hQ (RG.nil ⟨by decide +kernel,?_⟩)
 simp only [zX]
 refine aR 544 ?_
 refine Fin.objs [] [(2,464)] (.inr rfl) rfl (by exact ⟨trivial,trivial⟩) ?_ ?_ (by simp [objL,rlook]) (by (intro k hk;simp [objL,rlook];omega))
 ·simp only [zL,simprocAttr]
  all_goals ((repeat' (first | exact trivial | rfl | (simp;done) | refine ⟨?_,?_⟩)))
 ·simp only [zL,simprocAttr]
  all_goals (exact ⟨drows_nrow _,⟨by simp [addW,wrow,wrC],drows_wrow _⟩⟩)

theorem volume_write_no (v : VOL) (l : List IT) (ok : Vok v) (hl : l.length≤1000000) (hd : ∀ x ∈ l,x.d.length≤1000000) (hr : itemsR v.blocks v.size l = false) :
  Con Try.prog 47 [.agg (vO v (.osl 0) (.osl 1)),.c (.sl (l.map irow))] [.arr 2 1 (v.pins.map nrow) false,.arr 55 2 (v.ws.map wrow) false] (.tup [.agg (vO v (.osl 0) (.osl 1)),I 23])
   [.arr 2 1 (v.pins.map nrow) false,.arr 55 2 (v.ws.map wrow) false]:=by
 have cI:=volume_ItemsRight_con v.blocks v.size l hl hd
 rw [hr] at cI
 refine C_volume_write nl nl ?_
 simp only [cz,A_volume_write,argL,objL,List.length_nil,List.length_cons,Nat.zero_add,zX,simprocAttr]
 refine aS 16 (fun Q hQ=>by simp only [zS,vO,simprocAttr];exact hQ) ?_
 refine aB 96 ?_
 refine rC [] (cI) ?_
 refine aE ?_
 refine aT ?_
 refine aR 320 ?_
 refine Fin.objs [] [] (.inr rfl) rfl (by exact ⟨trivial,trivial⟩) ?_ ?_ (by simp [objL,rlook]) (by (intro k hk;simp [objL,rlook];omega))
 ·simp only [zL,simprocAttr]
  all_goals ((repeat' (first | exact trivial | rfl | (simp;done) | refine ⟨?_,?_⟩)))
 ·simp only [zL,simprocAttr]
  all_goals (exact ⟨drows_nrow _,drows_wrow _⟩)


end Go.Abs

namespace Go.Abs
open Go Go.Proofs
set_option maxRecDepth 100000
set_option linter.unusedSimpArgs false
set_option maxHeartbeats 4000000

def repC (code len floor next : Int) (d : List Nat) : List C:=[.v (.int .i64 code),.v (.int .i64 len),.v (.int .i64 floor),.v (.int .i64 next),.sl (d.map brow)]
structure DO where
 v : VOL
 e : Int
 len : Int
 floor : Int
 next : Int
def fail (v : VOL) (e : Int) : DO:=⟨v,e,0,0,0⟩
def done (v : VOL) : DO:=⟨v,0,lenV v,v.floor,v.next⟩
def doPut (v : VOL) (l : List IT) : DO:=if v.hid = true then fail v 28 else if itemsR v.blocks v.size l = true then done (addW v l) else fail v 23

theorem vC_eq (v : VOL) : volC v = [.v (.int .i64 v.id),.v (.int .i64 v.blocks),.v (.int .i64 v.size),.v (.int .i64 v.per),.sl (v.place.map nrow),.v (.int .i64 v.total),.v (.int .i64 v.next),.v (.bool v.hid),.v (.int .i64 v.floor),.sl (v.pins.map nrow),.sl (v.ws.map wrow)]:=rfl

theorem volume_Do_put (v : VOL) (c : CMD) (ok : Vok v) (hk : c.kind = 2) (hl : c.items.length≤1000000) (hd : ∀ x ∈ c.items,x.d.length≤1000000) :
  Con Try.prog 18 [.agg (volC v),.agg (cmdC c)] [] (.tup [.agg (volC (doPut v c.items).v),.agg (repC (doPut v c.items).e (doPut v c.items).len (doPut v c.items).floor (doPut v c.items).next [])]) []:=by
 have ok':=ok
 obtain ⟨ok1,ok2,ok3,ok4⟩:=ok
 refine C_volume_Do nl nl ?_
 simp only [cz,A_volume_Do,argL,objL,List.length_nil,Nat.zero_add,zX]
 refine aS 16 (fun Q hQ=>by simp only [zS,vC_eq,cmdC,cC,hk,simprocAttr];exact hQ) ?_
 refine aB 112 ?_
 refine rO [] [] (volume_copied_con v ok') ?_
 refine aE ?_
 refine aB 224 ?_
 refine rO [] [] (volume_copied_con v ok') ?_
 refine aE ?_
 refine aR 304 ?_
 refine aR 368 ?_
 refine aT ?_
 refine aR 432 ?_
 refine aR 480 ?_
 refine aw_cond _ rfl trivial (fun ht=>?_) (fun hf=>?_)
 ·have hh : v.hid = false:=by simpa using ht
  cases hr : itemsR v.blocks v.size c.items with
  | true =>
   have hdo : doPut v c.items = done (addW v c.items):=by unfold doPut;rw [if_neg (by simp [hh]),if_pos hr]
   rw [hdo]
   have hoka : (addW v c.items).ws.length≤1000001:=by simp [addW];omega
   refine aB 560 ?_
   refine rO [240,241] [] (volume_write_yes v c.items ok' hl hd hr) ?_
   refine aEs (fun Q hQ=>by simp only [zS,simprocAttr];simp only [zS,vO,simprocAttr];exact hQ) ?_
   refine aR 736 ?_
   refine aF ?_
   refine aBD 912 ?_
   refine rC [240,608] (volume_Len_con (addW v c.items)) ?_
   refine aED ?_
   refine Fin.data [240,608] (.inr rfl) rfl (by (exact ⟨trivial,trivial,trivial⟩)) ?_
   simp only [zL,simprocAttr]
   all_goals ((repeat' (first | exact trivial | rfl | (refine ⟨⟨_,_,rfl⟩,?_⟩;(first | exact drows_nrow _ | exact drows_wrow _)) | refine ⟨?_,?_⟩)))
  | false =>
   have hdo : doPut v c.items = fail v 23:=by unfold doPut;rw [if_neg (by simp [hh]),if_neg (by simp [hr])]
   rw [hdo]
   refine aB 560 ?_
   refine rO [240,241] [] (volume_write_no v c.items ok' hl hd hr) ?_
   refine aEs (fun Q hQ=>by simp only [zS,simprocAttr];simp only [zS,vO,simprocAttr];exact hQ) ?_
   refine aR 736 ?_
   refine aT ?_
   refine aR 800 ?_
   refine Fin.data [128,129] (.inr rfl) rfl (by (exact ⟨trivial,trivial,trivial⟩)) ?_
   simp only [zL,simprocAttr]
   all_goals ((repeat' (first | exact trivial | rfl | (refine ⟨⟨_,_,rfl⟩,?_⟩;(first | exact drows_nrow _ | exact drows_wrow _)) | refine ⟨?_,?_⟩)))
 have hh : v.hid = true:=by simpa using hf
 have hdo : doPut v c.items = fail v 28:=by unfold doPut;rw [if_pos hh]
 rw [hdo]
 simp only [zX]
 refine aR 1104 ?_
 refine aT ?_
 refine aR 1168 ?_
 refine Fin.data [128,129] (.inr rfl) rfl (by (exact ⟨trivial,trivial,trivial⟩)) ?_
 simp only [zL,simprocAttr]
 all_goals ((repeat' (first | exact trivial | rfl | (refine ⟨⟨_,_,rfl⟩,?_⟩;(first | exact drows_nrow _ | exact drows_wrow _)) | refine ⟨?_,?_⟩)))

end Go.Abs

namespace Go.Abs
open Go Go.Proofs
set_option maxRecDepth 100000
set_option linter.unusedSimpArgs false
set_option maxHeartbeats 4000000

structure PU where
 vol : Int
 chunk : Int
 count : Int
 size : Int
 frm : Int
 to : Int
 floor : Int
 ws : List WR
def puC (vol chunk count size frm to floor : Int) (ws : List WR) : List C:=[.v (.int .i64 vol),.v (.int .i64 chunk),.v (.int .i64 count),.v (.int .i64 size),.v (.int .i64 frm),.v (.int .i64 to),.v (.int .i64 floor),.sl (ws.map wrow)]
def pushC (p : PU) : List C:=puC p.vol p.chunk p.count p.size p.frm p.to p.floor p.ws

def shIt (first : Int) (x : IT) : IT:=⟨x.b - first,x.d⟩
def inC (count : Int) (x : IT) : Bool:=decide (0≤x.b) && decide (x.b < count)
def pushItems (first count : Int) (l : List IT) : List IT:=(l.map (shIt first)).filter (inC count)
def pushW (first count : Int) (w : WR) : List WR:=if (pushItems first count w.its).isEmpty then [] else [⟨w.s,pushItems first count w.its⟩]
def pushWs (first count : Int) (l : List WR) : List WR:=l.flatMap (pushW first count)
def pushTo (v : VOL) (mark : Int) : Int:=min (mark + 4) (lenV v)
def pushOk (v : VOL) (n mark : Int) : Bool:=decide (0≤n) && decide (n < v.place.length) && decide (0≤mark) && decide (mark≤lenV v)
def pushP (v : VOL) (n mark : Int) : PU :=
 ⟨v.id,n,min v.per (v.blocks - n * v.per),v.size,mark,pushTo v mark,min v.floor (pushTo v mark),
  pushWs (n * v.per) (min v.per (v.blocks - n * v.per)) ((v.ws.take (pushTo v mark).toNat).drop mark.toNat)⟩
def pushV (v : VOL) (n mark : Int) : PU × Bool :=
 if pushOk v n mark = true then (pushP v n mark,true) else (⟨0,0,0,0,0,0,0,[]⟩,false)

theorem wsR_mem {blocks size : Int} : ∀ {l : List WR} {i : Nat},wsR blocks size i l = true→∀ w ∈ l,itemsR blocks size w.its = true
 | [],_,_,w,hw=>by cases hw
 | x :: l,i,h,w,hw=>by
  simp only [wsR,Bool.and_eq_true] at h
  rcases List.mem_cons.1 hw with rfl | hw
  ·exact h.1.2
  ·exact wsR_mem h.2 w hw
theorem itemsR_mem {blocks size : Int} {l : List IT} (h : itemsR blocks size l = true) : ∀ x ∈ l,0≤x.b∧x.b < blocks∧(x.d.length : Int) = size:=by
 intro x hx
 simp only [itemsR,Bool.and_eq_true] at h
 have:=List.all_eq_true.1 h.1.2 x hx
 simp [itOk] at this
 omega
theorem itemsR_len {blocks size : Int} {l : List IT} (h : itemsR blocks size l = true) : 1≤l.length∧l.length≤8:=by
 simp only [itemsR,Bool.and_eq_true,decide_eq_true_eq] at h
 omega
theorem shape_facts {v : VOL} (h : shapeV v = true) : 0≤v.id∧v.id≤7∧1≤v.blocks∧v.blocks≤256∧1≤v.size∧v.size≤32∧1≤v.per∧v.per≤v.blocks∧(v.place.length : Int) = chunksN v.blocks v.per∧0≤v.total∧v.total≤1099511627776∧∀ g ∈ v.place,1≤g∧g≤7:=by
 simp only [shapeV,shapeP,Bool.and_eq_true,inR_iff,decide_eq_true_eq,List.all_eq_true] at h
 obtain ⟨⟨⟨⟨⟨⟨s1,s2⟩,s3⟩,s4⟩,s5⟩,s6⟩,s7⟩:=h
 exact ⟨s1.1,s1.2,s2.1,s2.2,s3.1,s3.2,s4.1,s4.2,s5,s6.1,s6.2,s7⟩
theorem right_facts {v : VOL} (h : rightV v = true) : shapeV v = true∧0≤v.floor∧v.floor≤lenV v∧pinsR (lenV v) v.floor v.pins = true∧wsR v.blocks v.size 0 v.ws = true:=by
 simp only [rightV,Bool.and_eq_true,decide_eq_true_eq] at h
 obtain ⟨⟨⟨⟨⟨⟨⟨s1,s2⟩,s3⟩,s4⟩,s5⟩,s6⟩,s7⟩,s8⟩:=h
 exact ⟨s1,s5,s6,s7,s8⟩
theorem chunk_lt {b p n : Int} (hp : 1≤p) (hb : 1≤b) (h0 : 0≤n) (hn : n < chunksN b p) : n * p < b:=by
 unfold chunksN at hn
 rw [Int.tdiv_eq_ediv_of_nonneg (by omega)] at hn
 have h1:=Int.ediv_mul_le (b + p - 1) (show p≠0 by omega)
 have h2 : (n + 1) * p≤(b + p - 1) / p * p:=Int.mul_le_mul_of_nonneg_right (by omega) (by omega)
 rw [Int.add_mul] at h2
 omega

theorem pushItems_succ (first count : Int) (l : List IT) (k : Nat) (hk : k < l.length) :
  pushItems first count (l.take (k + 1)) = if inC count (shIt first l[k]) = true then pushItems first count (l.take k) ++ [shIt first l[k]] else pushItems first count (l.take k):=by
 unfold pushItems
 rw [take_one l k hk,List.map_append,List.filter_append]
 split
 ·rename_i h;simp [h]
 ·rename_i h;simp [h]

theorem pushItems_len (first count : Int) (l : List IT) : (pushItems first count l).length≤l.length:=by
 unfold pushItems
 exact Nat.le_trans (List.length_filter_le ..) (by simp)
theorem pushWs_len (first count : Int) : ∀ l : List WR,(pushWs first count l).length≤l.length
 | []=>by simp [pushWs]
 | w :: l=>by
  have:=pushWs_len first count l
  simp only [pushWs,List.flatMap_cons,List.length_append,List.length_cons] at this ⊢
  have h1 : (pushW first count w).length≤1:=by unfold pushW;split <;> simp
  omega
theorem pushWs_succ (first count : Int) (l : List WR) (i : Nat) (hi : i < l.length) : pushWs first count (l.take (i + 1)) = pushWs first count (l.take i) ++ pushW first count l[i]:=by
 unfold pushWs
 rw [take_one l i hi,List.flatMap_append];simp

theorem volume_Push_con (v : VOL) (n mark : Int) (ok : Vok v) (hr : rightV v = true) :
  Con Try.prog 32 [.agg (volC v),I n,I mark] [] (.tup [.agg (pushC (pushV v n mark).1),B (pushV v n mark).2]) []:=by
 obtain ⟨ok1,ok2,ok3,ok4⟩:=ok
 obtain ⟨hs,hf0,hf1,hpins,hws⟩:=right_facts hr
 obtain ⟨g1,g2,g3,g4,g5,g6,g7,g8,g9,g10,g11,g12⟩:=shape_facts hs
 refine C_volume_Push nl nl ?_
 simp only [cz,A_volume_Push,argL,objL,List.length_nil,Nat.zero_add,zX,simprocAttr]
 refine aS 16 (fun Q hQ=>by simp only [zS,vC_eq,simprocAttr];exact hQ) ?_
 refine aw_reg 96 (RG.go fun Q hQ=>?_)
 simp only [zS,simprocAttr]
 repeat refine ⟨by ((simp;done)),?_⟩
 refine hQ ?_
 refine rG _ _ (volume_Len_con v) ?_
 refine aEs (fun Q hQ=>by simp only [zS,simprocAttr];repeat refine ⟨by ((simp;done)),?_⟩;exact hQ) ?_
 refine aw_cond _ rfl trivial (fun ht=>?_) (fun hf=>?_)
 ·have hno : pushV v n mark = (⟨0,0,0,0,0,0,0,[]⟩,false):=by
   unfold pushV
   rw [if_neg]
   intro hk
   simp only [pushOk,Bool.and_eq_true,decide_eq_true_eq] at hk
   simp at ht
   omega
  rw [hno]
  simp only [zX]
  refine aR 432 ?_
  refine Fin.data [] (.inr rfl) rfl (by (exact ⟨trivial,trivial⟩)) ?_
  simp only [zL,simprocAttr]
  all_goals ((repeat' (first | exact trivial | rfl | refine ⟨?_,?_⟩)))
 have hok : pushOk v n mark = true:=by
  simp at hf
  simp only [pushOk,Bool.and_eq_true,decide_eq_true_eq]
  omega
 have hyes : pushV v n mark = (pushP v n mark,true):=by unfold pushV;rw [if_pos hok]
 rw [hyes]
 simp only [pushP]
 simp only [pushOk,Bool.and_eq_true,decide_eq_true_eq] at hok
 obtain ⟨⟨⟨hn0,hn1⟩,hm0⟩,hm1⟩:=hok
 have hnp : n * v.per < v.blocks:=chunk_lt g7 g3 hn0 (by rw [← g9];exact hn1)
 have hnp0 : 0≤n * v.per:=Int.mul_nonneg hn0 (by omega)
 obtain ⟨first,hfirst⟩ : ∃ f,f = n * v.per:=⟨_,rfl⟩
 rw [← hfirst] at hnp hnp0 ⊢
 have w1 : IntKind.i64.wrap (n * v.per) = first:=by rw [hfirst,w64 _ (by omega) (by omega)]
 have w2 : IntKind.i64.wrap (v.blocks - first) = v.blocks - first:=w64 _ (by omega) (by omega)
 have hlen : lenV v≤1000000:=by simp [lenV];omega
 have w3 : IntKind.i64.wrap (mark + 4) = mark + 4:=w64 _ (by omega) (by omega)
 obtain ⟨to,hto0⟩ : ∃ t,t = pushTo v mark:=⟨_,rfl⟩
 obtain ⟨count,hco0⟩ : ∃ c,c = min v.per (v.blocks - first):=⟨_,rfl⟩
 rw [← hto0,← hco0]
 have hto : (if lenV v < mark + 4 then lenV v else mark + 4) = to:=by rw [hto0];unfold pushTo;rw [min_if]
 have hco : (if v.blocks - first < v.per then v.blocks - first else v.per) = count:=by rw [hco0,min_if]
 have hto1 : mark≤to∧to≤lenV v:=by rw [hto0];unfold pushTo;omega
 have hcb : 1≤count∧count≤256:=by omega
 have hfl : (if to < v.floor then to else v.floor) = min v.floor to:=by rw [min_if]
 clear hto0 hco0 hfirst
 simp only [zX]
 refine aS 512 (fun Q hQ=>by simp only [zS,w1,simprocAttr];exact hQ) ?_
 refine aBDs 624 (fun Q hQ=>by simp only [zS,w2,hco,w3,simprocAttr];exact hQ) ?_
 refine rC [] (volume_Len_con v) ?_
 refine RG.go fun Q hQ=>?_
 simp only [zS,simprocAttr]
 simp only [I,hto]
 refine hQ (RG.nil ⟨by decide +kernel,?_⟩)
 simp only [zX]
 refine aS 992 (fun Q hQ=>by simp only [zS,hfl,foldMx,simprocAttr];exact hQ) ?_
 have hsl : List.drop mark.toNat (List.take to.toNat (v.ws.map wrow)) = ((v.ws.take to.toNat).drop mark.toNat).map wrow:=by rw [List.map_drop,List.map_take]
 have hsub : ∀ w ∈ (v.ws.take to.toNat).drop mark.toNat,w ∈ v.ws:=fun w hw=>List.mem_of_mem_take (List.mem_of_mem_drop hw)
 have hsubl : ((v.ws.take to.toNat).drop mark.toNat).length≤1000000:=by simp;omega
 refine aw_reg 1136 (RG.go fun Q hQ=>?_)
 simp only [zS,hsl,simprocAttr]
 refine ⟨⟨hm0,hto1.1,by simp [lenV] at hto1 ⊢;omega,wrow_len _⟩,hQ (RG.nil ?_)⟩
 simp only [zX]
 obtain ⟨sub,hsube⟩ : ∃ s,s = (v.ws.take to.toNat).drop mark.toNat:=⟨_,rfl⟩
 rw [← hsube] at hsub hsubl ⊢
 refine aw_loopK (X:={ i : Nat // i≤sub.length }) [6,8,9,70,71] (fun i=>[(72,I i.1)]) [32] (fun i=>[(928,.box [.v (.int .i64 v.id),.v (.int .i64 n),.v (.int .i64 count),.v (.int .i64 v.size),.v (.int .i64 mark),.v (.int .i64 to),.v (.int .i64 (min v.floor to)),.osl 5000]),(5000,.arr 55 2 ((pushWs first count (sub.take i.1)).map wrow) false)]) (fun i=>sub.length - i.1) (⟨0,by omega⟩) ?_ ?_
 ·skip
  simp only [keepS,keepE,Option.getD_some,lk_cons,lkE_cons,List.cons_append,List.nil_append,simprocAttr]
  refine (Le.ownB 928 7 5000 _ 55 2 rfl rfl rfl (by decide)).trans ?_
  simp only [List.set_cons_succ,List.set_cons_zero,setE_cons,setE_nil,simprocAttr]
  refine Le.lit [] [] _ _ ?_ ?_ ?_ ?_
  ·simp only [zL,simprocAttr]
  ·simp only [zL,simprocAttr]
   all_goals (try ((repeat' (first | (exact drows_wrow _) | rfl | refine ⟨?_,?_⟩))))
  ·simp [rlook]
  ·(simp;done)
 rintro ⟨i,hi⟩
 simp only [keepS,keepE,Option.getD_some,lk_cons,lkE_cons,List.cons_append,List.nil_append,simprocAttr]
 simp only [zX]
 refine aR 1312 ?_
 refine aw_cond _ rfl trivial (fun ht=>?_) (fun hf=>?_)
 ·have hi' : i < sub.length:=by simpa using ht
  have hr : ((sub.map wrow)[((i : Int)).toNat]?).getD [] = [.v (.int .i64 sub[i].s),.sl (sub[i].its.map irow)]:=map_get wrow hi' []
  have hmem:=hsub _ (List.getElem_mem hi')
  obtain ⟨hz1,hz2⟩:=ok4 _ hmem
  have hrng:=itemsR_mem (wsR_mem hws _ hmem)
  have hsucc:=pushWs_succ first count sub i hi'
  have hwl : (pushWs first count (sub.take i)).length≤1000000:=by have:=pushWs_len first count (sub.take i);simp at this;omega
  have hpl:=pushItems_len first count sub[i].its
  generalize sub[i] = w at *
  simp only [zX]
  refine aS 1360 (fun Q hQ=>by simp only [zS,hr,simprocAttr];repeat refine ⟨by ((simp;omega)),?_⟩;exact hQ) ?_
  refine aR 1456 ?_
  refine aB 1504 ?_
  refine rC [] (itemsD_con w.its hz1 hz2) ?_
  refine aE ?_
  refine aw_loopK (X:={ k : Nat // k≤w.its.length }) [6,8,9,11,70,71,72,78,79] (fun k=>[(12,.c (.osl 5001)),(80,I k.1)]) [32,928,5000,1392] (fun k=>[(5001,.arr 76 2 ((pushItems first count (w.its.take k.1)).map irow) false)]) (fun k=>w.its.length - k.1) (⟨0,by omega⟩) ?_ ?_
  ·skip
   simp only [keepS,keepE,Option.getD_some,lk_cons,lkE_cons,List.cons_append,List.nil_append,simprocAttr]
   refine (Le.own 12 5001 76 2 rfl rfl (by decide)).trans ?_
   simp only [setS_cons,setE_cons,setE_nil,simprocAttr]
   refine Le.lit [] [] _ _ ?_ ?_ ?_ ?_
   ·simp only [zL,simprocAttr]
   ·simp only [zL,simprocAttr]
    all_goals (try ((repeat' (first | (first | exact drows_irow _ | exact drows_wrow _) | rfl | refine ⟨?_,?_⟩))))
   ·simp [rlook]
   ·(simp;done)
  rintro ⟨k,hk⟩
  simp only [keepS,keepE,Option.getD_some,lk_cons,lkE_cons,List.cons_append,List.nil_append,simprocAttr]
  simp only [zX]
  refine aR 1616 ?_
  refine aw_cond _ rfl trivial (fun ht=>?_) (fun hf=>?_)
  ·have hk' : k < w.its.length:=by simpa using ht
   have hr2 : ((w.its.map irow)[((k : Int)).toNat]?).getD [] = [.v (.int .i64 w.its[k].b),.sl (w.its[k].d.map brow)]:=map_get irow hk' []
   have hps:=pushItems_succ first count w.its k hk'
   have hpk : (pushItems first count (w.its.take k)).length≤1000000:=by have:=pushItems_len first count (w.its.take k);simp at this;omega
   obtain ⟨q1,q2,q3⟩:=hrng _ (List.getElem_mem hk')
   have w5 : IntKind.i64.wrap (w.its[k].b - first) = w.its[k].b - first:=w64 _ (by omega) (by omega)
   simp only [zX]
   refine aS 1664 (fun Q hQ=>by simp only [zS,hr2,simprocAttr];repeat refine ⟨by ((simp;omega)),?_⟩;exact hQ) ?_
   refine aS 1760 (fun Q hQ=>by simp only [zS,w5,simprocAttr];exact hQ) ?_
   refine aR 1888 ?_
   refine aw_cond _ rfl trivial (fun ht=>?_) (fun hf=>?_)
   ·have hin : inC count (shIt first w.its[k]) = true:=ht
    rw [if_pos hin] at hps
    refine aS 2080 (fun Q hQ=>by simp only [zS,simprocAttr];repeat refine ⟨by ((simp;omega)),?_⟩;exact hQ) ?_
    refine aS 2192 (fun Q hQ=>by simp only [zS,wi k _ hk' (by omega),simprocAttr];exact hQ) ?_
    refine ⟨⟨k + 1,hk'⟩,?_,by simp only;omega⟩
    refine Le.lit [] [(5001,2128)] _ _ ?_ ?_ ?_ ?_
    ·simp only [zL,simprocAttr]
    ·simp only [zL,simprocAttr]
     all_goals (rw [hps,List.map_append];(repeat' (first | (first | exact drows_wrow _ | (rw [← List.map_append];first | exact drows_brow _ | exact drows_nrow _ | exact drows_irow _ | exact drows_wrow _)) | rfl | refine ⟨?_,?_⟩)))
    ·simp [rlook]
    ·(simp;done)
   have hin : inC count (shIt first w.its[k]) = false:=hf
   rw [hin,if_neg (by simp)] at hps
   simp only [zX]
   refine aS 2256 (fun Q hQ=>by simp only [zS,wi k _ hk' (by omega),simprocAttr];exact hQ) ?_
   refine ⟨⟨k + 1,hk'⟩,?_,by simp only;omega⟩
   refine Le.lit [] [] _ _ ?_ ?_ ?_ ?_
   ·simp only [zL,simprocAttr]
   ·simp only [zL,simprocAttr]
    all_goals (rw [hps];(repeat' (first | (first | exact drows_irow _ | exact drows_wrow _ | (simp [C.isD];done)) | refine ⟨?_,?_⟩)))
   ·simp [rlook]
   ·(simp;done)
  have hk' : k = w.its.length:=by simp at hf;omega
  subst hk'
  simp only [List.take_length]
  obtain ⟨pit,hpit⟩ : ∃ p,p = pushItems first count w.its:=⟨_,rfl⟩
  have hpw : pushW first count w = if pit.isEmpty then [] else [⟨w.s,pit⟩]:=by rw [hpit];rfl
  simp only [← hpit] at hpl ⊢
  simp only [zX,↓reduceIte]
  refine aR 2320 ?_
  refine aw_cond _ rfl trivial (fun ht=>?_) (fun hf=>?_)
  ·have hne : pit.isEmpty = false:=by cases hpe : pit with
    | nil=>rw [hpe] at ht;simp at ht
    | cons a b=>rfl
   rw [hne,if_neg (by simp)] at hpw
   refine aS 2400 (fun Q hQ=>by simp only [zS,simprocAttr];repeat refine ⟨by ((simp;omega)),?_⟩;exact hQ) ?_
   refine aS 2592 (fun Q hQ=>by simp only [zS,wi i _ hi' (by omega),simprocAttr];exact hQ) ?_
   refine ⟨⟨i + 1,hi'⟩,?_,by simp only;omega⟩
   refine (Le.tell [5001] 2512 55 2 _ ((pushWs first count (sub.take (i + 1))).map wrow) false rfl (by rw [hsucc,hpw,List.map_append];refine tell_app ?_ _;exact ⟨⟨.inl rfl,.inr (.inr ⟨_,_,_,_,rfl,rfl,rfl,drows_irow _⟩),trivial⟩,trivial⟩)).trans ?_
   refine Le.lit [] [(5000,2512)] _ _ ?_ ?_ ?_ ?_
   ·simp only [zL,simprocAttr]
   ·simp only [zL,simprocAttr]
    all_goals (try ((repeat' ((exact drows_wrow _)))))
   ·simp [rlook]
   ·(simp;done)
  have hne : pit.isEmpty = true:=by cases hpe : pit with
   | nil=>rfl
   | cons a b=>rw [hpe] at hf;simp at hf
  rw [hne,if_pos rfl] at hpw
  simp only [zX]
  refine aS 2656 (fun Q hQ=>by simp only [zS,wi i _ hi' (by omega),simprocAttr];exact hQ) ?_
  refine ⟨⟨i + 1,hi'⟩,?_,by simp only;omega⟩
  refine Le.lit [] [] _ _ ?_ ?_ ?_ ?_
  ·simp only [zL,simprocAttr]
  ·simp only [zL,simprocAttr]
   all_goals (rw [hsucc,hpw,List.append_nil];(repeat' (first | (first | exact drows_wrow _ | (simp [C.isD];done)) | refine ⟨?_,?_⟩)))
  ·simp [rlook]
  ·(simp;done)
 have hi' : i = sub.length:=by simp at hf;omega
 subst hi'
 simp only [List.take_length]
 simp only [zX,↓reduceIte]
 refine aR 2720 ?_
 refine Fin.data [5000] (.inr rfl) rfl (by (exact ⟨trivial,trivial⟩)) ?_
 simp only [zL,simprocAttr]
 all_goals ((repeat' (first | exact trivial | rfl | (refine ⟨⟨_,_,rfl⟩,?_⟩;(exact drows_wrow _)) | refine ⟨?_,?_⟩)))

end Go.Abs

namespace Go.Abs
open Go Go.Proofs
set_option maxRecDepth 100000
set_option linter.unusedSimpArgs false
set_option maxHeartbeats 4000000

def vOne : VOL:=⟨0,3,1,2,[1,2],0,0,false,0,[],[⟨1,[⟨2,[120]⟩]⟩]⟩
theorem vOne_ok : Vok vOne:=⟨by decide,by decide,by decide,by decide⟩
theorem vOne_right : rightV vOne = true:=by decide

theorem vC_one : volC vOne = [.v (.int .i64 0),.v (.int .i64 3),.v (.int .i64 1),.v (.int .i64 2),.sl [[.v (.int .i64 1)],[.v (.int .i64 2)]],.v (.int .i64 0),.v (.int .i64 0),.v (.bool false),.v (.int .i64 0),.sl [],.sl [[.v (.int .i64 1),.sl [[.v (.int .i64 2),.sl [brow 120]]]]]]:=rfl

theorem volume_State_two : Con Try.prog 35 [.agg (volC vOne),I 2] [] (.tup [.c (.sl []),I 31]) []:=by
 have ct:=volume_time_con vOne 2 1
 refine C_volume_State nl nl ?_
 simp only [cz,A_volume_State,argL,objL,List.length_nil,Nat.zero_add,zX]
 refine aS 16 (fun Q hQ=>by simp only [zS,vC_one,simprocAttr];exact hQ) ?_
 refine aBD 96 ?_
 refine rC [] (volume_Len_con vOne) ?_
 refine aM ?_
 refine rC [] (ct) ?_
 refine aED ?_
 refine aR 224 ?_
 refine aT ?_
 refine aR 288 ?_
 refine Fin.data [] (.inr rfl) rfl (by (exact trivial)) ?_
 simp only [zL,simprocAttr]
 all_goals ((repeat' (rfl)))

def nilR : List C:=[.v (.slice none 0 0)]
def outR : Nat→List (List C)
 | 0=>[nilR,nilR,nilR]
 | 1=>[[.sl [brow 0]],nilR,nilR]
 | 2=>[[.sl [brow 0]],[.sl [brow 0]],nilR]
 | _=>[[.sl [brow 0]],[.sl [brow 0]],[.sl [brow 120]]]

theorem pureTB {r : List (List C)} {b : Bool} : (SV.tup [.c (.sl r),B b]).pureD:=by
 intro s hs
 simp only [List.mem_cons,List.not_mem_nil,or_false] at hs
 rcases hs with rfl | rfl <;> rfl

theorem volume_State_one : Con Try.prog 35 [.agg (volC vOne),I 1] [] (.tup [.c (.sl (outR 3)),I 0]) []:=by
 have ct:=volume_time_con vOne 1 1
 refine C_volume_State nl nl ?_
 simp only [cz,A_volume_State,argL,objL,List.length_nil,Nat.zero_add,zX]
 refine aS 16 (fun Q hQ=>by simp only [zS,reduceCtorEq,Nat.reduceAdd,Nat.reduceEqDiff,↓reduceIte,vC_one];exact hQ) ?_
 refine aBDs 96 (fun Q hQ=>by simp only [zS,reduceCtorEq,Nat.reduceAdd,Nat.reduceEqDiff,↓reduceIte];exact hQ) ?_
 refine rC [] (volume_Len_con vOne) ?_
 refine aMs (fun Q hQ=>by simp only [zS,reduceCtorEq,Nat.reduceAdd,Nat.reduceEqDiff,↓reduceIte];exact hQ) ?_
 refine rC [] (ct) ?_
 refine aEDs (fun Q hQ=>by simp only [zS,reduceCtorEq,Nat.reduceAdd,Nat.reduceEqDiff,↓reduceIte];exact hQ) ?_
 refine aS 224 (fun Q hQ=>by simp only [zS,reduceCtorEq,Nat.reduceAdd,Nat.reduceEqDiff,↓reduceIte];exact hQ) ?_
 refine aF ?_
 refine aS 368 (fun Q hQ=>by simp only [zS,reduceCtorEq,Nat.reduceAdd,Nat.reduceEqDiff,Int.reduceToNat,↓reduceIte,Int.reduceLT,Int.reduceLE];repeat refine ⟨by (omega),?_⟩;exact hQ) ?_
 simp only [List.replicate]
 refine aS 480 (fun Q hQ=>by simp only [zS,reduceCtorEq,Nat.reduceAdd,Nat.reduceEqDiff,↓reduceIte];exact hQ) ?_
 refine aw_loopK (X:=Bool) [1,2,7,29,30] (fun q=>[(31,I (if q = true then 1 else 0))]) [16] (fun q=>(if q = true then [(416,.arr 103 1 [[.v (.slice none 0 0)],[.v (.slice none 0 0)],[.osl 1376]] false),(1376,.arr 105 2 [[.v (.int .i64 1),.sl [brow 120]]] false)] else [(416,.arr 103 1 [[.v (.slice none 0 0)],[.v (.slice none 0 0)],[.v (.slice none 0 0)]] false)])) (fun q=>(if q = true then 0 else 1)) (false) ?_ ?_
 ·skip
  simp only [keepS,keepE,Option.getD_some,lk_cons,lkE_cons,List.cons_append,List.nil_append,Nat.reduceEqDiff,↓reduceIte,reduceCtorEq]
  refine Le.lit [] [] _ _ ?_ ?_ ?_ ?_
  ·simp only [zL,Nat.reduceEqDiff,↓reduceIte,reduceCtorEq]
  ·simp only [zL,Nat.reduceEqDiff,↓reduceIte,reduceCtorEq]
   all_goals (simp [C.isD])
  ·simp [rlook]
  ·(simp;done)
 rintro (_ | _)
 ·skip
  simp only [keepS,keepE,Option.getD_some,lk_cons,lkE_cons,List.cons_append,List.nil_append,Nat.reduceEqDiff,↓reduceIte,reduceCtorEq]
  simp only [zX]
  refine aS 576 (fun Q hQ=>by simp only [zS,Nat.reduceAdd,Nat.reduceEqDiff,↓reduceIte,Int.reduceLT];exact hQ) ?_
  refine aT ?_
  refine aS 624 (fun Q hQ=>by simp only [zS,Nat.reduceAdd,Nat.reduceEqDiff,Int.reduceToNat,↓reduceIte,Int.reduceLT,Int.reduceLE];exact hQ) ?_
  refine aS 720 (fun Q hQ=>by simp only [zS,Nat.reduceAdd,Nat.reduceEqDiff,↓reduceIte];exact hQ) ?_
  refine aw_loopK (X:=Bool) [1,2,7,9,29,30,31,36,37] (fun q=>[(38,I (if q = true then 1 else 0))]) [16,656] (fun q=>(if q = true then [(416,.arr 103 1 [[.v (.slice none 0 0)],[.v (.slice none 0 0)],[.osl 1376]] false),(1376,.arr 105 2 [[.v (.int .i64 1),.sl [brow 120]]] false)] else [(416,.arr 103 1 [[.v (.slice none 0 0)],[.v (.slice none 0 0)],[.v (.slice none 0 0)]] false)])) (fun q=>(if q = true then 0 else 1)) (false) ?_ ?_
  ·skip
   simp only [keepS,keepE,Option.getD_some,lk_cons,lkE_cons,List.cons_append,List.nil_append,Nat.reduceEqDiff,↓reduceIte,reduceCtorEq]
   refine Le.lit [] [] _ _ ?_ ?_ ?_ ?_
   ·simp only [zL,Nat.reduceEqDiff,↓reduceIte,reduceCtorEq]
   ·simp only [zL,Nat.reduceEqDiff,↓reduceIte,reduceCtorEq]
    all_goals (simp [C.isD])
   ·simp [rlook]
   ·(simp;done)
  rintro (_ | _)
  ·skip
   simp only [keepS,keepE,Option.getD_some,lk_cons,lkE_cons,List.cons_append,List.nil_append,Nat.reduceEqDiff,↓reduceIte,reduceCtorEq]
   simp only [zX]
   refine aS 816 (fun Q hQ=>by simp only [zS,Nat.reduceAdd,Nat.reduceEqDiff,↓reduceIte,Int.reduceLT];exact hQ) ?_
   refine aT ?_
   refine aS 864 (fun Q hQ=>by simp only [zS,Nat.reduceAdd,Nat.reduceEqDiff,Int.reduceToNat,↓reduceIte,Int.reduceLT,Int.reduceLE];exact hQ) ?_
   refine aS 960 (fun Q hQ=>by simp only [zS,Nat.reduceAdd,Nat.reduceEqDiff,↓reduceIte,Int.reduceLT,Int.reduceLE];exact hQ) ?_
   refine aw_cond _ rfl trivial (fun ht=>?_) (fun hf=>by cases hf)
   refine aSD 1152 (fun Q hQ=>by simp only [zS,Nat.reduceMul,Nat.reduceAdd,Nat.reduceEqDiff,Nat.reduceLeDiff,Nat.reduceLT,Int.reduceToNat,↓reduceIte,Int.reduceLT,Int.reduceLE];repeat refine ⟨by ((simp;done)),?_⟩;exact hQ) ?_
   refine aw_reg 1456 (RG.go fun Q hQ=>?_)
   simp only [zS,Nat.reduceAdd,Nat.reduceEqDiff,Int.reduceAdd,↓reduceIte]
   refine hQ (RG.nil ?_)
   simp only [zX,↓reduceIte,reduceCtorEq]
   refine ⟨true,?_,by simp⟩
   simp only [show IntKind.i64.wrap 1 = 1 from rfl,if_true,List.set_cons_succ,List.set_cons_zero,List.cons_append,List.nil_append]
   refine Le.lit2 [] [] _ _ ?_ ?_ ?_ ?_
   ·simp only [zL,Nat.reduceEqDiff,↓reduceIte,reduceCtorEq]
   ·simp only [zL,Nat.reduceEqDiff,↓reduceIte,reduceCtorEq]
   ·simp [rlook]
   ·(simp;done)
  simp only [keepS,keepE,Option.getD_some,lk_cons,lkE_cons,List.cons_append,List.nil_append,Nat.reduceEqDiff,↓reduceIte]
  simp only [zX]
  refine aS 1552 (fun Q hQ=>by simp only [zS,Nat.reduceAdd,Nat.reduceEqDiff,↓reduceIte,Int.reduceLT];exact hQ) ?_
  refine aw_cond _ rfl trivial (fun ht=>by cases ht) (fun hf=>?_)
  simp only [zX,↓reduceIte]
  refine aw_reg 1584 (RG.go fun Q hQ=>?_)
  simp only [zS,Nat.reduceAdd,Nat.reduceEqDiff,Int.reduceAdd,↓reduceIte]
  refine hQ (RG.nil ?_)
  simp only [zX,↓reduceIte,reduceCtorEq]
  refine ⟨true,?_,by simp⟩
  simp only [show IntKind.i64.wrap 1 = 1 from rfl,if_true,List.cons_append,List.nil_append]
  refine Le.lit2 [] [] _ _ ?_ ?_ ?_ ?_
  ·simp only [zL,Nat.reduceEqDiff,↓reduceIte,reduceCtorEq]
  ·simp only [zL,Nat.reduceEqDiff,↓reduceIte,reduceCtorEq]
  ·simp [rlook]
  ·(simp;done)
 simp only [keepS,keepE,Option.getD_some,lk_cons,lkE_cons,List.cons_append,List.nil_append,Nat.reduceEqDiff,↓reduceIte,reduceCtorEq]
 simp only [zX]
 refine aS 1600 (fun Q hQ=>by simp only [zS,Nat.reduceAdd,Nat.reduceEqDiff,↓reduceIte,Int.reduceLT];exact hQ) ?_
 refine aw_cond _ rfl trivial (fun ht=>by cases ht) (fun hf=>?_)
 simp only [zX,↓reduceIte]
 refine aS 1648 (fun Q hQ=>by simp only [zS,Nat.reduceAdd,Nat.reduceEqDiff,Int.reduceToNat,↓reduceIte,Int.reduceLE];repeat refine ⟨by (omega),?_⟩;exact hQ) ?_
 refine aS 1744 (fun Q hQ=>by simp only [zS,Nat.reduceAdd,Nat.reduceEqDiff,↓reduceIte];exact hQ) ?_
 have cA0 : Con Try.prog 58 [.c (.sl []),I 1] [] (.tup [.c (.sl []),B false]) []:=hist_At_con [] 1 (by decide) trivial (by simp)
 have cA1 : Con Try.prog 58 [.c (.sl [[.v (.int .i64 1),.sl [brow 120]]]),I 1] [] (.tup [.c (.sl [brow 120]),B true]) []:=hist_At_con [⟨1,[120]⟩] 1 (by decide) (by simp [rise]) (by simp)
 refine aw_loopK (X:={ q : Nat // q≤3 }) [1,2,7,12,74] (fun q=>[(75,I q.1)]) [16] (fun q=>[(1680,.arr 43 1 (outR q.1) false),(416,.arr 103 1 [[.v (.slice none 0 0)],[.v (.slice none 0 0)],[.osl 1376]] false),(1376,.arr 105 2 [[.v (.int .i64 1),.sl [brow 120]]] true)]) (fun q=>3 - q.1) (⟨0,by omega⟩) ?_ ?_
 ·skip
  simp only [keepS,keepE,Option.getD_some,lk_cons,lkE_cons,List.cons_append,List.nil_append,Nat.reduceEqDiff,↓reduceIte]
  refine Le.lit2 [] [] _ _ ?_ ?_ ?_ ?_
  ·simp only [zL,Nat.reduceEqDiff,↓reduceIte,reduceCtorEq]
  ·simp only [zL,Nat.reduceEqDiff,↓reduceIte,reduceCtorEq]
   all_goals (exact ⟨rfl,.inl ⟨rfl,by simp [outR,nilR,C.isD]⟩⟩)
  ·simp [rlook]
  ·(simp;done)
 rintro ⟨q,hq⟩
 simp only [keepS,keepE,Option.getD_some,lk_cons,lkE_cons,List.cons_append,List.nil_append,Nat.reduceEqDiff,↓reduceIte]
 obtain rfl | rfl | rfl | rfl : q = 0∨q = 1∨q = 2∨q = 3:=by omega
 ·skip
  simp only [zX]
  refine aS 1824 (fun Q hQ=>by simp only [zS,Nat.reduceAdd,Nat.reduceEqDiff,↓reduceIte,Int.reduceLT];exact hQ) ?_
  refine aT ?_
  refine aS 1872 (fun Q hQ=>by simp only [zS,Nat.reduceAdd,Nat.reduceEqDiff,↓reduceIte];exact hQ) ?_
  refine aBs 1936 (fun Q hQ=>by simp only [zS,Nat.reduceAdd,Nat.reduceEqDiff,Nat.reduceLT,Int.reduceToNat,↓reduceIte,Int.reduceLT,Int.reduceLE];exact hQ) ?_
  refine rC [] (cA0) ?_ (hs:=(by exact .inr ⟨pureTB,trivial⟩))
  refine aEs (fun Q hQ=>by simp only [zS,Nat.reduceAdd,Nat.reduceEqDiff,↓reduceIte];exact hQ) ?_
  refine aS 2144 (fun Q hQ=>by simp only [zS,Nat.reduceAdd,Nat.reduceEqDiff,↓reduceIte];exact hQ) ?_
  refine aw_cond _ rfl trivial (fun ht=>?_) (fun hf=>by cases hf)
  refine aS 2208 (fun Q hQ=>by simp only [zS,Nat.reduceAdd,Nat.reduceEqDiff,Int.reduceToNat,↓reduceIte,Int.reduceLT,Int.reduceLE];repeat refine ⟨by (omega),?_⟩;exact hQ) ?_
  refine aS 2320 (fun Q hQ=>by simp only [zS,Nat.reduceAdd,Nat.reduceEqDiff,Nat.reduceLT,Int.reduceToNat,↓reduceIte,Int.reduceLT,Int.reduceLE,outR,nilR];exact hQ) ?_
  refine aS 2432 (fun Q hQ=>by simp only [zS,Nat.reduceAdd,Nat.reduceEqDiff,Int.reduceAdd,↓reduceIte];exact hQ) ?_
  refine ⟨⟨1,by omega⟩,?_,by simp⟩
  simp only [List.replicate,List.set_cons_zero]
  refine (Le.tell [2256] 1680 43 1 _ (outR 1) false rfl ?_).trans ?_
  ·exact ⟨⟨.inr (.inr ⟨_,_,_,_,rfl,rfl,rfl,by simp [isDRows,brow,C.isD]⟩),trivial⟩,⟨.inl rfl,trivial⟩,⟨.inl rfl,trivial⟩,trivial⟩
  simp only [show IntKind.i64.wrap 1 = 1 from rfl]
  refine Le.lit2 [] [] _ _ ?_ ?_ ?_ ?_
  ·simp only [zL,Nat.reduceEqDiff,↓reduceIte,reduceCtorEq]
  ·simp only [zL,Nat.reduceEqDiff,↓reduceIte,reduceCtorEq]
   all_goals (exact .inl (by simp [outR,nilR,C.isD]))
  ·simp [rlook]
  ·(simp;done)
 ·skip
  simp only [zX]
  refine aS 1824 (fun Q hQ=>by simp only [zS,Nat.reduceAdd,Nat.reduceEqDiff,↓reduceIte,Int.reduceLT];exact hQ) ?_
  refine aT ?_
  refine aS 1872 (fun Q hQ=>by simp only [zS,Nat.reduceAdd,Nat.reduceEqDiff,↓reduceIte];exact hQ) ?_
  refine aBs 1936 (fun Q hQ=>by simp only [zS,Nat.reduceAdd,Nat.reduceEqDiff,Nat.reduceLT,Int.reduceToNat,↓reduceIte,Int.reduceLT,Int.reduceLE];exact hQ) ?_
  refine rC [] (cA0) ?_ (hs:=(by exact .inr ⟨pureTB,trivial⟩))
  refine aEs (fun Q hQ=>by simp only [zS,Nat.reduceAdd,Nat.reduceEqDiff,↓reduceIte];exact hQ) ?_
  refine aS 2144 (fun Q hQ=>by simp only [zS,Nat.reduceAdd,Nat.reduceEqDiff,↓reduceIte];exact hQ) ?_
  refine aw_cond _ rfl trivial (fun ht=>?_) (fun hf=>by cases hf)
  refine aS 2208 (fun Q hQ=>by simp only [zS,Nat.reduceAdd,Nat.reduceEqDiff,Int.reduceToNat,↓reduceIte,Int.reduceLT,Int.reduceLE];repeat refine ⟨by (omega),?_⟩;exact hQ) ?_
  refine aS 2320 (fun Q hQ=>by simp only [zS,Nat.reduceAdd,Nat.reduceEqDiff,Nat.reduceLT,Int.reduceToNat,↓reduceIte,Int.reduceLT,Int.reduceLE,outR,nilR];exact hQ) ?_
  refine aS 2432 (fun Q hQ=>by simp only [zS,Nat.reduceAdd,Nat.reduceEqDiff,Int.reduceAdd,↓reduceIte];exact hQ) ?_
  refine ⟨⟨2,by omega⟩,?_,by simp⟩
  simp only [List.replicate,List.set_cons_succ,List.set_cons_zero]
  refine (Le.tell [2256] 1680 43 1 _ (outR 2) false rfl ?_).trans ?_
  ·exact ⟨⟨.inl rfl,trivial⟩,⟨.inr (.inr ⟨_,_,_,_,rfl,rfl,rfl,by simp [isDRows,brow,C.isD]⟩),trivial⟩,⟨.inl rfl,trivial⟩,trivial⟩
  simp only [show IntKind.i64.wrap 2 = 2 from rfl]
  refine Le.lit2 [] [] _ _ ?_ ?_ ?_ ?_
  ·simp only [zL,Nat.reduceEqDiff,↓reduceIte,reduceCtorEq]
  ·simp only [zL,Nat.reduceEqDiff,↓reduceIte,reduceCtorEq]
   all_goals (exact .inl (by simp [outR,nilR,C.isD]))
  ·simp [rlook]
  ·(simp;done)
 ·skip
  simp only [zX]
  refine aS 1824 (fun Q hQ=>by simp only [zS,Nat.reduceAdd,Nat.reduceEqDiff,↓reduceIte,Int.reduceLT];exact hQ) ?_
  refine aT ?_
  refine aS 1872 (fun Q hQ=>by simp only [zS,Nat.reduceAdd,Nat.reduceEqDiff,↓reduceIte];exact hQ) ?_
  refine aBs 1936 (fun Q hQ=>by simp only [zS,Nat.reduceAdd,Nat.reduceEqDiff,Nat.reduceLT,Int.reduceToNat,↓reduceIte,Int.reduceLT,Int.reduceLE];exact hQ) ?_
  refine rC [1376] (cA1) ?_ (hs:=(by exact .inr ⟨pureTB,⟨_,_,_,rfl⟩,trivial⟩))
  refine aEs (fun Q hQ=>by simp only [zS,Nat.reduceAdd,Nat.reduceEqDiff,↓reduceIte];exact hQ) ?_
  refine aS 2144 (fun Q hQ=>by simp only [zS,Nat.reduceAdd,Nat.reduceEqDiff,↓reduceIte];exact hQ) ?_
  refine aF ?_
  refine aS 2320 (fun Q hQ=>by simp only [zS,Nat.reduceAdd,Nat.reduceEqDiff,Nat.reduceLT,Int.reduceToNat,↓reduceIte,Int.reduceLT,Int.reduceLE,outR,nilR];exact hQ) ?_
  refine aS 2432 (fun Q hQ=>by simp only [zS,Nat.reduceAdd,Nat.reduceEqDiff,Int.reduceAdd,↓reduceIte];exact hQ) ?_
  refine ⟨⟨3,by omega⟩,?_,by simp⟩
  simp only [List.set_cons_succ,List.set_cons_zero,show IntKind.i64.wrap 3 = 3 from rfl]
  refine Le.lit2 [] [] _ _ ?_ ?_ ?_ ?_
  ·simp only [zL,Nat.reduceEqDiff,↓reduceIte,reduceCtorEq]
  ·simp only [zL,Nat.reduceEqDiff,↓reduceIte,reduceCtorEq]
   all_goals (exact ⟨rfl,.inl ⟨rfl,by simp [outR,C.isD]⟩⟩)
  ·simp [rlook]
  ·(simp;done)
 ·skip
  simp only [zX]
  refine aS 1824 (fun Q hQ=>by simp only [zS,Nat.reduceAdd,Nat.reduceEqDiff,↓reduceIte,Int.reduceLT];exact hQ) ?_
  refine aw_cond _ rfl trivial (fun ht=>by cases ht) (fun hf=>?_)
  simp only [zX,↓reduceIte]
  refine aS 2672 (fun Q hQ=>by simp only [zS,Nat.reduceAdd,Nat.reduceEqDiff,↓reduceIte];exact hQ) ?_
  refine Fin.data [1680] (.inr rfl) rfl (by (exact trivial)) ?_
  simp only [zL,Nat.reduceEqDiff,↓reduceIte]
  all_goals (exact ⟨⟨_,_,rfl⟩,by simp [outR,C.isD]⟩)

end Go.Abs

namespace Go.Abs
open Go Go.Proofs
set_option maxRecDepth 100000
set_option linter.unusedSimpArgs false
set_option maxHeartbeats 4000000

def cmd1 : CMD:=⟨0,0,3,1,2,[1,2],0,0,0,[]⟩
def vNil : VOL:=⟨0,3,1,2,[1,2],0,0,false,0,[],[]⟩
def cmd2 : CMD:=⟨2,0,0,0,0,[],0,0,0,[⟨2,[120]⟩]⟩
def cmd3 : CMD:=⟨0,0,0,0,0,[],0,0,0,[]⟩

theorem new1 : newR cmd1 = (vNil,0):=by rw [newR,if_pos (by decide)];rfl
theorem new3 : newR cmd3 = (zeroV,23):=by rw [newR,if_neg (by decide)]
theorem do2 : doPut vNil [⟨2,[120]⟩] = done vOne:=by rw [doPut,if_neg (by decide),if_pos (by decide)];rfl

theorem pureTA {cs : List C} {x : Value} (h : ∀ c ∈ cs,c.isD = true) : (SV.tup [.agg cs,.c (.v x)]).pureD:=by
 intro s hs
 simp only [List.mem_cons,List.not_mem_nil,or_false] at hs
 rcases hs with rfl | rfl
 ·exact h
 ·rfl
theorem pureTC {r : List (List C)} {x : Value} : (SV.tup [.c (.sl r),.c (.v x)]).pureD:=by
 intro s hs
 simp only [List.mem_cons,List.not_mem_nil,or_false] at hs
 rcases hs with rfl | rfl <;> rfl

theorem push1 : pushV vOne 1 0 = (⟨0,1,1,1,0,1,0,[⟨1,[⟨0,[120]⟩]⟩]⟩,true):=by
 rw [pushV,if_pos (by decide)];rfl

theorem mementolaw16_known_con : Con Try.prog 11 [] [] (B true) []:=by
 have cN1:=volume_New_con cmd1 (by decide)
 rw [new1] at cN1
 have cN3:=volume_New_con cmd3 (by decide)
 rw [new3] at cN3
 have cD:=volume_Do_put vNil cmd2 ⟨by decide,by decide,by decide,by decide⟩ rfl (by decide) (by decide)
 rw [show cmd2.items = [⟨2,[120]⟩] from rfl,do2] at cD
 have cP:=volume_Push_con vOne 1 0 vOne_ok vOne_right
 rw [push1] at cP
 have cR:=volume_Right_con vOne vOne_ok
 rw [vOne_right] at cR
 have cL:=volume_Low_con vOne (by decide)
 rw [show lowV vOne = 1 from rfl] at cL
 refine C_mementolaw16_known nl nl ?_
 simp only [cz,A_mementolaw16_known,argL,objL,List.length_nil,zX]
 refine aR 16 ?_
 refine aB 64 ?_
 refine rO [] [64] (cN1) ?_
 refine aEs (fun Q hQ=>by simp only [zS,simprocAttr];simp only [zS,volC,vC,vNil,simprocAttr];exact hQ) ?_
 refine aw_reg 240 (RG.go fun Q hQ=>?_)
 simp only [zS,simprocAttr]
 refine ⟨⟨by simp,by simp [isDRows,C.isD]⟩,hQ ?_⟩
 refine rO [] [304] (cD) ?_
 refine aEs (fun Q hQ=>by simp only [zS,simprocAttr];simp only [zS,volC,vC,vOne,repC,done,lenV,simprocAttr];exact hQ) ?_
 refine aB 496 ?_
 refine rC [] (volume_State_one) ?_ (hs:=(by exact .inr ⟨pureTC,trivial⟩))
 refine aE ?_
 refine aB 640 ?_
 refine rC [] (volume_State_two) ?_ (hs:=(by exact .inr ⟨pureTC,trivial⟩))
 refine aE ?_
 refine aB 784 ?_
 refine rC [] (cP) ?_ (hs:=(by exact .inr ⟨pureTA (by decide),trivial⟩))
 refine aEs (fun Q hQ=>by simp only [zS,simprocAttr];simp only [zS,pushC,puC,simprocAttr];exact hQ) ?_
 refine aB 944 ?_
 refine rC [] (cN3) ?_ (hs:=(by exact .inr ⟨pureTA (by decide),trivial⟩))
 refine aEs (fun Q hQ=>by simp only [zS,simprocAttr];simp only [zS,volC,vC,zeroV,simprocAttr];exact hQ) ?_
 refine aB 1104 ?_
 refine rG _ _ (volume_Len_con vOne) ?_
 refine RG.go fun Q hQ=>?_
 have hstr : (ByteArray.toList ⟨#[rowByte (brow 120)]⟩ == ByteArray.toList ⟨#[120]⟩) = true:=(str_eq [120] [120] (by simp) (by simp)).trans (by simp)
 simp only [zS,outR,lenV,vOne,wrow,wrC,irow,itC,hstr,simprocAttr]
 refine ⟨isByteRow_brow [120],hQ ?_⟩
 refine rG _ _ cR ?_
 refine aM ?_
 refine rG _ _ cL ?_
 refine aE ?_
 exact Fin.b (.inr rfl) rfl trivial rfl

end Go.Abs

namespace Go.Abs
open Go Go.Proofs
set_option maxRecDepth 100000
set_option linter.unusedSimpArgs false
set_option maxHeartbeats 4000000

theorem chunks_nn {b p : Int} (hb : 0≤b) (hp : 1≤p) : 0≤chunksN b p∧chunksN b p≤b + p:=by
 unfold chunksN
 rw [Int.tdiv_eq_ediv_of_nonneg (by omega)]
 exact ⟨Int.ediv_nonneg (by omega) (by omega),by have:=Int.ediv_le_self p (show 0≤b + p - 1 by omega);omega⟩

theorem mementoref16_Chunks_con (b p : Int) (hb : 0≤b∧b≤100000) (hp : 1≤p∧p≤100000) : Con Try.prog 39 [I b,I p] [] (I (chunksN b p)) []:=by
 have h:=chunks_nn hb.1 hp.1
 have w1 : IntKind.i64.wrap (b + p) = b + p:=w64 _ (by omega) (by omega)
 have w2 : IntKind.i64.wrap (b + p - 1) = b + p - 1:=w64 _ (by omega) (by omega)
 have w3 : IntKind.i64.wrap ((b + p - 1).tdiv p) = chunksN b p:=by
  show IntKind.i64.wrap (chunksN b p) = _
  exact w64 _ (by omega) (by omega)
 refine C_mementoref16_Chunks nl nl ?_
 simp only [cz,A_mementoref16_Chunks,argL,objL,List.length_nil,Nat.zero_add,zX]
 refine aw_reg 16 (RG.go fun Q hQ=>?_)
 simp only [zS,simprocAttr]
 refine hQ (RG.nil ?_)
 simp only [zX]
 refine aw_reg 64 (RG.go fun Q hQ=>?_)
 simp only [zS,w1,w2,w3,simprocAttr]
 repeat refine ⟨by (omega),?_⟩
 refine hQ (RG.nil ?_)
 simp only [zX]
 exact Fin.scalar (.inr rfl) rfl trivial rfl trivial

end Go.Abs

namespace Go.Abs
open Go Go.Proofs
set_option maxRecDepth 100000
set_option linter.unusedSimpArgs false
set_option maxHeartbeats 4000000

def pubV (v : VOL) : VOL:={ v with hid:=false,floor:=v.ws.length }
def impS (v : VOL) (c : CMD) : Option (VOL × Int) :=
 if v.hid = false then some (v,33)
 else if c.kind = 7 then (if v.next = v.total then some (pubV v,0) else some (v,33))
 else if 0≤c.index∧c.index < v.next then some (v,0)
 else if c.index≠v.next∨v.next = v.total then some (v,33)
 else if itemsR v.blocks v.size c.items = true then none else some (v,23)
def addN (v : VOL) (l : List IT) : VOL:={ addW v l with next:=v.next + 1 }

theorem vO_eq (v : VOL) (p w : C) : vO v p w = [.v (.int .i64 v.id),.v (.int .i64 v.blocks),.v (.int .i64 v.size),.v (.int .i64 v.per),.sl (v.place.map nrow),.v (.int .i64 v.total),.v (.int .i64 v.next),.v (.bool v.hid),.v (.int .i64 v.floor),p,w]:=rfl

theorem volume_imports_same (v : VOL) (c : CMD) (ok : Vok v) (hl : c.items.length≤1000000) (hd : ∀ x ∈ c.items,x.d.length≤1000000) (w : VOL) (e : Int) (h : impS v c = some (w,e)) :
  Con Try.prog 49 [.agg (vO v (.osl 0) (.osl 1)),.agg (cmdC c)] [.arr 2 1 (v.pins.map nrow) false,.arr 55 2 (v.ws.map wrow) false] (.tup [.agg (vO w (.osl 0) (.osl 1)),I e])
   [.arr 2 1 (v.pins.map nrow) false,.arr 55 2 (v.ws.map wrow) false]:=by
 unfold impS at h
 refine C_volume_imports nl nl ?_
 simp only [cz,A_volume_imports,argL,objL,List.length_nil,List.length_cons,Nat.zero_add,zX,simprocAttr]
 refine aS 16 (fun Q hQ=>by simp (disch:=intros;contradiction) only [zS,vO_eq,cmdC,cC,simprocAttr];exact hQ) ?_
 refine aR 112 ?_
 refine aw_cond _ rfl trivial (fun ht=>?_) (fun hf=>?_)
 ·skip
  try simp at ht
  simp only [zX]
  rw [if_pos ht] at h;cases h
  refine aR 208 ?_
  refine Fin.objs [] [] (.inr rfl) rfl (by exact ⟨trivial,trivial⟩) ?_ ?_ (by simp [objL,rlook]) (by (intro k hk;simp [objL,rlook];omega))
  ·simp only [zL,simprocAttr]
   all_goals ((repeat' (first | exact trivial | rfl | (simp;done) | refine ⟨?_,?_⟩)))
  ·simp only [zL,simprocAttr]
   all_goals (exact ⟨drows_nrow _,drows_wrow _⟩)
 try simp at hf
 simp only [zX]
 rw [if_neg (by simp [hf])] at h
 refine aR 288 ?_
 refine aw_cond _ rfl trivial (fun ht=>?_) (fun hf=>?_)
 ·skip
  try simp at ht
  simp only [zX]
  rw [if_pos ht.1,if_neg ht.2] at h;cases h
  refine aR 496 ?_
  refine Fin.objs [] [] (.inr rfl) rfl (by exact ⟨trivial,trivial⟩) ?_ ?_ (by simp [objL,rlook]) (by (intro k hk;simp [objL,rlook];omega))
  ·simp only [zL,simprocAttr]
   all_goals ((repeat' (first | exact trivial | rfl | (simp;done) | refine ⟨?_,?_⟩)))
  ·simp only [zL,simprocAttr]
   all_goals (exact ⟨drows_nrow _,drows_wrow _⟩)
 try simp at hf
 simp only [zX]
 refine aR 576 ?_
 refine aw_cond _ rfl trivial (fun ht=>?_) (fun hf=>?_)
 ·skip
  try simp at ht
  simp only [zX]
  rw [if_pos ht,if_pos (by exact Classical.byContradiction fun hh=>by simp_all)] at h;cases h
  refine aB 672 ?_
  refine rC [0,1] (volume_Len_con v) ?_
  refine aE ?_
  refine aR 800 ?_
  refine Fin.objs [] [] (.inr rfl) rfl (by exact ⟨trivial,trivial⟩) ?_ ?_ (by simp [objL,rlook]) (by (intro k hk;simp [objL,rlook];omega))
  ·simp only [zL,simprocAttr]
   all_goals ((repeat' (first | exact trivial | rfl | (simp;done) | refine ⟨?_,?_⟩)))
  ·simp only [zL,simprocAttr]
   all_goals (exact ⟨drows_nrow _,drows_wrow _⟩)
 try simp at hf
 simp only [zX]
 rename_i hf1
 rw [if_neg hf] at h
 refine aR 880 ?_
 refine aw_cond _ rfl trivial (fun ht=>?_) (fun hf=>?_)
 ·skip
  try simp at ht
  simp only [zX]
  rw [if_pos ht] at h;cases h
  refine aR 1088 ?_
  refine Fin.objs [] [] (.inr rfl) rfl (by exact ⟨trivial,trivial⟩) ?_ ?_ (by simp [objL,rlook]) (by (intro k hk;simp [objL,rlook];omega))
  ·simp only [zL,simprocAttr]
   all_goals ((repeat' (first | exact trivial | rfl | (simp;done) | refine ⟨?_,?_⟩)))
  ·simp only [zL,simprocAttr]
   all_goals (exact ⟨drows_nrow _,drows_wrow _⟩)
 try simp at hf
 simp only [zX]
 rw [if_neg (by omega)] at h
 refine aS 1168 (fun Q hQ=>by simp (disch:=intros;contradiction) only [zS,simprocAttr];repeat refine ⟨by ((simp;done)),?_⟩;exact hQ) ?_
 refine aw_cond _ rfl trivial (fun ht=>?_) (fun hf=>?_)
 ·skip
  try simp at ht
  simp only [zX]
  rw [if_pos (by omega)] at h;cases h
  refine aR 1408 ?_
  refine Fin.objs [] [] (.inr rfl) rfl (by exact ⟨trivial,trivial⟩) ?_ ?_ (by simp [objL,rlook]) (by (intro k hk;simp [objL,rlook];omega))
  ·simp only [zL,simprocAttr]
   all_goals ((repeat' (first | exact trivial | rfl | (simp;done) | refine ⟨?_,?_⟩)))
  ·simp only [zL,simprocAttr]
   all_goals (exact ⟨drows_nrow _,drows_wrow _⟩)
 try simp at hf
 simp only [zX]
 rw [if_neg (by omega)] at h
 cases hr : itemsR v.blocks v.size c.items with
 | true=>rw [if_pos hr] at h;cases h
 | false =>
 rw [if_neg (by simp [hr])] at h;cases h
 refine aB 1488 ?_
 refine rO [0,1] [] (volume_write_no v c.items ok hl hd hr) ?_
 refine aEs (fun Q hQ=>by simp (disch:=intros;contradiction) only [zS,vO_eq,simprocAttr];exact hQ) ?_
 refine aR 1664 ?_
 refine aF ?_
 refine aR 1728 ?_
 refine Fin.objs [] [] (.inr rfl) rfl (by exact ⟨trivial,trivial⟩) ?_ ?_ (by simp [objL,rlook]) (by (intro k hk;simp [objL,rlook];omega))
 ·simp only [zL,simprocAttr]
  all_goals ((repeat' (first | exact trivial | rfl | (simp;done) | refine ⟨?_,?_⟩)))
 ·simp only [zL,simprocAttr]
  all_goals (exact ⟨drows_nrow _,drows_wrow _⟩)

theorem volume_imports_write (v : VOL) (c : CMD) (ok : Vok v) (hl : c.items.length≤1000000) (hd : ∀ x ∈ c.items,x.d.length≤1000000) (hn : v.next≤1099511627776∧0≤v.next) (h : impS v c = none) :
  Con Try.prog 49 [.agg (vO v (.osl 0) (.osl 1)),.agg (cmdC c)] [.arr 2 1 (v.pins.map nrow) false,.arr 55 2 (v.ws.map wrow) false] (.tup [.agg (vO (addN v c.items) (.osl 0) (.osl 2)),I 0])
   [.arr 2 1 (v.pins.map nrow) false,.gone,.arr 55 2 ((addN v c.items).ws.map wrow) false]:=by
 unfold impS at h
 have h1 : v.hid = true:=Classical.byContradiction fun hh=>by rw [if_pos (by simpa using hh)] at h;cases h
 rw [if_neg (by simp [h1])] at h
 have h2 : c.kind≠7:=fun hh=>by rw [if_pos hh] at h;split at h <;> cases h
 rw [if_neg h2] at h
 have h3 : ¬ (0≤c.index∧c.index < v.next):=fun hh=>by rw [if_pos hh] at h;cases h
 rw [if_neg h3] at h
 have h4 : ¬ (c.index≠v.next∨v.next = v.total):=fun hh=>by rw [if_pos hh] at h;cases h
 rw [if_neg h4] at h
 have hr : itemsR v.blocks v.size c.items = true:=Classical.byContradiction fun hh=>by rw [if_neg hh] at h;cases h
 refine C_volume_imports nl nl ?_
 simp only [cz,A_volume_imports,argL,objL,List.length_nil,List.length_cons,Nat.zero_add,zX,simprocAttr]
 refine aS 16 (fun Q hQ=>by simp (disch:=intros;contradiction) only [zS,vO_eq,cmdC,cC,simprocAttr];exact hQ) ?_
 refine aR 112 ?_
 refine aw_cond _ rfl trivial (fun ht=>by simp [h1] at ht) (fun hf=>?_)
 simp only [zX]
 refine aR 208 ?_
 refine aw_cond _ rfl trivial (fun ht=>?_) (fun hf=>?_)
 ·skip
  try simp at ht
  simp only [zX]
  omega
 try simp at hf
 simp only [zX]
 refine aR 416 ?_
 refine aw_cond _ rfl trivial (fun ht=>?_) (fun hf=>?_)
 ·skip
  try simp at ht
  simp only [zX]
  omega
 try simp at hf
 simp only [zX]
 refine aR 512 ?_
 refine aw_cond _ rfl trivial (fun ht=>?_) (fun hf=>?_)
 ·skip
  try simp at ht
  simp only [zX]
  omega
 try simp at hf
 simp only [zX]
 refine aS 720 (fun Q hQ=>by simp (disch:=intros;contradiction) only [zS,simprocAttr];repeat refine ⟨by ((simp;done)),?_⟩;exact hQ) ?_
 refine aw_cond _ rfl trivial (fun ht=>?_) (fun hf=>?_)
 ·skip
  try simp at ht
  simp only [zX]
  omega
 try simp at hf
 simp only [zX]
 refine aB 960 ?_
 refine rO [0,1] [] (volume_write_yes v c.items ok hl hd hr) ?_
 refine aEs (fun Q hQ=>by simp (disch:=intros;contradiction) only [zS,vO_eq,simprocAttr];exact hQ) ?_
 refine aS 1136 (fun Q hQ=>by simp (disch:=intros;contradiction) only [zS,addW,simprocAttr];exact hQ) ?_
 refine aw_cond _ rfl trivial (fun ht=>?_) (fun hf=>by cases hf)
 refine aS 1200 (fun Q hQ=>by simp (disch:=first | (intros;contradiction) | omega | (simp only [zN];omega)) only [zS,zW,simprocAttr];exact hQ) ?_
 refine aR 1312 ?_
 refine Fin.objs [] [(2,1008)] (.inr rfl) rfl (by exact ⟨trivial,trivial⟩) ?_ ?_ (by simp [objL,rlook]) (by (intro k hk;simp [objL,rlook];omega))
 ·simp only [zL,simprocAttr]
  all_goals ((repeat' (first | exact trivial | rfl | (simp;done) | refine ⟨?_,?_⟩)))
 ·simp only [zL,simprocAttr]
  all_goals (exact ⟨drows_nrow _,by simp [addN,addW],drows_wrow _⟩)

end Go.Abs

namespace Go.Abs
open Go Go.Proofs
set_option maxRecDepth 100000
set_option linter.unusedSimpArgs false
set_option maxHeartbeats 4000000

def byI (l : List IT) : Prop:=∀ x ∈ l,∀ c ∈ x.d,c < 256
def byW (l : List WR) : Prop:=∀ w ∈ l,byI w.its

theorem neq_of_take {α : Type} {a b : List α} {i : Nat} (hi : i < a.length) (hj : i < b.length) (h : a[i]≠b[i]) : ¬ a = b:=by
 rintro rfl;exact h rfl
theorem take_next {α : Type} {a b : List α} {i : Nat} (hi : i < a.length) (hj : i < b.length) (he : a.take i = b.take i) (h : a[i] = b[i]) : a.take (i + 1) = b.take (i + 1):=by
 rw [take_one a i hi,take_one b i hj,he,h]
theorem it_eq {x y : IT} : x = y ↔ x.b = y.b∧x.d = y.d:=by cases x;cases y;simp
theorem wr_eq {x y : WR} : x = y ↔ x.s = y.s∧x.its = y.its:=by cases x;cases y;simp

theorem vol_eq {a b : VOL} : a = b ↔ (a.id = b.id∧a.blocks = b.blocks∧a.size = b.size∧a.per = b.per∧a.place = b.place∧a.total = b.total)∧a.next = b.next∧a.hid = b.hid∧a.floor = b.floor∧a.pins = b.pins∧a.ws = b.ws:=by
 cases a;cases b;simp [and_assoc]
instance : DecidableEq IT:=fun _ _=>decidable_of_iff _ it_eq.symm
instance : DecidableEq WR:=fun _ _=>decidable_of_iff _ wr_eq.symm
instance : DecidableEq VOL:=fun _ _=>decidable_of_iff _ vol_eq.symm

theorem mementoref13_SameItems_con (a b : List IT) (ha : a.length≤1000000) (hda : byI a) (hdb : byI b) : Con Try.prog 63 [.c (.sl (a.map irow)),.c (.sl (b.map irow))] [] (B (decide (a = b))) []:=by
 refine C_mementoref13_SameItems nl nl ?_
 simp only [cz,A_mementoref13_SameItems,argL,objL,List.length_nil,Nat.zero_add,zX]
 refine aR 16 ?_
 refine aS 64 (fun Q hQ=>by simp (disch:=intros;contradiction) only [zS,zW,simprocAttr];exact hQ) ?_
 refine aw_cond _ rfl trivial (fun ht=>?_) (fun hf=>?_)
 ·skip
  try simp at ht
  simp only [zX]
  refine aR 176 ?_
  refine Fin.b (.inr rfl) rfl trivial ?_
  rw [eq_comm,decide_eq_false_iff_not];rintro rfl;exact ht rfl
 try simp at hf
 simp only [zX]
 refine aR 224 ?_
 refine aw_loopK (X:={ i : Nat // i≤a.length∧a.take i = b.take i }) [0,1] (fun i=>[(5,I i.1)]) [] (fun i=>[]) (fun i=>a.length - i.1) (⟨0,by omega,rfl⟩) ?_ ?_
 ·skip
  simp only [keepS,keepE,lk_cons,List.cons_append,List.nil_append,simprocAttr]
  refine Le.lit [] [] _ _ ?_ ?_ ?_ ?_
  ·simp only [zL,simprocAttr]
  ·simp only [zL,simprocAttr]
  ·simp [rlook]
  ·(simp;done)
 rintro ⟨i,hi,he⟩
 simp only [keepS,keepE,lk_cons,List.cons_append,List.nil_append,simprocAttr]
 simp only [zX]
 refine aS 272 (fun Q hQ=>by simp (disch:=intros;contradiction) only [zS,zW,simprocAttr];exact hQ) ?_
 refine aw_cond _ rfl trivial (fun ht=>?_) (fun hf=>?_)
 ·skip
  try simp at ht
  simp only [zX]
  have h1 : i < a.length:=by omega
  have h2 : i < b.length:=by omega
  have hs:=str_eq a[i].d b[i].d (hda _ (List.getElem_mem h1)) (hdb _ (List.getElem_mem h2))
  refine aw_draw 368 (RG.go fun Q hQ=>?_)
  simp (disch:=first | (intros;contradiction) | omega | (simp only [zN];omega)) only [zS,zW,irow,itC,hs,simprocAttr]
  repeat refine ⟨by (first | omega | exact fun h=>⟨isByteRow_brow _,h⟩ | (simp;omega) | (simp;done)),?_⟩
  refine hQ (RG.nil ⟨by decide +kernel,?_⟩)
  simp only [zX]
  refine aw_cond _ rfl trivial (fun ht=>?_) (fun hf=>?_)
  ·skip
   try simp at ht
   simp only [zX]
   refine aR 816 ?_
   refine Fin.b (.inr rfl) rfl trivial ?_
   rw [eq_comm,decide_eq_false_iff_not]
   refine neq_of_take h1 h2 fun e=>?_
   rw [e] at ht;simp at ht
  try simp at hf
  simp only [zX]
  refine aS 864 (fun Q hQ=>by simp (disch:=first | (intros;contradiction) | omega | (simp only [zN];omega)) only [zS,zW,simprocAttr];exact hQ) ?_
  refine ⟨⟨i + 1,by omega,take_next h1 h2 he (it_eq.2 hf)⟩,?_,by first | omega | (simp only;omega)⟩
  refine Le.lit [] [] _ _ ?_ ?_ ?_ ?_
  ·simp only [zL,simprocAttr]
   all_goals (try ((repeat' (rfl))))
  ·simp only [zL,simprocAttr]
  ·simp [rlook]
  ·(simp;done)
 try simp at hf
 simp only [zX,↓reduceIte]
 have hi' : i = a.length:=by omega
 refine aR 944 ?_
 refine Fin.b (.inr rfl) rfl trivial ?_
 rw [eq_comm,decide_eq_true_iff]
 rw [List.take_of_length_le (by omega),List.take_of_length_le (by omega)] at he
 exact he

theorem mementoref13_SameWrites_con (a b : List WR) (ha : a.length≤1000000) (hl : ∀ w ∈ a,w.its.length≤1000000) (hda : byW a) (hdb : byW b) : Con Try.prog 45 [.c (.sl (a.map wrow)),.c (.sl (b.map wrow))] [] (B (decide (a = b))) []:=by
 refine C_mementoref13_SameWrites nl nl ?_
 simp only [cz,A_mementoref13_SameWrites,argL,objL,List.length_nil,Nat.zero_add,zX]
 refine aR 16 ?_
 refine aS 64 (fun Q hQ=>by simp (disch:=intros;contradiction) only [zS,zW,simprocAttr];exact hQ) ?_
 refine aw_cond _ rfl trivial (fun ht=>?_) (fun hf=>?_)
 ·skip
  try simp at ht
  simp only [zX]
  refine aR 176 ?_
  refine Fin.b (.inr rfl) rfl trivial ?_
  rw [eq_comm,decide_eq_false_iff_not];rintro rfl;exact ht rfl
 try simp at hf
 simp only [zX]
 refine aR 224 ?_
 refine aw_loopK (X:={ i : Nat // i≤a.length∧a.take i = b.take i }) [0,1] (fun i=>[(5,I i.1)]) [] (fun i=>[]) (fun i=>a.length - i.1) (⟨0,by omega,rfl⟩) ?_ ?_
 ·skip
  simp only [keepS,keepE,lk_cons,List.cons_append,List.nil_append,simprocAttr]
  refine Le.lit [] [] _ _ ?_ ?_ ?_ ?_
  ·simp only [zL,simprocAttr]
  ·simp only [zL,simprocAttr]
  ·simp [rlook]
  ·(simp;done)
 rintro ⟨i,hi,he⟩
 simp only [keepS,keepE,lk_cons,List.cons_append,List.nil_append,simprocAttr]
 simp only [zX]
 refine aS 272 (fun Q hQ=>by simp (disch:=intros;contradiction) only [zS,zW,simprocAttr];exact hQ) ?_
 refine aw_cond _ rfl trivial (fun ht=>?_) (fun hf=>?_)
 ·skip
  try simp at ht
  simp only [zX]
  have h1 : i < a.length:=by omega
  have h2 : i < b.length:=by omega
  have m1:=List.getElem_mem h1
  have m2:=List.getElem_mem h2
  refine aw_draw 368 (RG.go fun Q hQ=>?_)
  simp (disch:=first | (intros;contradiction) | omega | (simp only [zN];omega)) only [zS,zW,wrow,wrC,simprocAttr]
  repeat refine ⟨by (first | omega | (simp;omega)),?_⟩
  refine hQ ?_
  refine rG _ _ (mementoref13_SameItems_con a[i].its b[i].its (hl _ m1) (hda _ m1) (hdb _ m2)) ?_
  refine aEDs (fun Q hQ=>by simp (disch:=intros;contradiction) only [zS,simprocAttr];repeat refine ⟨by ((simp;done)),?_⟩;exact hQ) ?_
  refine aw_cond _ rfl trivial (fun ht=>?_) (fun hf=>?_)
  ·skip
   try simp at ht
   simp only [zX]
   refine aR 800 ?_
   refine Fin.b (.inr rfl) rfl trivial ?_
   rw [eq_comm,decide_eq_false_iff_not]
   refine neq_of_take h1 h2 fun e=>?_
   rw [e] at ht;simp at ht
  try simp at hf
  simp only [zX]
  refine aS 848 (fun Q hQ=>by simp (disch:=first | (intros;contradiction) | omega | (simp only [zN];omega)) only [zS,zW,simprocAttr];exact hQ) ?_
  refine ⟨⟨i + 1,by omega,take_next h1 h2 he (wr_eq.2 hf)⟩,?_,by first | omega | (simp only;omega)⟩
  refine Le.lit [] [] _ _ ?_ ?_ ?_ ?_
  ·simp only [zL,simprocAttr]
   all_goals (try ((repeat' (rfl))))
  ·simp only [zL,simprocAttr]
  ·simp [rlook]
  ·(simp;done)
 try simp at hf
 simp only [zX,↓reduceIte]
 have hi' : i = a.length:=by omega
 refine aR 928 ?_
 refine Fin.b (.inr rfl) rfl trivial ?_
 rw [eq_comm,decide_eq_true_iff]
 rw [List.take_of_length_le (by omega),List.take_of_length_le (by omega)] at he
 exact he

def shapeE (a b : VOL) : Bool:=decide (a.id = b.id) && decide (a.blocks = b.blocks) && decide (a.size = b.size) && decide (a.per = b.per) && decide (a.place = b.place) && decide (a.total = b.total)

theorem mementoref16_Shape_con (a b : VOL) (ha : a.place.length≤1000000) : Con Try.prog 43 [.agg (volC a),.agg (volC b)] [] (B (shapeE a b)) []:=by
 refine C_mementoref16_Shape nl nl ?_
 simp only [cz,A_mementoref16_Shape,argL,objL,List.length_nil,Nat.zero_add,zX]
 refine aS 16 (fun Q hQ=>by simp (disch:=intros;contradiction) only [zS,vC_eq,simprocAttr];exact hQ) ?_
 refine aB 96 ?_
 refine rG _ _ (mementoref16_sameInts_con a.place b.place ha) ?_
 refine aE ?_
 refine Fin.b (.inr rfl) rfl trivial ?_
 rfl

theorem mementoref16_Same_con (a b : VOL) (ha : Vok a) (hda : byW a.ws) (hdb : byW b.ws) : Con Try.prog 15 [.agg (volC a),.agg (volC b)] [] (B (decide (a = b))) []:=by
 obtain ⟨o1,o2,o3,o4⟩:=ha
 refine C_mementoref16_Same nl nl ?_
 simp only [cz,A_mementoref16_Same,argL,objL,List.length_nil,Nat.zero_add,zX]
 refine aS 16 (fun Q hQ=>by simp (disch:=intros;contradiction) only [zS,vC_eq,simprocAttr];exact hQ) ?_
 refine aB 96 ?_
 refine rC [] (mementoref16_Shape_con a b o1) ?_
 refine aM ?_
 refine rG _ _ (mementoref16_samePins_con a.pins b.pins o2) ?_
 refine aM ?_
 refine rG _ _ (mementoref13_SameWrites_con a.ws b.ws o3 (fun w hw=>(o4 w hw).1) hda hdb) ?_
 refine aE ?_
 refine Fin.b (.inr rfl) rfl trivial ?_
 rw [Bool.eq_iff_iff,decide_eq_true_iff,vol_eq]
 simp [shapeE,and_assoc]

end Go.Abs

namespace Go.Abs
open Go Go.Proofs
set_option maxRecDepth 100000
set_option linter.unusedSimpArgs false
set_option maxHeartbeats 4000000

theorem mementoref16_shape_con (c : CMD) (hb : c.place.length≤1000000) : Con Try.prog 42 [.agg (cmdC c)] [] (B (shapeP c.vol c.blocks c.size c.per c.place c.total)) []:=by
 refine C_mementoref16_shape nl nl ?_
 simp only [cz,A_mementoref16_shape,argL,objL,List.length_nil,zX]
 refine aS 16 (fun Q hQ=>by simp (disch:=intros;contradiction) only [zS,cmdC,cC,simprocAttr];exact hQ) ?_
 refine aw_draw 80 (RG.go fun Q hQ=>?_)
 simp (disch:=intros;contradiction) only [zS,zW,simprocAttr]
 repeat refine ⟨by ((simp;done)),?_⟩
 refine hQ ?_
 refine RG.callg _ _ [] rfl (fun hg=>⟨_,(mementoref16_Chunks_con c.blocks c.per (by simp at hg;omega) (by simp at hg;omega)),by (repeat' (first | exact tr_nil | refine tr_cons ?_ ?_ | exact tr_opt (by simpa using hg) tr_v)),trivial,by (exact .inl trivial)⟩) ?_
 refine RG.go fun Q hQ=>?_
 simp (disch:=intros;contradiction) only [zS,simprocAttr]
 repeat refine ⟨by ((simp;done)),?_⟩
 refine hQ (RG.nil ⟨by decide +kernel,?_⟩)
 simp only [zX]
 refine aw_cond _ rfl trivial (fun ht=>?_) (fun hf=>?_)
 ·skip
  try simp at ht
  simp only [zX]
  refine aR 1088 ?_
  refine Fin.b (.inr rfl) rfl trivial ?_
  rw [eq_comm,Bool.eq_false_iff]
  intro hs
  simp only [shapeP,Bool.and_eq_true,inR_iff,decide_eq_true_eq] at hs
  omega
 try simp at hf
 simp only [zX]
 have hs : shapeP c.vol c.blocks c.size c.per c.place c.total = c.place.all fun n=>inR n 1 7:=by
  have : inR c.vol 0 7 = true∧inR c.blocks 1 256 = true∧inR c.size 1 32 = true∧inR c.per 1 c.blocks = true∧(c.place.length : Int) = chunksN c.blocks c.per∧inR c.total 0 1099511627776 = true:=by
   simp only [inR_iff];omega
  obtain ⟨s1,s2,s3,s4,s5,s6⟩:=this
  simp [shapeP,s1,s2,s3,s4,s5,s6]
 refine aR 1136 ?_
 refine aw_loopK (X:={ i : Nat // i≤c.place.length∧(c.place.take i).all (fun n=>inR n 1 7) = true }) [1] (fun i=>[(3,I i.1)]) [16] (fun i=>[]) (fun i=>c.place.length - i.1) (⟨0,by omega,rfl⟩) ?_ ?_
 ·skip
  simp only [keepS,keepE,Option.getD_some,lk_cons,lkE_cons,List.cons_append,List.nil_append,simprocAttr]
  refine Le.lit [] [] _ _ ?_ ?_ ?_ ?_
  ·simp only [zL,simprocAttr]
  ·simp only [zL,↓reduceIte]
  ·simp [rlook]
  ·(simp;done)
 rintro ⟨i,hi,ha⟩
 simp only [keepS,keepE,Option.getD_some,lk_cons,lkE_cons,List.cons_append,List.nil_append,simprocAttr]
 simp only [zX]
 refine aS 1184 (fun Q hQ=>by simp (disch:=intros;contradiction) only [zS,zW,simprocAttr];exact hQ) ?_
 refine aw_cond _ rfl trivial (fun ht=>?_) (fun hf=>?_)
 ·skip
  try simp at ht
  simp only [zX]
  have h1 : i < c.place.length:=by omega
  refine aw_reg 1296 (RG.go fun Q hQ=>?_)
  simp (disch:=first | (intros;contradiction) | omega | (simp only [zN];omega)) only [zS,zW,nrow,simprocAttr]
  repeat refine ⟨by (first | omega | (simp;omega) | (simp;done)),?_⟩
  refine hQ (RG.nil ?_)
  simp only [zX]
  refine aw_cond _ rfl trivial (fun ht=>?_) (fun hf=>?_)
  ·skip
   try simp at ht
   simp only [zX]
   refine aR 1552 ?_
   refine Fin.b (.inr rfl) rfl trivial ?_
   rw [hs,all_no h1]
   rw [← Bool.not_eq_true,inR_iff];omega
  try simp at hf
  simp only [zX]
  refine aS 1600 (fun Q hQ=>by simp (disch:=first | (intros;contradiction) | omega | (simp only [zN];omega)) only [zS,zW,simprocAttr];exact hQ) ?_
  refine ⟨⟨i + 1,by omega,by rw [all_succ h1,ha,Bool.true_and,inR_iff];omega⟩,?_,by first | omega | (simp only;omega)⟩
  refine Le.lit [] [] _ _ ?_ ?_ ?_ ?_
  ·simp only [zL,simprocAttr]
   all_goals (try ((repeat' (rfl))))
  ·simp only [zL,↓reduceIte]
  ·simp [rlook]
  ·(simp;done)
 try simp at hf
 simp only [zX,↓reduceIte]
 refine aR 1680 ?_
 refine Fin.b (.inr rfl) rfl trivial ?_
 rw [hs,all_yes (by omega) ha]

theorem mementoref16_New_con (c : CMD) (hb : c.place.length≤1000000) : Con Try.prog 14 [.agg (cmdC c)] [] (.tup [.agg (volC (newR c).1),I (newR c).2]) []:=by
 refine C_mementoref16_New nl nl ?_
 simp only [cz,A_mementoref16_New,argL,objL,List.length_nil,zX]
 refine aS 16 (fun Q hQ=>by simp (disch:=intros;contradiction) only [zS,cmdC,cC,simprocAttr];exact hQ) ?_
 refine aB 96 ?_
 refine rC [] (mementoref16_shape_con c hb) ?_
 refine aE ?_
 refine aw_cond _ rfl trivial (fun ht=>?_) (fun hf=>?_)
 ·skip
  try simp at ht
  simp only [zX]
  have hn : newR c = (zeroV,23):=by unfold newR;rw [if_neg (by rw [show shapeV (newV c) = shapeP c.vol c.blocks c.size c.per c.place c.total from rfl,ht];simp)]
  rw [hn]
  refine aR 176 ?_
  refine Fin.data [] (.inr rfl) rfl (by (exact ⟨trivial,trivial⟩)) ?_
  simp only [zL,simprocAttr]
  all_goals ((repeat' (first | exact trivial | rfl | refine ⟨?_,?_⟩)))
 try simp at hf
 simp only [zX]
 have hn : newR c = (newV c,0):=by unfold newR;rw [if_pos (show shapeV (newV c) = true from hf)]
 rw [hn]
 refine aSD 256 (fun Q hQ=>by simp (disch:=intros;contradiction) only [zS,zW,simprocAttr];repeat refine ⟨by (exact ⟨by (intro q hq;obtain ⟨_,_,rfl⟩:=List.mem_map.1 hq;rfl),by omega⟩),?_⟩;exact hQ) ?_
 refine Fin.data [416] (.inr rfl) rfl (by (exact ⟨trivial,trivial⟩)) ?_
 simp only [zL,simprocAttr]
 all_goals ((repeat' (first | exact trivial | rfl | (refine ⟨⟨_,_,rfl⟩,?_⟩;(exact drows_nrow _)) | refine ⟨?_,?_⟩)))

theorem mementoref16_own_con (l : List IT) (hl : l.length≤1000000) (hd : ∀ x ∈ l,x.d.length≤1000000) : Con Try.prog 82 [.c (.sl (l.map irow))] [] (.c (.osl 0)) [.arr 76 2 (l.map irow) false]:=by
 refine C_mementoref16_own nl nl ?_
 simp only [cz,A_mementoref16_own,argL,objL,List.length_nil,zX]
 refine aR 16 ?_
 refine aR 64 ?_
 refine aR 112 ?_
 refine aw_loopK (X:={ i : Nat // i≤l.length }) [0] (fun i=>[(3,.c (.osl 5000)),(4,I i.1)]) [] (fun i=>[(5000,.arr 76 2 ((l.take i.1).map irow) false)]) (fun i=>l.length - i.1) (⟨0,by omega⟩) ?_ ?_
 ·skip
  simp only [keepS,keepE,lk_cons,List.cons_append,List.nil_append,↓reduceIte]
  refine (Le.own 3 5000 76 2 rfl rfl (by decide)).trans ?_
  simp only [setS_cons,setE_nil,simprocAttr]
  refine Le.lit [] [] _ _ ?_ ?_ ?_ ?_
  ·simp only [zL,simprocAttr]
  ·simp only [zL,simprocAttr]
   all_goals (try ((repeat' (((simp [C.isD];done))))))
  ·simp [rlook]
  ·(simp;done)
 rintro ⟨i,hi⟩
 simp only [keepS,keepE,lk_cons,List.cons_append,List.nil_append,↓reduceIte]
 simp only [zX]
 refine aS 160 (fun Q hQ=>by simp (disch:=intros;contradiction) only [zS,zW,simprocAttr];exact hQ) ?_
 refine aw_cond _ rfl trivial (fun ht=>?_) (fun hf=>?_)
 ·skip
  try simp at ht
  simp only [zX]
  have hdl:=hd _ (List.getElem_mem (show i < l.length by omega))
  refine aw_draw 256 (RG.go fun Q hQ=>?_)
  simp (disch:=first | (intros;contradiction) | omega | (simp only [zN];omega)) only [zS,zW,irow,itC,simprocAttr]
  repeat refine ⟨by (first | omega | exact ⟨by (intro q hq;obtain ⟨_,_,rfl⟩:=List.mem_map.1 hq;rfl),by omega⟩ | (simp;omega)),?_⟩
  refine hQ (RG.nil ⟨by decide +kernel,?_⟩)
  simp only [zX]
  refine aS 544 (fun Q hQ=>by simp (disch:=first | (intros;contradiction) | omega | (simp only [zN];omega)) only [zS,zW,simprocAttr];exact hQ) ?_
  refine ⟨⟨i + 1,by omega⟩,?_,by first | omega | (simp only;omega)⟩
  refine (Le.tell [432] 480 76 2 _ ((l.take (i + 1)).map irow) false rfl (by rw [take_one l i (by omega),List.map_append];refine tell_app ?_ _;exact ⟨⟨.inl rfl,.inr (.inr ⟨_,_,_,_,rfl,rfl,rfl,drows_brow _⟩),trivial⟩,trivial⟩)).trans ?_
  refine Le.lit [] [(5000,480)] _ _ ?_ ?_ ?_ ?_
  ·simp only [zL,simprocAttr]
   all_goals (try ((repeat' (rfl))))
  ·simp only [zL,simprocAttr]
   all_goals (try ((repeat' ((exact drows_irow _)))))
  ·simp [rlook]
  ·(simp;done)
 try simp at hf
 simp only [zX,↓reduceIte]
 obtain rfl : i = l.length:=by omega
 refine aS 624 (fun Q hQ=>by simp (disch:=intros;contradiction) only [zS,zW,simprocAttr];exact hQ) ?_
 refine Fin.objs [] [(0,5000)] (.inr rfl) rfl (by exact trivial) ?_ ?_ (by simp [objL,rlook]) (by (simp [objL,rlook];done))
 ·simp only [zL,simprocAttr]
 ·simp only [zL,simprocAttr]
  all_goals (try ((repeat' ((exact drows_irow _)))))

theorem ownD_con (l : List IT) (hl : l.length≤1000000) (hd : ∀ x ∈ l,x.d.length≤1000000) : Con Try.prog 82 [.c (.sl (l.map irow))] [] (.c (.sl (l.map irow))) [] :=
 (mementoref16_own_con l hl hd).rows (drows_irow l)

theorem mementoref16_write_con (v : VOL) (l : List IT) (hv : v.ws.length≤1000000) (hl : l.length≤1000000) (hd : ∀ x ∈ l,x.d.length≤1000000) : Con Try.prog 69 [.agg (volC v),.c (.sl (l.map irow))] [] (.agg (volC (addW v l))) []:=by
 refine C_mementoref16_write nl nl ?_
 simp only [cz,A_mementoref16_write,argL,objL,List.length_nil,Nat.zero_add,zX]
 refine aS 16 (fun Q hQ=>by simp (disch:=intros;contradiction) only [zS,vC_eq,simprocAttr];exact hQ) ?_
 refine aBDs 80 (fun Q hQ=>by simp (disch:=intros;contradiction) only [zS,zW,simprocAttr];repeat refine ⟨by (exact ⟨by (intro q hq;obtain ⟨_,_,rfl⟩:=List.mem_map.1 hq;rfl),by omega⟩),?_⟩;exact hQ) ?_
 refine rC [] (mementoref16_Len_con v) ?_
 refine aMs (fun Q hQ=>by simp (disch:=first | (intros;contradiction) | omega | (simp only [zN];omega)) only [zS,zW,lenV,simprocAttr];exact hQ) ?_
 refine rC [] (ownD_con l hl hd) ?_
 refine aEDs (fun Q hQ=>by simp (disch:=intros;contradiction) only [zS,zW,simprocAttr];repeat refine ⟨by ((simp;omega)),?_⟩;exact hQ) ?_
 have hE : (addW v l).ws.map wrow = v.ws.map wrow ++ [wrC (v.ws.length + 1) l]:=by simp [addW,wrow]
 have hE2 : volC (addW v l) = [.v (.int .i64 v.id),.v (.int .i64 v.blocks),.v (.int .i64 v.size),.v (.int .i64 v.per),.sl (v.place.map nrow),.v (.int .i64 v.total),.v (.int .i64 v.next),.v (.bool v.hid),.v (.int .i64 v.floor),.sl (v.pins.map nrow),.sl ((addW v l).ws.map wrow)]:=rfl
 have hdr : isDRows (v.ws.map wrow ++ [wrC (v.ws.length + 1) l]):=by rw [← hE];exact drows_wrow _
 rw [hE2,hE]
 refine aR 320 ?_
 refine Fin.data [240] (.inr rfl) rfl (by (exact ⟨trivial,trivial⟩)) ?_
 simp only [zL,simprocAttr]
 all_goals ((repeat' (first | exact trivial | rfl | (refine ⟨⟨_,_,rfl⟩,?_⟩;(assumption)) | refine ⟨?_,?_⟩)))

end Go.Abs

namespace Go.Abs
open Go Go.Proofs
set_option maxRecDepth 100000
set_option linter.unusedSimpArgs false
set_option maxHeartbeats 4000000

def insP (t : Int) (l : List Int) : List Int:=l.takeWhile (fun x=>decide (x≤t)) ++ t :: l.dropWhile (fun x=>decide (x≤t))
def delP (t : Int) : List Int→List Int
 | []=>[]
 | x :: l=>if x = t then l else x :: delP t l
def doPrune (v : VOL) (t : Int) : DO:=if v.hid = true then fail v 28 else if t < v.floor then fail v 30 else if lowV v < t then fail v 31 else done { v with floor:=t }
def doPin (v : VOL) (t : Int) : DO:=if v.hid = true then fail v 28 else if t < v.floor then fail v 30 else if lenV v < t then fail v 31 else done { v with pins:=insP t v.pins }
def doUnpin (v : VOL) (t : Int) : DO:=if v.hid = true then fail v 28 else if t ∈ v.pins then done { v with pins:=delP t v.pins } else fail v 28
def doImp (v : VOL) (c : CMD) : DO:=match impS v c with
 | none=>done (addN v c.items)
 | some (w,e)=>if e = 0 then done w else fail v e
def doV (v : VOL) (c : CMD) : DO :=
 if c.kind = 2 then doPut v c.items else if c.kind = 3 then doPrune v c.at' else if c.kind = 4 then doPin v c.at' else if c.kind = 5 then doUnpin v c.at'
 else if c.kind = 6∨c.kind = 7 then doImp v c else if c.kind = 8 then done v else fail v 23

theorem volC_pure (v : VOL) : (SV.agg (volC v)).pureD:=by
 intro c hc
 simp only [vC_eq,List.mem_cons,List.not_mem_nil,or_false] at hc
 rcases hc with rfl | rfl | rfl | rfl | rfl | rfl | rfl | rfl | rfl | rfl | rfl <;> rfl
abbrev doneR (v : VOL) (d : DO) : SV:=.tup [.agg (volC d.v),I d.e]

theorem done_put (v : VOL) (c : CMD) (ok : Vok v) (hk : c.kind = 2) (hl : c.items.length≤1000000) (hd : ∀ x ∈ c.items,x.d.length≤1000000) :
  Con Try.prog 50 [.agg (volC v),.agg (cmdC c)] [] (doneR v (doV v c)) []:=by
 rw [show doV v c = doPut v c.items from by unfold doV;rw [if_pos hk]]
 refine C_mementoref16_done nl nl ?_
 simp only [cz,A_mementoref16_done,argL,objL,List.length_nil,Nat.zero_add,zX]
 refine aS 16 (fun Q hQ=>by simp (disch:=intros;contradiction) only [zS,vC_eq,cmdC,cC,hk,simprocAttr];exact hQ) ?_
 refine aR 112 ?_
 refine aR 176 ?_
 refine aT ?_
 refine aT ?_
 refine aR 240 ?_
 refine aw_cond _ rfl trivial (fun ht=>?_) (fun hf=>?_)
 ·skip
  try simp at ht
  simp only [zX]
  rw [show doPut v c.items = fail v 28 from by unfold doPut;rw [if_pos ht]]
  refine aR 304 ?_
  refine Fin.data [] (.inr rfl) rfl (by (exact ⟨trivial,trivial⟩)) ?_
  simp only [zL,simprocAttr]
  all_goals ((repeat' (first | exact trivial | rfl | refine ⟨?_,?_⟩)))
 try simp at hf
 simp only [zX]
 have hf0:=hf
 refine aR 384 ?_
 refine aR 448 ?_
 refine aT ?_
 refine aB 512 ?_
 refine rC [] (mementoref13_ItemsRight_con v.blocks v.size c.items hl hd) ?_
 refine aE ?_
 refine aw_cond _ rfl trivial (fun ht=>?_) (fun hf=>?_)
 ·skip
  try simp at ht
  simp only [zX]
  rw [show doPut v c.items = fail v 23 from by unfold doPut;rw [if_neg (by simp [hf]),if_neg (by simp [ht])]]
  refine aR 672 ?_
  refine Fin.data [] (.inr rfl) rfl (by (exact ⟨trivial,trivial⟩)) ?_
  simp only [zL,simprocAttr]
  all_goals ((repeat' (first | exact trivial | rfl | refine ⟨?_,?_⟩)))
 try simp at hf
 simp only [zX]
 rw [show doPut v c.items = done (addW v c.items) from by unfold doPut;rw [if_neg (by simp [hf0]),if_pos hf]]
 refine aB 752 ?_
 refine rC [] (mementoref16_write_con v c.items ok.ws hl hd) ?_ (hs:=(by exact .inr ⟨volC_pure _,trivial⟩))
 refine aEs (fun Q hQ=>by simp (disch:=intros;contradiction) only [zS,vC_eq,simprocAttr];exact hQ) ?_
 refine Fin.data [] (.inr rfl) rfl (by (exact ⟨trivial,trivial⟩)) ?_
 simp only [zL,simprocAttr]
 all_goals ((repeat' (first | exact trivial | rfl | refine ⟨?_,?_⟩)))

theorem done_prune (v : VOL) (c : CMD) (ok : Vok v) (hk : c.kind = 3) :
  Con Try.prog 50 [.agg (volC v),.agg (cmdC c)] [] (doneR v (doV v c)) []:=by
 rw [show doV v c = doPrune v c.at' from by unfold doV;rw [if_neg (by omega),if_pos hk]]
 unfold doPrune
 refine C_mementoref16_done nl nl ?_
 simp only [cz,A_mementoref16_done,argL,objL,List.length_nil,Nat.zero_add,zX]
 refine aS 16 (fun Q hQ=>by simp (disch:=intros;contradiction) only [zS,vC_eq,cmdC,cC,hk,simprocAttr];exact hQ) ?_
 refine aR 112 ?_
 refine aR 176 ?_
 refine aF ?_
 refine aR 240 ?_
 refine aT ?_
 refine aT ?_
 refine aR 304 ?_
 refine aw_cond _ rfl trivial (fun ht=>?_) (fun hf=>?_)
 ·skip
  try simp at ht
  simp only [zX]
  rw [if_pos ht]
  refine aR 368 ?_
  refine Fin.data [] (.inr rfl) rfl (by (exact ⟨trivial,trivial⟩)) ?_
  simp only [zL,simprocAttr]
  all_goals ((repeat' (first | exact trivial | rfl | refine ⟨?_,?_⟩)))
 try simp at hf
 simp only [zX]
 rw [if_neg (by simp [hf])]
 refine aR 448 ?_
 refine aR 512 ?_
 refine aF ?_
 refine aR 576 ?_
 refine aT ?_
 refine aR 640 ?_
 refine aw_cond _ rfl trivial (fun ht=>?_) (fun hf=>?_)
 ·skip
  try simp at ht
  simp only [zX]
  rw [if_pos ht]
  refine aR 752 ?_
  refine Fin.data [] (.inr rfl) rfl (by (exact ⟨trivial,trivial⟩)) ?_
  simp only [zL,simprocAttr]
  all_goals ((repeat' (first | exact trivial | rfl | refine ⟨?_,?_⟩)))
 try simp at hf
 simp only [zX]
 rw [if_neg (by omega)]
 refine aBD 832 ?_
 refine rC [] (mementoref16_Low_con v ok.pins) ?_
 refine aED ?_
 refine aw_cond _ rfl trivial (fun ht=>?_) (fun hf=>?_)
 ·skip
  try simp at ht
  simp only [zX]
  rw [if_pos ht]
  refine aR 944 ?_
  refine Fin.data [] (.inr rfl) rfl (by (exact ⟨trivial,trivial⟩)) ?_
  simp only [zL,simprocAttr]
  all_goals ((repeat' (first | exact trivial | rfl | refine ⟨?_,?_⟩)))
 try simp at hf
 simp only [zX]
 rw [if_neg (by omega)]
 refine aR 1024 ?_
 refine aR 1120 ?_
 refine Fin.data [] (.inr rfl) rfl (by (exact ⟨trivial,trivial⟩)) ?_
 simp only [zL,simprocAttr]
 all_goals ((repeat' (first | exact trivial | rfl | refine ⟨?_,?_⟩)))

theorem done_stat (v : VOL) (c : CMD) (hk : c.kind = 8) :
  Con Try.prog 50 [.agg (volC v),.agg (cmdC c)] [] (doneR v (doV v c)) []:=by
 rw [show doV v c = done v from by unfold doV;rw [if_neg (by omega),if_neg (by omega),if_neg (by omega),if_neg (by omega),if_neg (by omega),if_pos hk]]
 refine C_mementoref16_done nl nl ?_
 simp only [cz,A_mementoref16_done,argL,objL,List.length_nil,Nat.zero_add,zX]
 refine aS 16 (fun Q hQ=>by simp (disch:=intros;contradiction) only [zS,vC_eq,cmdC,cC,hk,simprocAttr];exact hQ) ?_
 refine aR 112 ?_
 refine aR 176 ?_
 refine aF ?_
 refine aR 240 ?_
 refine aF ?_
 refine aR 304 ?_
 refine aw_cond _ rfl trivial (fun ht=>by cases ht) (fun hf=>?_)
 refine aR 368 ?_
 refine aF ?_
 refine aR 432 ?_
 refine aR 496 ?_
 refine aF ?_
 refine aR 560 ?_
 refine aF ?_
 refine aR 624 ?_
 refine aF ?_
 refine aR 688 ?_
 refine aF ?_
 refine aR 752 ?_
 refine aF ?_
 refine aR 816 ?_
 refine aF ?_
 refine aR 880 ?_
 refine aT ?_
 refine aR 944 ?_
 refine Fin.data [] (.inr rfl) rfl (by (exact ⟨trivial,trivial⟩)) ?_
 simp only [zL,simprocAttr]
 all_goals ((repeat' (first | exact trivial | rfl | refine ⟨?_,?_⟩)))

theorem done_other (v : VOL) (c : CMD) (hk : c.kind < 2∨8 < c.kind) :
  Con Try.prog 50 [.agg (volC v),.agg (cmdC c)] [] (doneR v (doV v c)) []:=by
 rw [show doV v c = fail v 23 from by unfold doV;rw [if_neg (by omega),if_neg (by omega),if_neg (by omega),if_neg (by omega),if_neg (by omega),if_neg (by omega)]]
 have h2 : (c.kind == 2) = false:=by rw [beq_eq_false_iff_ne];omega
 have h3 : (c.kind == 3) = false:=by rw [beq_eq_false_iff_ne];omega
 have h4 : (c.kind == 4) = false:=by rw [beq_eq_false_iff_ne];omega
 have h5 : (c.kind == 5) = false:=by rw [beq_eq_false_iff_ne];omega
 have h6 : (c.kind == 6) = false:=by rw [beq_eq_false_iff_ne];omega
 have h7 : (c.kind == 7) = false:=by rw [beq_eq_false_iff_ne];omega
 have h8 : (c.kind == 8) = false:=by rw [beq_eq_false_iff_ne];omega
 refine C_mementoref16_done nl nl ?_
 simp only [cz,A_mementoref16_done,argL,objL,List.length_nil,Nat.zero_add,zX]
 refine aS 16 (fun Q hQ=>by simp (disch:=intros;contradiction) only [zS,vC_eq,cmdC,cC,simprocAttr];exact hQ) ?_
 refine aR 112 ?_
 refine aS 176 (fun Q hQ=>by simp (disch:=intros;contradiction) only [zS,h2,simprocAttr];exact hQ) ?_
 refine aF ?_
 refine aS 240 (fun Q hQ=>by simp (disch:=intros;contradiction) only [zS,h3,simprocAttr];exact hQ) ?_
 refine aF ?_
 refine aS 304 (fun Q hQ=>by simp (disch:=intros;contradiction) only [zS,h4,simprocAttr];exact hQ) ?_
 refine aw_cond _ rfl trivial (fun ht=>by cases ht) (fun hf=>?_)
 refine aS 368 (fun Q hQ=>by simp (disch:=intros;contradiction) only [zS,h5,simprocAttr];exact hQ) ?_
 refine aF ?_
 refine aR 432 ?_
 refine aS 496 (fun Q hQ=>by simp (disch:=intros;contradiction) only [zS,h2,simprocAttr];exact hQ) ?_
 refine aF ?_
 refine aS 560 (fun Q hQ=>by simp (disch:=intros;contradiction) only [zS,h3,simprocAttr];exact hQ) ?_
 refine aF ?_
 refine aS 624 (fun Q hQ=>by simp (disch:=intros;contradiction) only [zS,h4,simprocAttr];exact hQ) ?_
 refine aF ?_
 refine aS 688 (fun Q hQ=>by simp (disch:=intros;contradiction) only [zS,h5,simprocAttr];exact hQ) ?_
 refine aF ?_
 refine aS 752 (fun Q hQ=>by simp (disch:=intros;contradiction) only [zS,h6,simprocAttr];exact hQ) ?_
 refine aF ?_
 refine aS 816 (fun Q hQ=>by simp (disch:=intros;contradiction) only [zS,h7,simprocAttr];exact hQ) ?_
 refine aF ?_
 refine aS 880 (fun Q hQ=>by simp (disch:=intros;contradiction) only [zS,h8,simprocAttr];exact hQ) ?_
 refine aF ?_
 refine aR 944 ?_
 refine Fin.data [] (.inr rfl) rfl (by (exact ⟨trivial,trivial⟩)) ?_
 simp only [zL,simprocAttr]
 all_goals ((repeat' (first | exact trivial | rfl | refine ⟨?_,?_⟩)))

end Go.Abs

namespace Go.Abs
open Go Go.Proofs
set_option maxRecDepth 100000
set_option linter.unusedSimpArgs false
set_option maxHeartbeats 4000000

theorem while_of {p : Int→Bool} : ∀ {l : List Int} {k : Nat},(l.take k).all p = true→(∀ h : k < l.length,p l[k] = false)→l.takeWhile p = l.take k∧l.dropWhile p = l.drop k
 | [],k,_,_=>by simp
 | x :: l,0,_,h=>by
  have:=h (by simp)
  simp at this
  simp [this]
 | x :: l,k + 1,ha,h=>by
  simp only [List.take_succ_cons,List.all_cons,Bool.and_eq_true] at ha
  obtain ⟨h1,h2⟩:=while_of (l:=l) (k:=k) ha.2 (fun hk=>by have:=h (by simp;omega);simpa using this)
  simp [ha.1,h1,h2]
theorem delP_at {t : Int} : ∀ {l : List Int} {k : Nat} (hk : k < l.length),l[k] = t→(∀ x ∈ l.take k,x≠t)→delP t l = l.take k ++ l.drop (k + 1)
 | x :: l,0,_,h,_=>by simp at h;simp [delP,h]
 | x :: l,k + 1,hk,h,hn=>by
  have hx : x≠t:=hn x (by simp)
  have ih:=delP_at (l:=l) (k:=k) (by simpa using hk) (by simpa using h) (fun y hy=>hn y (by simp [hy]))
  simp [delP,hx,ih]

theorem take_ne {l : List Int} {k : Nat} {t : Int} (h1 : k < l.length) (h : ∀ x ∈ l.take k,x≠t) (hk : l[k]≠t) : ∀ x ∈ l.take (k + 1),x≠t:=by
 intro x hx
 rw [take_one _ _ h1] at hx
 rcases List.mem_append.1 hx with h2 | h2
 ·exact h x h2
 ·rw [List.mem_singleton.1 h2];exact hk
theorem doneR_pins (v : VOL) (p : List Int) : doneR v (done { v with pins:=p }) = .tup [.agg (vO v (.sl (p.map nrow)) (.sl (v.ws.map wrow))),I 0]:=rfl
theorem done_pin (v : VOL) (c : CMD) (ok : Vok v) (hk : c.kind = 4) :
  Con Try.prog 50 [.agg (volC v),.agg (cmdC c)] [] (doneR v (doV v c)) []:=by
 rw [show doV v c = doPin v c.at' from by unfold doV;rw [if_neg (by omega),if_neg (by omega),if_pos hk]]
 unfold doPin
 have o2:=ok.pins
 refine C_mementoref16_done nl nl ?_
 simp only [cz,A_mementoref16_done,argL,objL,List.length_nil,Nat.zero_add,zX]
 refine aS 16 (fun Q hQ=>by simp (disch:=intros;contradiction) only [zS,vC_eq,cmdC,cC,hk,simprocAttr];exact hQ) ?_
 refine aR 112 ?_
 refine aR 176 ?_
 refine aF ?_
 refine aR 240 ?_
 refine aF ?_
 refine aR 304 ?_
 refine aT ?_
 refine aT ?_
 refine aR 368 ?_
 refine aw_cond _ rfl trivial (fun ht=>?_) (fun hf=>?_)
 ·skip
  try simp at ht
  simp only [zX]
  rw [if_pos ht]
  refine aR 432 ?_
  refine Fin.data [] (.inr rfl) rfl (by (exact ⟨trivial,trivial⟩)) ?_
  simp only [zL,simprocAttr]
  all_goals ((repeat' (first | exact trivial | rfl | refine ⟨?_,?_⟩)))
 try simp at hf
 simp only [zX]
 rw [if_neg (by simp [hf])]
 refine aR 512 ?_
 refine aR 576 ?_
 refine aF ?_
 refine aR 640 ?_
 refine aF ?_
 refine aR 704 ?_
 refine aT ?_
 refine aR 768 ?_
 refine aw_cond _ rfl trivial (fun ht=>?_) (fun hf=>?_)
 ·skip
  try simp at ht
  simp only [zX]
  rw [if_pos ht]
  refine aR 880 ?_
  refine Fin.data [] (.inr rfl) rfl (by (exact ⟨trivial,trivial⟩)) ?_
  simp only [zL,simprocAttr]
  all_goals ((repeat' (first | exact trivial | rfl | refine ⟨?_,?_⟩)))
 try simp at hf
 simp only [zX]
 rw [if_neg (by omega)]
 refine aBD 960 ?_
 refine rC [] (mementoref16_Len_con v) ?_
 refine aED ?_
 refine aw_cond _ rfl trivial (fun ht=>?_) (fun hf=>?_)
 ·skip
  try simp at ht
  simp only [zX]
  rw [if_pos ht]
  refine aR 1072 ?_
  refine Fin.data [] (.inr rfl) rfl (by (exact ⟨trivial,trivial⟩)) ?_
  simp only [zL,simprocAttr]
  all_goals ((repeat' (first | exact trivial | rfl | refine ⟨?_,?_⟩)))
 try simp at hf
 simp only [zX]
 rw [if_neg (by omega)]
 refine aR 1152 ?_
 refine aw_loopK (X:={ k : Nat // k≤v.pins.length∧(v.pins.take k).all (fun x=>decide (x≤c.at')) = true }) [2,3,4] (fun k=>[(6,I k.1)]) [16,32,48] (fun k=>[]) (fun k=>v.pins.length - k.1) (⟨0,by omega,rfl⟩) ?_ ?_
 ·skip
  simp only [keepS,keepE,Option.getD_some,lk_cons,lkE_cons,List.cons_append,List.nil_append,simprocAttr]
  refine Le.lit [] [] _ _ ?_ ?_ ?_ ?_
  ·simp only [zL,simprocAttr]
  ·simp only [zL,simprocAttr]
  ·simp [rlook]
  ·(simp;done)
 rintro ⟨k,hk1,hk2⟩
 simp only [keepS,keepE,Option.getD_some,lk_cons,lkE_cons,List.cons_append,List.nil_append,simprocAttr]
 simp only [zX]
 by_cases h1 : k < v.pins.length
 ·skip
  refine aSD 1200 (fun Q hQ=>by simp (disch:=first | (intros;contradiction) | omega | (simp only [zN];omega)) only [zS,zW,nrow,simprocAttr];repeat refine ⟨by ((simp;done)),?_⟩;exact hQ) ?_
  refine aw_cond _ rfl trivial (fun ht=>?_) (fun hf=>?_)
  ·skip
   try simp at ht
   simp only [zX]
   refine aS 1472 (fun Q hQ=>by simp (disch:=first | (intros;contradiction) | omega | (simp only [zN];omega)) only [zS,zW,simprocAttr];exact hQ) ?_
   refine ⟨⟨k + 1,h1,by rw [all_succ h1,hk2];simp;omega⟩,?_,by first | omega | (simp only;omega)⟩
   refine Le.lit [] [] _ _ ?_ ?_ ?_ ?_
   ·simp only [zL,simprocAttr]
    all_goals (try ((repeat' (rfl))))
   ·simp only [zL,simprocAttr]
   ·simp [rlook]
   ·(simp;done)
  try simp at hf
  simp only [zX,↓reduceIte]
  obtain ⟨w1,w2⟩:=while_of (p:=fun x=>decide (x≤c.at')) hk2 (fun _=>by simp;omega)
  rw [show insP c.at' v.pins = v.pins.take k ++ c.at' :: v.pins.drop k from by unfold insP;rw [w1,w2]]
  refine aw_draw 1552 (RG.go fun Q hQ=>?_)
  simp (disch:=intros;contradiction) only [zS,zW,simprocAttr]
  repeat refine ⟨by (first | exact ⟨by (intro q hq;obtain ⟨_,_,rfl⟩:=List.mem_map.1 hq;rfl),by omega⟩ | (simp;omega) | (refine ⟨?_,?_⟩ <;> (repeat' (first | omega | (intro q hq;obtain ⟨_,_,rfl⟩:=List.mem_map.1 hq;rfl) | refine ⟨?_,?_⟩)))),?_⟩
  refine hQ (RG.nil ⟨by decide +kernel,?_⟩)
  simp only [zX]
  have hp : (v.pins.take k ++ c.at' :: v.pins.drop k).map nrow = (v.pins.take k).map nrow ++ [[.v (.int .i64 c.at')]] ++ (v.pins.drop k).map nrow:=by simp [nrow]
  have hdr:=drows_nrow (v.pins.take k ++ c.at' :: v.pins.drop k)
  rw [hp] at hdr
  rw [doneR_pins,hp,vO_eq]
  refine aR 1840 ?_
  refine Fin.data [1760] (.inr rfl) rfl (by (exact ⟨trivial,trivial⟩)) ?_
  simp only [zL,simprocAttr]
  all_goals ((repeat' (first | exact trivial | rfl | (refine ⟨⟨_,_,rfl⟩,?_⟩;(assumption)) | refine ⟨?_,?_⟩)))
 refine aw_draw 1920 (RG.go fun Q hQ=>?_)
 simp (disch:=first | (intros;contradiction) | omega | (simp only [zN];omega)) only [zS,zW,simprocAttr]
 repeat refine ⟨by ((simp;omega)),?_⟩
 refine hQ (RG.nil ⟨by decide +kernel,?_⟩)
 simp only [zX]
 refine aw_cond _ rfl trivial (fun ht=>by simp at ht) (fun hf=>?_)
 simp only [zX,↓reduceIte]
 obtain ⟨w1,w2⟩:=while_of (p:=fun x=>decide (x≤c.at')) hk2 (fun h=>absurd h h1)
 rw [show insP c.at' v.pins = v.pins.take k ++ c.at' :: v.pins.drop k from by unfold insP;rw [w1,w2]]
 refine aw_draw 2192 (RG.go fun Q hQ=>?_)
 simp (disch:=intros;contradiction) only [zS,zW,simprocAttr]
 repeat refine ⟨by (first | exact ⟨by (intro q hq;obtain ⟨_,_,rfl⟩:=List.mem_map.1 hq;rfl),by omega⟩ | (simp;omega) | (refine ⟨?_,?_⟩ <;> (repeat' (first | omega | (intro q hq;obtain ⟨_,_,rfl⟩:=List.mem_map.1 hq;rfl) | refine ⟨?_,?_⟩)))),?_⟩
 refine hQ (RG.nil ⟨by decide +kernel,?_⟩)
 simp only [zX]
 have hp : (v.pins.take k ++ c.at' :: v.pins.drop k).map nrow = (v.pins.take k).map nrow ++ [[.v (.int .i64 c.at')]] ++ (v.pins.drop k).map nrow:=by simp [nrow]
 have hdr:=drows_nrow (v.pins.take k ++ c.at' :: v.pins.drop k)
 rw [hp] at hdr
 rw [doneR_pins,hp,vO_eq]
 refine aR 2480 ?_
 refine Fin.data [2400] (.inr rfl) rfl (by (exact ⟨trivial,trivial⟩)) ?_
 simp only [zL,simprocAttr]
 all_goals ((repeat' (first | exact trivial | rfl | (refine ⟨⟨_,_,rfl⟩,?_⟩;(assumption)) | refine ⟨?_,?_⟩)))

theorem done_unpin (v : VOL) (c : CMD) (ok : Vok v) (hk : c.kind = 5) :
  Con Try.prog 50 [.agg (volC v),.agg (cmdC c)] [] (doneR v (doV v c)) []:=by
 rw [show doV v c = doUnpin v c.at' from by unfold doV;rw [if_neg (by omega),if_neg (by omega),if_neg (by omega),if_pos hk]]
 unfold doUnpin
 have o2:=ok.pins
 refine C_mementoref16_done nl nl ?_
 simp only [cz,A_mementoref16_done,argL,objL,List.length_nil,Nat.zero_add,zX]
 refine aS 16 (fun Q hQ=>by simp (disch:=intros;contradiction) only [zS,vC_eq,cmdC,cC,hk,simprocAttr];exact hQ) ?_
 refine aR 112 ?_
 refine aR 176 ?_
 refine aF ?_
 refine aR 240 ?_
 refine aF ?_
 refine aR 304 ?_
 refine aw_cond _ rfl trivial (fun ht=>by cases ht) (fun hf=>?_)
 refine aR 368 ?_
 refine aT ?_
 refine aR 432 ?_
 refine aw_cond _ rfl trivial (fun ht=>?_) (fun hf=>?_)
 ·skip
  try simp at ht
  simp only [zX]
  rw [if_pos ht]
  refine aR 496 ?_
  refine Fin.data [] (.inr rfl) rfl (by (exact ⟨trivial,trivial⟩)) ?_
  simp only [zL,simprocAttr]
  all_goals ((repeat' (first | exact trivial | rfl | refine ⟨?_,?_⟩)))
 try simp at hf
 simp only [zX]
 rw [if_neg (by simp [hf])]
 refine aR 576 ?_
 refine aR 640 ?_
 refine aF ?_
 refine aR 704 ?_
 refine aF ?_
 refine aR 768 ?_
 refine aF ?_
 refine aR 832 ?_
 refine aT ?_
 refine aR 896 ?_
 refine aw_loopK (X:={ k : Nat // k≤v.pins.length∧∀ x ∈ v.pins.take k,x≠c.at' }) [2,3,4] (fun k=>[(7,I k.1)]) [16,32,48] (fun k=>[]) (fun k=>v.pins.length - k.1) (⟨0,by omega,by simp⟩) ?_ ?_
 ·skip
  simp only [keepS,keepE,Option.getD_some,lk_cons,lkE_cons,List.cons_append,List.nil_append,simprocAttr]
  refine Le.lit [] [] _ _ ?_ ?_ ?_ ?_
  ·simp only [zL,simprocAttr]
  ·simp only [zL,simprocAttr]
  ·simp [rlook]
  ·(simp;done)
 rintro ⟨k,hk1,hk2⟩
 simp only [keepS,keepE,Option.getD_some,lk_cons,lkE_cons,List.cons_append,List.nil_append,simprocAttr]
 simp only [zX]
 refine aS 944 (fun Q hQ=>by simp (disch:=intros;contradiction) only [zS,zW,simprocAttr];exact hQ) ?_
 refine aw_cond _ rfl trivial (fun ht=>?_) (fun hf=>?_)
 ·skip
  try simp at ht
  simp only [zX]
  have h1 : k < v.pins.length:=by omega
  refine aSD 1056 (fun Q hQ=>by simp (disch:=first | (intros;contradiction) | omega | (simp only [zN];omega)) only [zS,zW,nrow,simprocAttr];repeat refine ⟨by (omega),?_⟩;exact hQ) ?_
  refine aw_cond _ rfl trivial (fun ht=>?_) (fun hf=>?_)
  ·skip
   try simp at ht
   simp only [zX]
   rw [if_pos (by rw [← ht];exact List.getElem_mem h1)]
   rw [delP_at h1 ht hk2]
   refine aw_draw 1216 (RG.go fun Q hQ=>?_)
   simp (disch:=first | (intros;contradiction) | omega | (simp only [zN];omega)) only [zS,zW,simprocAttr]
   repeat refine ⟨by (first | exact ⟨by (intro q hq;obtain ⟨_,_,rfl⟩:=List.mem_map.1 hq;rfl),by omega⟩ | (refine ⟨?_,?_⟩ <;> (repeat' (first | omega | (intro q hq;obtain ⟨_,_,rfl⟩:=List.mem_map.1 hq;rfl) | refine ⟨?_,?_⟩)))),?_⟩
   refine hQ (RG.nil ⟨by decide +kernel,?_⟩)
   simp only [zX]
   have hp : (v.pins.take k ++ v.pins.drop (k + 1)).map nrow = (v.pins.take k).map nrow ++ (v.pins.drop (k + 1)).map nrow:=by simp
   have hdr:=drows_nrow (v.pins.take k ++ v.pins.drop (k + 1))
   rw [hp] at hdr
   rw [doneR_pins,hp,vO_eq]
   refine aR 1456 ?_
   refine Fin.data [1376] (.inr rfl) rfl (by (exact ⟨trivial,trivial⟩)) ?_
   simp only [zL,simprocAttr]
   all_goals ((repeat' (first | exact trivial | rfl | (refine ⟨⟨_,_,rfl⟩,?_⟩;(assumption)) | refine ⟨?_,?_⟩)))
  try simp at hf
  simp only [zX]
  refine aS 1536 (fun Q hQ=>by simp (disch:=first | (intros;contradiction) | omega | (simp only [zN];omega)) only [zS,zW,simprocAttr];exact hQ) ?_
  refine ⟨⟨k + 1,h1,take_ne h1 hk2 hf⟩,?_,by first | omega | (simp only;omega)⟩
  refine Le.lit [] [] _ _ ?_ ?_ ?_ ?_
  ·simp only [zL,simprocAttr]
   all_goals (try ((repeat' (rfl))))
  ·simp only [zL,simprocAttr]
  ·simp [rlook]
  ·(simp;done)
 try simp at hf
 simp only [zX,↓reduceIte]
 have hk' : k = v.pins.length:=by omega
 rw [hk',List.take_length] at hk2
 rw [if_neg (fun h=>hk2 _ h rfl)]
 refine aR 1616 ?_
 refine Fin.data [] (.inr rfl) rfl (by (exact ⟨trivial,trivial⟩)) ?_
 simp only [zL,simprocAttr]
 all_goals ((repeat' (first | exact trivial | rfl | refine ⟨?_,?_⟩)))

end Go.Abs

namespace Go.Abs
open Go Go.Proofs
set_option maxRecDepth 100000
set_option linter.unusedSimpArgs false
set_option maxHeartbeats 4000000

theorem doImp_none {v : VOL} {c : CMD} (h : impS v c = none) : doImp v c = done (addN v c.items):=by unfold doImp;rw [h]
theorem doImp_some {v w : VOL} {c : CMD} {e : Int} (h : impS v c = some (w,e)) : doImp v c = if e = 0 then done w else fail v e:=by unfold doImp;rw [h]

theorem done_publish (v : VOL) (c : CMD) (hk : c.kind = 7) :
  Con Try.prog 50 [.agg (volC v),.agg (cmdC c)] [] (doneR v (doV v c)) []:=by
 rw [show doV v c = doImp v c from by unfold doV;rw [if_neg (by omega),if_neg (by omega),if_neg (by omega),if_neg (by omega),if_pos (by omega)]]
 refine C_mementoref16_done nl nl ?_
 simp only [cz,A_mementoref16_done,argL,objL,List.length_nil,Nat.zero_add,zX]
 refine aS 16 (fun Q hQ=>by simp (disch:=intros;contradiction) only [zS,vC_eq,cmdC,cC,hk,simprocAttr];exact hQ) ?_
 refine aR 112 ?_
 refine aR 176 ?_
 refine aF ?_
 refine aR 240 ?_
 refine aF ?_
 refine aR 304 ?_
 refine aw_cond _ rfl trivial (fun ht=>by cases ht) (fun hf=>?_)
 refine aR 368 ?_
 refine aF ?_
 refine aR 432 ?_
 refine aR 496 ?_
 refine aF ?_
 refine aR 560 ?_
 refine aF ?_
 refine aR 624 ?_
 refine aF ?_
 refine aR 688 ?_
 refine aF ?_
 refine aR 752 ?_
 refine aF ?_
 refine aR 816 ?_
 refine aT ?_
 refine aS 880 (fun Q hQ=>by simp (disch:=intros;contradiction) only [zS,simprocAttr];repeat refine ⟨by ((simp;done)),?_⟩;exact hQ) ?_
 refine aw_cond _ rfl trivial (fun ht=>?_) (fun hf=>?_)
 ·skip
  try simp at ht
  simp only [zX]
  have h : impS v c = some (v,33):=by
   unfold impS
   by_cases hh : v.hid = false
   ·rw [if_pos hh]
   ·rw [if_neg hh,if_pos hk,if_neg]
    rcases ht with h | h
    ·exact absurd h hh
    ·exact h
  rw [doImp_some h]
  refine aR 1072 ?_
  refine Fin.data [] (.inr rfl) rfl (by (exact ⟨trivial,trivial⟩)) ?_
  simp only [zL,simprocAttr]
  all_goals ((repeat' (first | exact trivial | rfl | refine ⟨?_,?_⟩)))
 try simp at hf
 simp only [zX]
 have h : impS v c = some (pubV v,0):=by
  unfold impS
  rw [if_neg (by simp [hf.1]),if_pos hk,if_pos hf.2]
 rw [doImp_some h]
 refine aB 1152 ?_
 refine rC [] (mementoref16_Len_con v) ?_
 refine RG.go fun Q hQ=>?_
 simp (disch:=intros;contradiction) only [zS,simprocAttr]
 refine hQ (RG.nil ?_)
 simp only [zX,↓reduceIte]
 refine aR 1280 ?_
 refine Fin.data [] (.inr rfl) rfl (by (exact ⟨trivial,trivial⟩)) ?_
 simp only [zL,simprocAttr]
 all_goals ((repeat' (first | exact trivial | rfl | refine ⟨?_,?_⟩)))

theorem done_import (v : VOL) (c : CMD) (ok : Vok v) (hn : 0≤v.next∧v.next≤1099511627776) (hk : c.kind = 6) (hl : c.items.length≤1000000) (hd : ∀ x ∈ c.items,x.d.length≤1000000) :
  Con Try.prog 50 [.agg (volC v),.agg (cmdC c)] [] (doneR v (doV v c)) []:=by
 rw [show doV v c = doImp v c from by unfold doV;rw [if_neg (by omega),if_neg (by omega),if_neg (by omega),if_neg (by omega),if_pos (by omega)]]
 refine C_mementoref16_done nl nl ?_
 simp only [cz,A_mementoref16_done,argL,objL,List.length_nil,Nat.zero_add,zX]
 refine aS 16 (fun Q hQ=>by simp (disch:=intros;contradiction) only [zS,vC_eq,cmdC,cC,hk,simprocAttr];exact hQ) ?_
 refine aR 112 ?_
 refine aR 176 ?_
 refine aF ?_
 refine aR 240 ?_
 refine aF ?_
 refine aR 304 ?_
 refine aw_cond _ rfl trivial (fun ht=>by cases ht) (fun hf=>?_)
 refine aR 368 ?_
 refine aF ?_
 refine aR 432 ?_
 refine aR 496 ?_
 refine aF ?_
 refine aR 560 ?_
 refine aF ?_
 refine aR 624 ?_
 refine aF ?_
 refine aR 688 ?_
 refine aF ?_
 refine aR 752 ?_
 refine aT ?_
 refine aR 816 ?_
 refine aw_cond _ rfl trivial (fun ht=>?_) (fun hf=>?_)
 ·skip
  try simp at ht
  simp only [zX]
  rw [doImp_some (w:=v) (e:=33) (by unfold impS;rw [if_pos ht])]
  refine aR 896 ?_
  refine Fin.data [] (.inr rfl) rfl (by (exact ⟨trivial,trivial⟩)) ?_
  simp only [zL,simprocAttr]
  all_goals ((repeat' (first | exact trivial | rfl | refine ⟨?_,?_⟩)))
 try simp at hf
 simp only [zX]
 have h0 : ¬ v.hid = false:=by simp [hf]
 have h7 : ¬ c.kind = 7:=by omega
 refine aR 976 ?_
 refine aw_cond _ rfl trivial (fun ht=>?_) (fun hf=>?_)
 ·skip
  try simp at ht
  simp only [zX]
  rw [doImp_some (w:=v) (e:=0) (by unfold impS;rw [if_neg h0,if_neg h7,if_pos ht])]
  refine aw_reg 1168 (RG.go fun Q hQ=>?_)
  simp (disch:=intros;contradiction) only [zS,simprocAttr]
  refine hQ (RG.nil ?_)
  simp only [zX,↓reduceIte]
  refine Fin.data [] (.inr rfl) rfl (by (exact ⟨trivial,trivial⟩)) ?_
  simp only [zL,simprocAttr]
  all_goals ((repeat' (first | exact trivial | rfl | refine ⟨?_,?_⟩)))
 try simp at hf
 simp only [zX]
 have h1 : ¬ (0≤c.index∧c.index < v.next):=by omega
 refine aS 1248 (fun Q hQ=>by simp (disch:=intros;contradiction) only [zS,simprocAttr];repeat refine ⟨by ((simp;done)),?_⟩;exact hQ) ?_
 refine aw_cond _ rfl trivial (fun ht=>?_) (fun hf=>?_)
 ·skip
  try simp at ht
  simp only [zX]
  rw [doImp_some (w:=v) (e:=33) (by unfold impS;rw [if_neg h0,if_neg h7,if_neg h1,if_pos ht])]
  refine aR 1472 ?_
  refine Fin.data [] (.inr rfl) rfl (by (exact ⟨trivial,trivial⟩)) ?_
  simp only [zL,simprocAttr]
  all_goals ((repeat' (first | exact trivial | rfl | refine ⟨?_,?_⟩)))
 try simp at hf
 simp only [zX]
 have h2 : ¬ (c.index≠v.next∨v.next = v.total):=by omega
 refine aB 1552 ?_
 refine rC [] (mementoref13_ItemsRight_con v.blocks v.size c.items hl hd) ?_
 refine aE ?_
 refine aw_cond _ rfl trivial (fun ht=>?_) (fun hf=>?_)
 ·skip
  try simp at ht
  simp only [zX]
  rw [doImp_some (w:=v) (e:=23) (by unfold impS;rw [if_neg h0,if_neg h7,if_neg h1,if_neg h2,if_neg (by simp [ht])])]
  refine aR 1712 ?_
  refine Fin.data [] (.inr rfl) rfl (by (exact ⟨trivial,trivial⟩)) ?_
  simp only [zL,simprocAttr]
  all_goals ((repeat' (first | exact trivial | rfl | refine ⟨?_,?_⟩)))
 try simp at hf
 simp only [zX]
 rw [doImp_none (by unfold impS;rw [if_neg h0,if_neg h7,if_neg h1,if_neg h2,if_pos hf])]
 refine aB 1792 ?_
 refine rC [] (mementoref16_write_con v c.items ok.ws hl hd) ?_ (hs:=(by exact .inr ⟨volC_pure _,trivial⟩))
 refine aEs (fun Q hQ=>by simp (disch:=intros;contradiction) only [zS,vC_eq,simprocAttr];exact hQ) ?_
 refine aS 1904 (fun Q hQ=>by simp (disch:=first | (intros;contradiction) | omega | (simp only [zN];omega)) only [zS,zW,addW,simprocAttr];exact hQ) ?_
 refine aR 2016 ?_
 refine Fin.data [] (.inr rfl) rfl (by (exact ⟨trivial,trivial⟩)) ?_
 simp only [zL,simprocAttr]
 all_goals ((repeat' (first | exact trivial | rfl | refine ⟨?_,?_⟩)))

theorem mementoref16_done_con (v : VOL) (c : CMD) (ok : Vok v) (hn : 0≤v.next∧v.next≤1099511627776) (hl : c.items.length≤1000000) (hd : ∀ x ∈ c.items,x.d.length≤1000000) :
  Con Try.prog 50 [.agg (volC v),.agg (cmdC c)] [] (doneR v (doV v c)) []:=by
 rcases Int.lt_or_le c.kind 2 with h | h
 ·exact done_other v c (.inl h)
 rcases Int.lt_or_le 8 c.kind with h' | h'
 ·exact done_other v c (.inr h')
 have : c.kind = 2∨c.kind = 3∨c.kind = 4∨c.kind = 5∨c.kind = 6∨c.kind = 7∨c.kind = 8:=by omega
 rcases this with h | h | h | h | h | h | h
 ·exact done_put v c ok h hl hd
 ·exact done_prune v c ok h
 ·exact done_pin v c ok h
 ·exact done_unpin v c ok h
 ·exact done_import v c ok hn h hl hd
 ·exact done_publish v c h
 ·exact done_stat v c h

abbrev doR (d : DO) : SV:=.tup [.agg (volC d.v),.agg (repC d.e d.len d.floor d.next [])]

theorem doV_ok (v : VOL) (c : CMD) : (∃ w,doV v c = done w)∨∃ e,e≠0∧doV v c = fail v e:=by
 have hi : (∃ w,doImp v c = done w)∨∃ e,e≠0∧doImp v c = fail v e:=by
  unfold doImp
  split
  ·exact .inl ⟨_,rfl⟩
  ·split
   ·exact .inl ⟨_,rfl⟩
   ·rename_i h;exact .inr ⟨_,h,rfl⟩
 unfold doV
 split
 ·unfold doPut
  split
  ·exact .inr ⟨28,by decide,rfl⟩
  split
  ·exact .inl ⟨_,rfl⟩
  ·exact .inr ⟨23,by decide,rfl⟩
 split
 ·unfold doPrune
  split
  ·exact .inr ⟨28,by decide,rfl⟩
  split
  ·exact .inr ⟨30,by decide,rfl⟩
  split
  ·exact .inr ⟨31,by decide,rfl⟩
  ·exact .inl ⟨_,rfl⟩
 split
 ·unfold doPin
  split
  ·exact .inr ⟨28,by decide,rfl⟩
  split
  ·exact .inr ⟨30,by decide,rfl⟩
  split
  ·exact .inr ⟨31,by decide,rfl⟩
  ·exact .inl ⟨_,rfl⟩
 split
 ·unfold doUnpin
  split
  ·exact .inr ⟨28,by decide,rfl⟩
  split
  ·exact .inl ⟨_,rfl⟩
  ·exact .inr ⟨28,by decide,rfl⟩
 split
 ·exact hi
 split
 ·exact .inl ⟨_,rfl⟩
 ·exact .inr ⟨23,by decide,rfl⟩

theorem doneR_pure (v : VOL) (d : DO) : (doneR v d).pureD:=pureTA (volC_pure _)

theorem mementoref16_Do_con (v : VOL) (c : CMD) (ok : Vok v) (hn : 0≤v.next∧v.next≤1099511627776) (hl : c.items.length≤1000000) (hd : ∀ x ∈ c.items,x.d.length≤1000000) :
  Con Try.prog 19 [.agg (volC v),.agg (cmdC c)] [] (doR (doV v c)) []:=by
 have cD:=mementoref16_done_con v c ok hn hl hd
 rcases doV_ok v c with ⟨w,h⟩ | ⟨e,he,h⟩
 ·rw [h] at cD ⊢
  refine C_mementoref16_Do nl nl ?_
  simp only [cz,A_mementoref16_Do,argL,objL,List.length_nil,Nat.zero_add,zX]
  refine aS 16 (fun Q hQ=>by simp (disch:=intros;contradiction) only [zS,vC_eq,cmdC,cC,simprocAttr];exact hQ) ?_
  refine aB 112 ?_
  refine rC [] (cD) ?_ (hs:=(by exact .inr ⟨doneR_pure v _,trivial⟩))
  refine aEs (fun Q hQ=>by simp (disch:=intros;contradiction) only [zS,vC_eq,done,simprocAttr];exact hQ) ?_
  refine aR 288 ?_
  refine aF ?_
  refine aBD 352 ?_
  refine rC [] (mementoref16_Len_con w) ?_
  refine aED ?_
  refine Fin.data [] (.inr rfl) rfl (by (exact ⟨trivial,trivial,trivial⟩)) ?_
  simp only [zL]
  all_goals ((repeat' (first | exact trivial | rfl | refine ⟨?_,?_⟩)))

 ·rw [h] at cD ⊢
  have he' : (e != 0) = true:=by simpa using he
  refine C_mementoref16_Do nl nl ?_
  simp only [cz,A_mementoref16_Do,argL,objL,List.length_nil,Nat.zero_add,zX]
  refine aS 16 (fun Q hQ=>by simp (disch:=intros;contradiction) only [zS,vC_eq,cmdC,cC,simprocAttr];exact hQ) ?_
  refine aB 112 ?_
  refine rC [] (cD) ?_ (hs:=(by exact .inr ⟨doneR_pure v _,trivial⟩))
  refine aEs (fun Q hQ=>by simp (disch:=intros;contradiction) only [zS,vC_eq,fail,simprocAttr];exact hQ) ?_
  refine aS 288 (fun Q hQ=>by simp (disch:=intros;contradiction) only [zS,he',simprocAttr];exact hQ) ?_
  refine aT ?_
  refine aR 352 ?_
  refine Fin.data [] (.inr rfl) rfl (by (exact ⟨trivial,trivial,trivial⟩)) ?_
  simp only [zL]
  all_goals ((repeat' (first | exact trivial | rfl | refine ⟨?_,?_⟩)))

end Go.Abs

namespace Go.Abs
open Go Go.Proofs

def ins (x : Int) : List Int→List Int
 | []=>[x]
 | y :: r=>if x≤y then x :: y :: r else y :: ins x r


def isort : List Int→List Int
 | []=>[]
 | x :: r=>ins x (isort r)


theorem ins_perm (x : Int) : ∀ l,(ins x l).Perm (x :: l)
 | []=>.refl _
 | y :: r=>by
  unfold ins
  split
  ·exact .refl _
  ·exact ((ins_perm x r).cons y).trans (List.Perm.swap x y r)


theorem isort_perm : ∀ l,(isort l).Perm l
 | []=>.refl _
 | x :: r=>(ins_perm x _).trans ((isort_perm r).cons x)


theorem ins_sorted (x : Int) : ∀ l,l.Pairwise (·≤·)→(ins x l).Pairwise (·≤·)
 | [],_=>by simp [ins]
 | y :: r,h=>by
  rw [List.pairwise_cons] at h
  unfold ins
  split
  ·rename_i hxy
   rw [List.pairwise_cons,List.pairwise_cons]
   exact ⟨fun z hz=>by
    rcases List.mem_cons.1 hz with rfl | hz
    ·exact hxy
    ·exact Int.le_trans hxy (h.1 z hz),h⟩
  ·rename_i hxy
   rw [List.pairwise_cons]
   refine ⟨fun z hz=>?_,ins_sorted x r h.2⟩
   rcases List.mem_cons.1 ((ins_perm x r).mem_iff.1 hz) with rfl | hz
   ·omega
   ·exact h.1 z hz


theorem isort_sorted : ∀ l,(isort l).Pairwise (·≤·)
 | []=>.nil
 | x :: r=>ins_sorted x _ (isort_sorted r)


theorem sorted_eq : ∀ {l m : List Int},l.Perm m→l.Pairwise (·≤·)→m.Pairwise (·≤·)→l = m
 | [],m,h,_,_=>by have:=h.length_eq;cases m with | nil=>rfl | cons=>simp at this
 | x :: l,[],h,_,_=>by have:=h.length_eq;simp at this
 | x :: l,y :: m,h,hl,hm=>by
  rw [List.pairwise_cons] at hl hm
  have h1 : x = y:=by
   have hx : x ∈ y :: m:=h.mem_iff.1 (by simp)
   have hy : y ∈ x :: l:=h.mem_iff.2 (by simp)
   rcases List.mem_cons.1 hx with e | hx
   ·exact e
   ·rcases List.mem_cons.1 hy with e | hy
    ·exact e.symm
    ·have:=hm.1 x hx;have:=hl.1 y hy;omega
  subst h1
  rw [sorted_eq (List.Perm.cons_inv h) hl.2 hm.2]


theorem isort_unique {l m : List Int} (h : m.Perm l) (hs : m.Pairwise (·≤·)) : m = isort l:=sorted_eq (h.trans (isort_perm l).symm) hs (isort_sorted l)



theorem isort_of_perm {l m : List Int} (h : l.Perm m) : isort l = isort m:=isort_unique ((isort_perm l).trans h) (isort_sorted l)
theorem isort_id {l : List Int} (h : l.Pairwise (·≤·)) : isort l = l:=(isort_unique (.refl _) h).symm
theorem isort_app {A B : List Int} (h : ∀ x ∈ A,∀ y ∈ B,x≤y) : isort (A ++ B) = isort A ++ isort B:=by
 symm
 refine isort_unique ((isort_perm A).append (isort_perm B)) ?_
 rw [List.pairwise_append]
 exact ⟨isort_sorted A,isort_sorted B,fun x hx y hy=>h x ((isort_perm A).mem_iff.1 hx) y ((isort_perm B).mem_iff.1 hy)⟩
theorem isort_len (l : List Int) : (isort l).length = l.length:=(isort_perm l).length_eq

def gI (l : List Int) (k : Nat) : Int:=l.getD k 0
theorem gI_get {l : List Int} {k : Nat} (h : k < l.length) : l[k] = gI l k:=by simp [gI,h]
def swp (l : List Int) (i j : Nat) : List Int:=(l.set i (gI l j)).set j (gI l i)
theorem swp_len (l : List Int) (i j : Nat) : (swp l i j).length = l.length:=by simp [swp]
theorem gI_set (l : List Int) (i k : Nat) (x : Int) (hi : i < l.length) : gI (l.set i x) k = if k = i then x else gI l k:=by
 unfold gI
 by_cases h : k = i
 ·subst h;simp [hi]
 ·simp [h,List.getElem?_set_ne (Ne.symm h)]
theorem gI_swp {l : List Int} {i j : Nat} (hi : i < l.length) (hj : j < l.length) (k : Nat) : gI (swp l i j) k = if k = j then gI l i else if k = i then gI l j else gI l k:=by
 unfold swp
 rw [gI_set _ _ _ _ (by simpa using hj),gI_set _ _ _ _ hi]

theorem gI_ext {l m : List Int} (hl : l.length = m.length) (h : ∀ k,k < l.length→gI l k = gI m k) : l = m:=by
 refine List.ext_getElem hl fun k h1 h2=>?_
 rw [gI_get h1,gI_get h2];exact h k h1

theorem swp_perm {l : List Int} {i j : Nat} (hi : i < l.length) (hj : j < l.length) : (swp l i j).Perm l:=by
 rw [List.perm_iff_count]
 intro x
 unfold swp
 rw [List.count_set (by simpa using hj),List.count_set hi]
 have h1 : (l.set i (gI l j))[j]'(by simpa using hj) = if j = i then gI l j else gI l j:=by
  rw [gI_get,gI_set _ _ _ _ hi]
 rw [h1]
 have e1 : l[i] = gI l i:=gI_get hi
 rw [e1]
 have hc : 0 < l.count (gI l i):=by rw [← e1];exact List.count_pos_iff.2 (List.getElem_mem hi)
 simp only [ite_self]
 by_cases h2 : gI l i = x <;> by_cases h3 : gI l j = x <;> simp [h2,h3]
 ·subst h2;omega
 ·subst h2;omega

structure PO (a b : Nat) (l m : List Int) : Prop where
 len : m.length = l.length
 perm : m.Perm l
 out : ∀ k,k < a∨b≤k→gI m k = gI l k

theorem PO.refl (a b : Nat) (l : List Int) : PO a b l l:=⟨rfl,.refl _,fun _ _=>rfl⟩
theorem PO.trans {a b : Nat} {l m n : List Int} (h : PO a b l m) (h' : PO a b m n) : PO a b l n :=
 ⟨h'.len.trans h.len,h'.perm.trans h.perm,fun k hk=>(h'.out k hk).trans (h.out k hk)⟩
theorem PO.swp {a b i j : Nat} {l : List Int} (hb : b≤l.length) (hi : a≤i) (hi' : i < b) (hj : a≤j) (hj' : j < b) : PO a b l (swp l i j) :=
 ⟨swp_len l i j,swp_perm (by omega) (by omega),fun k hk=>by rw [gI_swp (by omega) (by omega),if_neg (by omega),if_neg (by omega)]⟩

def seg (a b : Nat) (l : List Int) : List Int:=(l.take b).drop a
theorem seg_len {a b : Nat} {l : List Int} (hb : b≤l.length) : (seg a b l).length = b - a:=by simp [seg];omega
theorem gI_seg {a b : Nat} {l : List Int} (hb : b≤l.length) {k : Nat} (hk : k < b - a) : gI (seg a b l) k = gI l (a + k):=by
 unfold gI seg
 have h1 : a + k < b:=by omega
 simp [List.getD,h1]
theorem parts (a b : Nat) (l : List Int) (hab : a≤b) : l = l.take a ++ seg a b l ++ l.drop b:=by
 have h1 : l.take a ++ seg a b l = l.take b:=by
  unfold seg
  have:=List.take_append_drop a (l.take b)
  rw [List.take_take,Nat.min_eq_left hab] at this
  exact this
 rw [h1,List.take_append_drop]

theorem gI_take {a : Nat} {l : List Int} {k : Nat} (hk : k < a) : gI (l.take a) k = gI l k:=by simp [gI,List.getD,hk]
theorem gI_drop {b : Nat} {l : List Int} (k : Nat) : gI (l.drop b) k = gI l (b + k):=by simp [gI,List.getD]

theorem PO.take {a b : Nat} {l m : List Int} (h : PO a b l m) : m.take a = l.take a:=by
 refine gI_ext (by simp [h.len]) fun k hk=>?_
 have hk' : k < a:=by simp at hk;omega
 rw [gI_take hk',gI_take hk',h.out k (.inl hk')]
theorem PO.drop {a b : Nat} {l m : List Int} (h : PO a b l m) : m.drop b = l.drop b:=by
 refine gI_ext (by simp [h.len]) fun k hk=>?_
 rw [gI_drop,gI_drop,h.out _ (.inr (by omega))]
theorem PO.seg {a b : Nat} {l m : List Int} (h : PO a b l m) (hab : a≤b) : (seg a b m).Perm (Abs.seg a b l):=by
 have h1:=h.perm
 rw [parts a b l hab,parts a b m hab,h.take,h.drop] at h1
 exact (List.perm_append_left_iff _).1 ((List.perm_append_right_iff _).1 h1)
theorem PO.all {a b : Nat} {l m : List Int} (h : PO a b l m) (hab : a≤b) (hb : b≤l.length) {p : Int→Prop} (hp : ∀ k,a≤k→k < b→p (gI l k)) : ∀ k,a≤k→k < b→p (gI m k):=by
 intro k h1 h2
 have hm : gI m k ∈ Abs.seg a b m:=by
  have h3 : k - a < (Abs.seg a b m).length:=by rw [seg_len (by rw [h.len];exact hb)];omega
  have:=List.getElem_mem h3
  rw [gI_get,gI_seg (by rw [h.len];exact hb) (by omega),show a + (k - a) = k by omega] at this
  exact this
 obtain ⟨j,hj,he⟩:=List.mem_iff_getElem.1 ((h.seg hab).mem_iff.1 hm)
 rw [seg_len hb] at hj
 rw [gI_get,gI_seg hb hj] at he
 rw [← he]
 exact hp _ (by omega) (by omega)
theorem PO.wide {a b a' b' : Nat} {l m : List Int} (h : PO a b l m) (h1 : a'≤a) (h2 : b≤b') : PO a' b' l m:=⟨h.len,h.perm,fun k hk=>h.out k (by omega)⟩

theorem gI_app_l {A B : List Int} {k : Nat} (h : k < A.length) : gI (A ++ B) k = gI A k:=by simp [gI,List.getD,List.getElem?_append,h]
theorem gI_app_r {A B : List Int} {k : Nat} (h : A.length≤k) : gI (A ++ B) k = gI B (k - A.length):=by simp [gI,List.getD,List.getElem?_append,Nat.not_lt.2 h]

def srt (a b : Nat) (l : List Int) : List Int:=l.take a ++ isort (seg a b l) ++ l.drop b
theorem PO.srt {a b : Nat} {l m : List Int} (h : PO a b l m) (hab : a≤b) : srt a b m = Abs.srt a b l:=by
 unfold Abs.srt
 rw [h.take,h.drop,isort_of_perm (h.seg hab)]
theorem srt_len {a b : Nat} {l : List Int} (hab : a≤b) (hb : b≤l.length) : (srt a b l).length = l.length:=by
 simp [srt,isort_len,seg_len hb];omega
theorem srt_PO {a b : Nat} {l : List Int} (hab : a≤b) (hb : b≤l.length) : PO a b l (srt a b l):=by
 have hs : (isort (seg a b l)).length = b - a:=by rw [isort_len,seg_len hb]
 refine ⟨srt_len hab hb,?_,fun k hk=>?_⟩
 ·have:=((isort_perm (seg a b l)).append_left (l.take a)).append_right (l.drop b)
  rw [← parts a b l hab] at this
  exact this
 ·unfold srt
  rcases hk with hk | hk
  ·rw [List.append_assoc,gI_app_l (by simp;omega),gI_take hk]
  ·rw [gI_app_r (by simp [hs];omega),gI_drop]
   congr 1
   simp [hs];omega
theorem srt_id {a b : Nat} {l : List Int} (hab : a≤b) (hb : b≤l.length) (h : ∀ i j,a≤i→i≤j→j < b→gI l i≤gI l j) : srt a b l = l:=by
 have : isort (seg a b l) = seg a b l:=by
  refine isort_id (List.pairwise_iff_getElem.2 fun i j hi hj hij=>?_)
  rw [seg_len hb] at hi hj
  rw [gI_get,gI_get,gI_seg hb hi,gI_seg hb hj]
  exact h _ _ (by omega) (by omega) (by omega)
 unfold srt
 rw [this,← parts a b l hab]

theorem seg_split {a m b : Nat} {l : List Int} (h1 : a≤m) (h2 : m≤b) : seg a b l = seg a m l ++ seg m b l:=by
 unfold seg
 have h:=(List.take_append_drop (m - a) ((l.take b).drop a)).symm
 rw [List.drop_drop,List.take_drop,show a + (m - a) = m by omega,List.take_take,Nat.min_eq_left h2] at h
 exact h

theorem mem_seg {a b : Nat} {l : List Int} (hb : b≤l.length) {x : Int} (h : x ∈ seg a b l) : ∃ k,a≤k∧k < b∧x = gI l k:=by
 obtain ⟨j,hj,he⟩:=List.mem_iff_getElem.1 h
 rw [seg_len hb] at hj
 rw [gI_get,gI_seg hb hj] at he
 exact ⟨a + j,by omega,by omega,he.symm⟩

theorem srt_two {a m b : Nat} {l : List Int} (h1 : a≤m) (h2 : m≤b) (hb : b≤l.length) (h : ∀ i j,a≤i→i < m→m≤j→j < b→gI l i≤gI l j) : srt a b l = srt m b (srt a m l):=by
 have hseg : isort (seg a b l) = isort (seg a m l) ++ isort (seg m b l):=by
  rw [seg_split h1 h2]
  refine isort_app fun x hx y hy=>?_
  obtain ⟨i,i1,i2,rfl⟩:=mem_seg (by omega) hx
  obtain ⟨j,j1,j2,rfl⟩:=mem_seg hb hy
  exact h i j i1 i2 j1 j2
 have hs : (isort (seg a m l)).length = m - a:=by rw [isort_len,seg_len (by omega)]
 have hPO:=srt_PO h1 (show m≤l.length by omega)
 have e1 : (srt a m l).take m = l.take a ++ isort (seg a m l):=by
  unfold srt
  rw [List.take_append_of_le_length (by simp [hs];omega)]
  rw [List.take_of_length_le (by simp [hs];omega)]
 have e2 : seg m b (srt a m l) = seg m b l:=by
  refine gI_ext (by rw [seg_len (by rw [hPO.len];exact hb),seg_len hb]) fun k hk=>?_
  rw [seg_len (by rw [hPO.len];exact hb)] at hk
  rw [gI_seg (by rw [hPO.len];exact hb) hk,gI_seg hb hk]
  exact hPO.out _ (.inr (by omega))
 have e3 : (srt a m l).drop b = l.drop b:=(hPO.wide (Nat.le_refl a) h2).drop
 show l.take a ++ isort (seg a b l) ++ l.drop b = (srt a m l).take m ++ isort (seg m b (srt a m l)) ++ (srt a m l).drop b
 rw [e1,e2,e3,hseg]
 simp

end Go.Abs

namespace Go.Abs
open Go Go.Proofs
set_option linter.unusedVariables false

def up (f : Nat→Bool) (i j : Nat) : Nat:=if i≤j∧f i = true then up f (i + 1) j else i
termination_by j + 1 - i
def dn (f : Nat→Bool) (i j : Nat) : Nat:=if i≤j∧0 < j∧f j = true then dn f i (j - 1) else j
termination_by j

theorem up_spec (f : Nat→Bool) (j : Nat) : ∀ (n i : Nat),j + 1 - i≤n→i≤j + 1→i≤up f i j∧up f i j≤j + 1∧(∀ k,i≤k→k < up f i j→f k = true)∧(up f i j≤j→f (up f i j) = false)
 | 0,i,hn,hi=>by
  rw [up,if_neg (by omega)]
  exact ⟨Nat.le_refl _,hi,fun k h1 h2=>by omega,fun h=>by omega⟩
 | n + 1,i,hn,hi=>by
  rw [up]
  split
  ·rename_i h
   obtain ⟨h1,h2,h3,h4⟩:=up_spec f j n (i + 1) (by omega) (by omega)
   refine ⟨by omega,h2,fun k k1 k2=>?_,h4⟩
   rcases Nat.lt_or_ge i k with hk | hk
   ·exact h3 k hk k2
   ·rw [show k = i by omega];exact h.2
  ·rename_i h
   refine ⟨Nat.le_refl _,hi,fun k k1 k2=>by omega,fun hj=>?_⟩
   cases hf : f i with
   | false=>rfl
   | true=>exact absurd ⟨hj,hf⟩ h

theorem dn_spec (f : Nat→Bool) (i : Nat) (h0 : 0 < i) : ∀ j,i≤j + 1→dn f i j≤j∧i≤dn f i j + 1∧(∀ k,dn f i j < k→k≤j→f k = true)∧(i≤dn f i j→f (dn f i j) = false)
 | 0,hi=>by
  rw [dn,if_neg (by omega)]
  exact ⟨Nat.le_refl _,hi,fun k h1 h2=>by omega,fun h=>by omega⟩
 | j + 1,hi=>by
  rw [dn]
  split
  ·rename_i h
   obtain ⟨h1,h2,h3,h4⟩:=dn_spec f i h0 j (by omega)
   rw [Nat.add_sub_cancel]
   refine ⟨by omega,h2,fun k k1 k2=>?_,h4⟩
   rcases Nat.lt_or_ge j k with hk | hk
   ·rw [show k = j + 1 by omega];exact h.2.2
   ·exact h3 k k1 hk
  ·rename_i h
   refine ⟨Nat.le_refl _,hi,fun k k1 k2=>by omega,fun hj=>?_⟩
   cases hf : f (j + 1) with
   | false=>rfl
   | true=>exact absurd ⟨hj,by omega,hf⟩ h

theorem dn_le (f : Nat→Bool) (i : Nat) : ∀ j,dn f i j≤j
 | 0=>by rw [dn];split <;> simp_all
 | j + 1=>by
  rw [dn]
  split
  ·have:=dn_le f i j
   rw [Nat.add_sub_cancel];omega
  ·exact Nat.le_refl _
theorem up_ge (f : Nat→Bool) (i j : Nat) : i≤up f i j:=by
 rcases Nat.lt_or_ge (j + 1) i with h | h
 ·rw [up,if_neg (by omega)];exact Nat.le_refl _
 ·exact (up_spec f j _ i (Nat.le_refl _) h).1

def goL (le : Bool) (l : List Int) (a k : Nat) : Bool:=if le then decide (gI l k≤gI l a) else decide (gI l k < gI l a)

def partL (le : Bool) (a : Nat) (l : List Int) (i j : Nat) : List Int × Nat :=
 if up (goL le l a) i j≤dn (fun k=>!goL le l a k) (up (goL le l a) i j) j then
  partL le a (swp l (up (goL le l a) i j) (dn (fun k=>!goL le l a k) (up (goL le l a) i j) j)) (up (goL le l a) i j + 1) (dn (fun k=>!goL le l a k) (up (goL le l a) i j) j - 1)
 else (l,dn (fun k=>!goL le l a k) (up (goL le l a) i j) j)
termination_by j + 1 - i
decreasing_by
 rename_i h
 have h1:=up_ge (goL le l a) i j
 have h2:=dn_le (fun k=>!goL le l a k) (up (goL le l a) i j) j
 omega

theorem goL_congr {le : Bool} {l m : List Int} {a k k' : Nat} (h1 : gI m k = gI l k') (h2 : gI m a = gI l a) : goL le m a k = goL le l a k':=by
 unfold goL;rw [h1,h2]
theorem goL_swp {le : Bool} {l : List Int} {a i j k : Nat} (ha : a < i) (hij : i≤j) (hj : j < l.length) (hk : k≠i) (hk' : k≠j) : goL le (swp l i j) a k = goL le l a k :=
 goL_congr (by rw [gI_swp (by omega) hj,if_neg hk',if_neg hk]) (by rw [gI_swp (by omega) hj,if_neg (by omega),if_neg (by omega)])

theorem partL_spec (le : Bool) (a b : Nat) : ∀ (n : Nat) (l : List Int) (i j : Nat),j + 1 - i≤n→a < i→i≤j + 1→j < b→b≤l.length→(∀ k,a < k→k < i→goL le l a k = true)→(∀ k,j < k→k < b→goL le l a k = false) →
  PO (a + 1) b l (partL le a l i j).1∧i≤(partL le a l i j).2 + 1∧(partL le a l i j).2≤j ∧
   (∀ k,a < k→k≤(partL le a l i j).2→goL le (partL le a l i j).1 a k = true)∧(∀ k,(partL le a l i j).2 < k→k < b→goL le (partL le a l i j).1 a k = false)
 | n,l,i,j,hn,ha,hij,hj,hb,hl,hr=>by
  obtain ⟨u1,u2,u3,u4⟩:=up_spec (goL le l a) j _ i (Nat.le_refl _) hij
  obtain ⟨d1,d2,d3,d4⟩:=dn_spec (fun k=>!goL le l a k) (up (goL le l a) i j) (by omega) j u2
  rw [partL]
  split
  ·rename_i h
   obtain ⟨p,hp⟩ : ∃ p,p = up (goL le l a) i j:=⟨_,rfl⟩
   obtain ⟨q,hq⟩ : ∃ q,q = dn (fun k=>!goL le l a k) p j:=⟨_,rfl⟩
   rw [← hp] at u1 u2 u3 u4 d1 d2 d3 d4 h ⊢
   rw [← hq] at d1 d2 d3 d4 h ⊢
   have hpq : p≠q:=by
    rintro rfl
    have h1:=u4 (by omega)
    have h2:=d4 (Nat.le_refl _)
    simp only [Bool.not_eq_false'] at h2
    rw [h1] at h2;cases h2
   have ep : goL le (swp l p q) a p = true:=by
    have:=d4 h
    simp only [Bool.not_eq_false'] at this
    rw [← this]
    exact goL_congr (by rw [gI_swp (by omega) (by omega),if_neg hpq,if_pos rfl]) (by rw [gI_swp (by omega) (by omega),if_neg (by omega),if_neg (by omega)])
   have eq : goL le (swp l p q) a q = false:=by
    have:=u4 (by omega)
    rw [← this]
    exact goL_congr (by rw [gI_swp (by omega) (by omega),if_pos rfl]) (by rw [gI_swp (by omega) (by omega),if_neg (by omega),if_neg (by omega)])
   match n with
   | 0=>omega
   | n + 1 =>
    obtain ⟨r1,r2,r3,r4,r5⟩:=partL_spec le a b n (swp l p q) (p + 1) (q - 1) (by omega) (by omega) (by omega) (by omega) (by rw [swp_len];exact hb)
     (fun k k1 k2=>by
      rcases Nat.lt_or_ge k p with hk | hk
      ·rw [goL_swp (by omega) (by omega) (by omega) (by omega) (by omega)]
       rcases Nat.lt_or_ge k i with h' | h'
       ·exact hl k k1 h'
       ·exact u3 k h' hk
      ·rw [show k = p by omega];exact ep)
     (fun k k1 k2=>by
      rcases Nat.lt_or_ge q k with hk | hk
      ·rw [goL_swp (by omega) (by omega) (by omega) (by omega) (by omega)]
       rcases Nat.lt_or_ge j k with h' | h'
       ·exact hr k h' k2
       ·have:=d3 k hk h'
        simpa using this
      ·rw [show k = q by omega];exact eq)
    exact ⟨(PO.swp hb (by omega) (by omega) (by omega) (by omega)).trans r1,by omega,by omega,r4,r5⟩
  ·rename_i h
   refine ⟨PO.refl _ _ _,by simp only;omega,d1,fun k k1 k2=>?_,fun k k1 k2=>?_⟩
   ·rcases Nat.lt_or_ge k i with h' | h'
    ·exact hl k k1 h'
    ·exact u3 k h' (by simp only at k2;omega)
   ·rcases Nat.lt_or_ge j k with h' | h'
    ·exact hr k h' k2
    ·have:=d3 k k1 h'
     simpa using this

def partF (l : List Int) (a b p : Nat) : List Int × Nat :=
 let r:=partL false a (swp l a p) (a + 1) (b - 1)
 (swp r.1 r.2 a,r.2)
theorem partF_spec {l : List Int} {a b p : Nat} (hab : a + 1 < b) (hb : b≤l.length) (hp : a≤p∧p < b) :
  PO a b l (partF l a b p).1∧a≤(partF l a b p).2∧(partF l a b p).2 < b∧(∀ k,a≤k→k < (partF l a b p).2→gI (partF l a b p).1 k < gI (partF l a b p).1 (partF l a b p).2) ∧
   (∀ k,(partF l a b p).2 < k→k < b→gI (partF l a b p).1 (partF l a b p).2≤gI (partF l a b p).1 k):=by
 obtain ⟨r1,r2,r3,r4,r5⟩:=partL_spec false a b _ (swp l a p) (a + 1) (b - 1) (Nat.le_refl _) (by omega) (by omega) (by omega) (by rw [swp_len];exact hb) (fun k k1 k2=>by omega) (fun k k1 k2=>by omega)
 unfold partF
 obtain ⟨m,hm⟩ : ∃ m,m = (partL false a (swp l a p) (a + 1) (b - 1)).1:=⟨_,rfl⟩
 obtain ⟨q,hq⟩ : ∃ q,q = (partL false a (swp l a p) (a + 1) (b - 1)).2:=⟨_,rfl⟩
 simp only [← hm,← hq] at r1 r2 r3 r4 r5 ⊢
 have hlen : m.length = l.length:=by rw [r1.len,swp_len]
 refine ⟨((PO.swp hb (by omega) (by omega) hp.1 hp.2).trans (r1.wide (by omega) (Nat.le_refl _))).trans (PO.swp (by omega) (by omega) (by omega) (by omega) (by omega)),by omega,by omega,fun k k1 k2=>?_,fun k k1 k2=>?_⟩
 ·rw [gI_swp (by omega) (by omega),gI_swp (by omega) (by omega)]
  by_cases hqa : q = a
  ·omega
  ·rw [if_neg hqa,if_pos rfl]
   split
   ·rename_i h
    have:=r4 q (by omega) (Nat.le_refl _)
    simpa [goL] using this
   ·rw [if_neg (by omega)]
    have:=r4 k (by omega) (by omega)
    simpa [goL] using this
 ·rw [gI_swp (by omega) (by omega),gI_swp (by omega) (by omega)]
  rw [if_neg (show ¬ k = a by omega),if_neg (show ¬ k = q by omega)]
  have:=r5 k k1 k2
  have h2 : gI m a≤gI m k:=by simpa [goL] using this
  split
  ·rename_i h;rw [← h] at h2;exact h2
  ·rw [if_pos rfl];exact h2

def partE (l : List Int) (a b p : Nat) : List Int × Nat:=partL true a (swp l a p) (a + 1) (b - 1)
theorem partE_spec {l : List Int} {a b p : Nat} (hab : a + 1 < b) (hb : b≤l.length) (hp : a≤p∧p < b) (hmin : ∀ k,a≤k→k < b→gI l p≤gI l k) :
  PO a b l (partE l a b p).1∧a≤(partE l a b p).2∧(partE l a b p).2 < b∧(∀ k,a≤k→k≤(partE l a b p).2→gI (partE l a b p).1 k = gI l p):=by
 obtain ⟨r1,r2,r3,r4,r5⟩:=partL_spec true a b _ (swp l a p) (a + 1) (b - 1) (Nat.le_refl _) (by omega) (by omega) (by omega) (by rw [swp_len];exact hb) (fun k k1 k2=>by omega) (fun k k1 k2=>by omega)
 unfold partE
 have hPO:=(PO.swp hb (Nat.le_refl a) (by omega) hp.1 hp.2).trans (r1.wide (show a≤a + 1 by omega) (Nat.le_refl _))
 have ha : gI (partL true a (swp l a p) (a + 1) (b - 1)).1 a = gI l p:=by
  rw [r1.out a (.inl (by omega)),gI_swp (by omega) (by omega)]
  split
  ·rename_i h;rw [h]
  ·rw [if_pos rfl]
 refine ⟨hPO,by omega,by omega,fun k k1 k2=>?_⟩
 rcases Nat.lt_or_ge a k with h | h
 ·have h1:=r4 k h k2
  have h2:=hPO.all (by omega) hb (p:=fun x=>gI l p≤x) hmin k k1 (by omega)
  simp [goL,ha] at h1
  omega
 ·rw [show k = a by omega,ha]

end Go.Abs

namespace Go.Abs
open Go Go.Proofs
set_option linter.unusedVariables false

def bigC (f hi : Nat) (l : List Int) (r : Nat) : Nat:=if 2 * r + 2 < hi∧gI l (f + (2 * r + 1)) < gI l (f + (2 * r + 2)) then 2 * r + 2 else 2 * r + 1
def sift (f hi : Nat) (l : List Int) (r : Nat) : List Int :=
 if 2 * r + 1 < hi∧gI l (f + r) < gI l (f + bigC f hi l r) then sift f hi (swp l (f + r) (f + bigC f hi l r)) (bigC f hi l r) else l
termination_by hi - r
decreasing_by unfold bigC;split <;> omega

theorem bigC_is (f hi : Nat) (l : List Int) (r : Nat) (h : 2 * r + 1 < hi) : (bigC f hi l r = 2 * r + 1∨bigC f hi l r = 2 * r + 2)∧bigC f hi l r < hi∧∀ c,c < hi→0 < c→(c - 1) / 2 = r→gI l (f + c)≤gI l (f + bigC f hi l r):=by
 unfold bigC
 split
 ·rename_i h1
  refine ⟨.inr rfl,h1.1,fun c c1 c2 c3=>?_⟩
  have : c = 2 * r + 1∨c = 2 * r + 2:=by omega
  rcases this with rfl | rfl
  ·omega
  ·omega
 ·rename_i h1
  refine ⟨.inl rfl,h,fun c c1 c2 c3=>?_⟩
  have : c = 2 * r + 1∨c = 2 * r + 2:=by omega
  rcases this with rfl | rfl
  ·omega
  ·have : ¬ gI l (f + (2 * r + 1)) < gI l (f + (2 * r + 2)):=fun h=>h1 ⟨c1,h⟩
   omega

def heapFrom (f hi s : Nat) (l : List Int) : Prop:=∀ c,0 < c→c < hi→s≤(c - 1) / 2→gI l (f + c)≤gI l (f + (c - 1) / 2)
def heapBut (f hi s r : Nat) (l : List Int) : Prop :=
 (∀ c,0 < c→c < hi→s≤(c - 1) / 2→(c - 1) / 2≠r→gI l (f + c)≤gI l (f + (c - 1) / 2)) ∧
  ∀ c,0 < c→c < hi→(c - 1) / 2 = r→s < r→s≤(r - 1) / 2→gI l (f + c)≤gI l (f + (r - 1) / 2)

theorem sift_spec (f hi s : Nat) : ∀ (n : Nat) (l : List Int) (r : Nat),hi - r≤n→s≤r→r < hi∨hi≤2 * r + 1→f + hi≤l.length→heapBut f hi s r l→PO (f + s) (f + hi) l (sift f hi l r)∧heapFrom f hi s (sift f hi l r)
 | n,l,r,hn,hs,hr,hl,hb=>by
  rw [sift]
  split
  ·rename_i h
   obtain ⟨h1,h2⟩:=h
   obtain ⟨b1,b2,b3⟩:=bigC_is f hi l r h1
   obtain ⟨c,hc⟩ : ∃ c,c = bigC f hi l r:=⟨_,rfl⟩
   rw [← hc] at b1 b2 b3 h2 ⊢
   have gs : ∀ k,gI (swp l (f + r) (f + c)) (f + k) = if k = c then gI l (f + r) else if k = r then gI l (f + c) else gI l (f + k):=fun k=>by
    rw [gI_swp (by omega) (by omega)]
    by_cases e1 : k = c
    ·rw [if_pos (by omega),if_pos e1]
    ·rw [if_neg (by omega),if_neg e1]
     by_cases e2 : k = r
     ·rw [if_pos (by omega),if_pos e2]
     ·rw [if_neg (by omega),if_neg e2]
   have hb' : heapBut f hi s c (swp l (f + r) (f + c)):=by
    refine ⟨fun d d0 d1 d2 d3=>?_,fun d d0 d1 d2 d3 d4=>?_⟩
    ·rw [gs,gs]
     by_cases e1 : (d - 1) / 2 = r
     ·rw [if_neg (show ¬ (d - 1) / 2 = c by omega),if_pos e1]
      by_cases e2 : d = c
      ·rw [if_pos e2];omega
      ·rw [if_neg e2,if_neg (by omega)]
       exact b3 d d1 d0 e1
     ·rw [if_neg (show ¬ (d - 1) / 2 = c by omega),if_neg e1]
      by_cases e2 : d = c
      ·omega
      ·rw [if_neg e2]
       by_cases e3 : d = r
       ·rw [if_pos e3]
        have:=hb.2 c (by omega) b2 (by omega) (by omega) (by omega)
        rw [e3];exact this
       ·rw [if_neg e3]
        exact hb.1 d d0 d1 d2 e1
    ·rw [gs,gs,if_neg (by omega),if_neg (by omega),if_neg (by omega),if_pos (by omega)]
     have:=hb.1 d d0 d1 (by omega) (by omega)
     rw [d2] at this;exact this
   match n with
   | 0=>omega
   | n + 1 =>
    obtain ⟨p1,p2⟩:=sift_spec f hi s n (swp l (f + r) (f + c)) c (by omega) (by omega) (.inl b2) (by rw [swp_len];exact hl) hb'
    exact ⟨(PO.swp hl (by omega) (by omega) (by omega) (by omega)).trans p1,p2⟩
  ·rename_i h
   refine ⟨PO.refl _ _ _,fun c c0 c1 c2=>?_⟩
   by_cases e : (c - 1) / 2 = r
   ·have h1 : 2 * r + 1 < hi:=by omega
    obtain ⟨b1,b2,b3⟩:=bigC_is f hi l r h1
    have h2 : ¬ gI l (f + r) < gI l (f + bigC f hi l r):=fun h2=>h ⟨h1,h2⟩
    have:=b3 c c1 c0 e
    rw [e];omega
   ·exact hb.1 c c0 c1 c2 e

def heapB (f hi : Nat) : Nat→List Int→List Int
 | 0,l=>l
 | n + 1,l=>heapB f hi n (sift f hi l n)
def heapP (f : Nat) : Nat→List Int→List Int
 | 0,l=>l
 | n + 1,l=>heapP f n (sift f n (swp l f (f + n)) 0)

theorem heapB_spec (f hi : Nat) : ∀ (n : Nat) (l : List Int),n≤hi→f + hi≤l.length→heapFrom f hi n l→PO f (f + hi) l (heapB f hi n l)∧heapFrom f hi 0 (heapB f hi n l)
 | 0,l,_,_,h=>⟨PO.refl _ _ _,h⟩
 | n + 1,l,hn,hl,h=>by
  obtain ⟨p1,p2⟩:=sift_spec f hi n _ l n (Nat.le_refl _) (Nat.le_refl _) (.inl (by omega)) hl ⟨fun c c0 c1 c2 c3=>h c c0 c1 (by omega),fun c c0 c1 c2 c3 c4=>by omega⟩
  obtain ⟨q1,q2⟩:=heapB_spec f hi n (sift f hi l n) (by omega) (by rw [p1.len];exact hl) p2
  exact ⟨(p1.wide (by omega) (Nat.le_refl _)).trans q1,q2⟩

theorem heap_top {f hi : Nat} {l : List Int} (h : heapFrom f hi 0 l) : ∀ (n k : Nat),k≤n→k < hi→gI l (f + k)≤gI l f
 | 0,k,hk,_=>by rw [show k = 0 by omega];exact Int.le_refl _
 | n + 1,k,hk,hh=>by
  rcases Nat.eq_zero_or_pos k with h0 | h0
  ·rw [h0];exact Int.le_refl _
  ·have h1:=h k h0 hh (by omega)
   have h2:=heap_top h n ((k - 1) / 2) (by omega) (by omega)
   omega

theorem heapP_spec (f N : Nat) : ∀ (n : Nat) (l : List Int),n≤N→f + N≤l.length→heapFrom f n 0 l→(∀ i j,f + n≤i→i≤j→j < f + N→gI l i≤gI l j)→(∀ i j,f≤i→i < f + n→f + n≤j→j < f + N→gI l i≤gI l j) →
  PO f (f + N) l (heapP f n l)∧∀ i j,f≤i→i≤j→j < f + N→gI (heapP f n l) i≤gI (heapP f n l) j
 | 0,l,_,_,_,hs,_=>⟨PO.refl _ _ _,fun i j h1 h2 h3=>hs i j (by omega) h2 h3⟩
 | n + 1,l,hn,hl,hh,hs,hx=>by
  have hPO1 : PO f (f + (n + 1)) l (swp l f (f + n)):=PO.swp (by omega) (by omega) (by omega) (by omega) (by omega)
  have gs : ∀ k,gI (swp l f (f + n)) k = if k = f + n then gI l f else if k = f then gI l (f + n) else gI l k:=fun k=>gI_swp (by omega) (by omega) k
  have hlen : (swp l f (f + n)).length = l.length:=swp_len _ _ _
  obtain ⟨p1,p2⟩:=sift_spec f n 0 _ (swp l f (f + n)) 0 (Nat.le_refl _) (Nat.le_refl _) (by omega) (by omega)
   ⟨fun c c0 c1 c2 c3=>by
    rw [gs,gs,if_neg (by omega),if_neg (by omega),if_neg (by omega),if_neg (by omega)]
    exact hh c c0 (by omega) (by omega),fun c c0 c1 c2 c3 c4=>by omega⟩
  have hl2 : (sift f n (swp l f (f + n)) 0).length = l.length:=by rw [p1.len,hlen]
  have out : ∀ k,f + n≤k→gI (sift f n (swp l f (f + n)) 0) k = gI (swp l f (f + n)) k:=fun k hk=>p1.out k (.inr (by omega))
  have top : ∀ k,f≤k→k < f + (n + 1)→gI l k≤gI l f:=fun k k1 k2=>by
   have:=heap_top hh _ (k - f) (Nat.le_refl _) (by omega)
   rwa [show f + (k - f) = k by omega] at this
  obtain ⟨q1,q2⟩:=heapP_spec f N n (sift f n (swp l f (f + n)) 0) (by omega) (by omega) p2
   (fun i j h1 h2 h3=>by
    rw [out i h1,out j (by omega),gs,gs]
    by_cases e1 : i = f + n
    ·rw [if_pos e1]
     by_cases e2 : j = f + n
     ·rw [if_pos e2];exact Int.le_refl _
     ·rw [if_neg e2,if_neg (by omega)]
      exact hx f j (by omega) (by omega) (by omega) h3
    ·rw [if_neg e1,if_neg (by omega),if_neg (by omega),if_neg (by omega)]
     exact hs i j (by omega) h2 h3)
   (fun i j h1 h2 h3 h4=>by
    have hi : ∀ k,f + 0≤k→k < f + n→gI (sift f n (swp l f (f + n)) 0) k≤gI l f :=
     p1.all (p:=fun x=>x≤gI l f) (by omega) (by omega) fun k k1 k2=>by
      rw [gs,if_neg (by omega)]
      split
      ·exact top _ (by omega) (by omega)
      ·exact top k (by omega) (by omega)
    have h5:=hi i h1 h2
    rw [out j h3,gs]
    by_cases e : j = f + n
    ·rw [if_pos e];exact h5
    ·rw [if_neg e,if_neg (by omega)]
     exact Int.le_trans h5 (hx f j (by omega) (by omega) (by omega) h4))
  exact ⟨((hPO1.wide (Nat.le_refl _) (by omega)).trans (p1.wide (by omega) (by omega))).trans q1,q2⟩

def heapS (a b : Nat) (l : List Int) : List Int:=heapP a (b - a) (heapB a (b - a) ((b - a - 1) / 2 + 1) l)
theorem heapS_eq {a b : Nat} {l : List Int} (hab : a < b) (hb : b≤l.length) : heapS a b l = srt a b l:=by
 obtain ⟨p1,p2⟩:=heapB_spec a (b - a) ((b - a - 1) / 2 + 1) l (by omega) (by omega) (fun c c0 c1 c2=>by omega)
 rw [show a + (b - a) = b by omega] at p1
 obtain ⟨q1,q2⟩:=heapP_spec a (b - a) (b - a) (heapB a (b - a) ((b - a - 1) / 2 + 1) l) (Nat.le_refl _) (by rw [p1.len];omega) p2 (fun i j h1 h2 h3=>by omega) (fun i j h1 h2 h3 h4=>by omega)
 rw [show a + (b - a) = b by omega] at q1 q2
 have:=srt_id (by omega) (by rw [q1.len,p1.len];exact hb) q2
 rw [← (p1.trans q1).srt (by omega)]
 exact this.symm

end Go.Abs

namespace Go.Abs
open Go Go.Proofs
set_option linter.unusedVariables false

def sortedOn (a b : Nat) (l : List Int) : Prop:=∀ i k,a≤i→i≤k→k < b→gI l i≤gI l k
theorem sortedOn_more {a b : Nat} {l : List Int} (h : sortedOn a b l) (hx : a < b→gI l (b - 1)≤gI l b) : sortedOn a (b + 1) l:=fun i k h1 h2 h3=>by
 rcases Nat.lt_or_ge k b with hk | hk
 ·exact h i k h1 h2 hk
 ·rcases Nat.lt_or_ge i k with hi | hi
  ·have h4:=h i (b - 1) h1 (by omega) (by omega)
   have h5:=hx (by omega)
   rw [show k = b by omega];omega
  ·rw [show i = k by omega];exact Int.le_refl _

def shL : List Int→Nat→List Int
 | l,0=>l
 | l,j + 1=>if gI l (j + 1) < gI l j then shL (swp l (j + 1) j) j else l
def shR (b : Nat) (l : List Int) (j : Nat) : List Int:=if j < b∧gI l j < gI l (j - 1) then shR b (swp l j (j - 1)) (j + 1) else l
termination_by b - j

theorem shL_spec (a : Nat) : ∀ (j : Nat) (l : List Int),a≤j→j < l.length→sortedOn a j l→(∀ k,a≤k→k≤j→0 < a→gI l (a - 1)≤gI l k)→PO a (j + 1) l (shL l j)∧sortedOn a (j + 1) (shL l j)
 | 0,l,ha,hj,hs,hb=>by
  refine ⟨PO.refl _ _ _,fun i k h1 h2 h3=>?_⟩
  rw [show i = k by omega];exact Int.le_refl _
 | j + 1,l,ha,hj,hs,hb=>by
  unfold shL
  split
  ·rename_i h
   have haj : a≤j:=by
    rcases Nat.lt_or_ge j a with h1 | h1
    ·have:=hb (j + 1) ha (Nat.le_refl _) (by omega)
     rw [show a - 1 = j by omega] at this;omega
    ·exact h1
   have gs : ∀ k,gI (swp l (j + 1) j) k = if k = j then gI l (j + 1) else if k = j + 1 then gI l j else gI l k:=fun k=>gI_swp hj (by omega) k
   obtain ⟨p1,p2⟩:=shL_spec a j (swp l (j + 1) j) haj (by rw [swp_len];omega)
    (fun i k h1 h2 h3=>by
     rw [gs,gs,if_neg (by omega),if_neg (by omega),if_neg (by omega),if_neg (by omega)]
     exact hs i k h1 h2 (by omega))
    (fun k h1 h2 h3=>by
     rw [gs,gs,if_neg (show ¬ a - 1 = j by omega),if_neg (by omega)]
     split
     ·exact hb _ (by omega) (by omega) h3
     ·rw [if_neg (by omega)];exact hb k h1 (by omega) h3)
   refine ⟨(PO.swp (by omega) (by omega) (by omega) (by omega) (by omega)).trans (p1.wide (Nat.le_refl _) (by omega)),sortedOn_more p2 fun _=>?_⟩
   rw [p1.out (j + 1) (.inr (by omega)),gs,if_neg (by omega),if_pos rfl]
   have hall : ∀ k,a≤k→k < j + 1→gI (shL (swp l (j + 1) j) j) k≤gI l j:=p1.all (p:=fun x=>x≤gI l j) (by omega) (by rw [swp_len];omega) fun k k1 k2=>by
    rw [gs]
    split
    ·omega
    ·rw [if_neg (by omega)];exact hs k j k1 (by omega) (by omega)
   exact hall _ (by omega) (by omega)
  ·rename_i h
   refine ⟨PO.refl _ _ _,sortedOn_more hs fun _=>?_⟩
   rw [Nat.add_sub_cancel];omega

theorem shR_PO (b i : Nat) : ∀ (n : Nat) (l : List Int) (j : Nat),b - j≤n→i < j→b≤l.length→PO i b l (shR b l j)
 | n,l,j,hn,hi,hb=>by
  rw [shR]
  split
  ·rename_i h
   match n with
   | 0=>omega
   | n + 1=>exact (PO.swp hb (by omega) (by omega) (by omega) (by omega)).trans (shR_PO b i n (swp l j (j - 1)) (j + 1) (by omega) (by omega) (by rw [swp_len];exact hb))
  ·exact PO.refl _ _ _

def nextI (l : List Int) (i b : Nat) : Nat:=up (fun k=>!decide (gI l k < gI l (k - 1))) i (b - 1)
def pisL (a b : Nat) (l : List Int) (i : Nat) : List Int:=if 2≤i - a then shL (swp l i (i - 1)) (i - 1) else swp l i (i - 1)
def pisR (a b : Nat) (l : List Int) (i : Nat) : List Int:=if 2≤b - i then shR b (pisL a b l i) (i + 1) else pisL a b l i
def pis (a b : Nat) : Nat→List Int→Nat→List Int × Bool
 | 0,l,_=>(l,false)
 | n + 1,l,i=>if nextI l i b = b then (l,true) else if b - a < 50 then (l,false) else pis a b n (pisR a b l (nextI l i b)) (nextI l i b)

theorem pis_spec (a b : Nat) : ∀ (n : Nat) (l : List Int) (i : Nat),a < i→i≤b→b≤l.length→sortedOn a i l→(∀ k,a≤k→k < b→0 < a→gI l (a - 1)≤gI l k) →
  PO a b l (pis a b n l i).1∧((pis a b n l i).2 = true→sortedOn a b (pis a b n l i).1)
 | 0,l,i,_,_,_,_,_=>⟨PO.refl _ _ _,fun h=>by cases h⟩
 | n + 1,l,i,hai,hib,hb,hs,hlow=>by
  obtain ⟨u1,u2,u3,u4⟩:=up_spec (fun k=>!decide (gI l k < gI l (k - 1))) (b - 1) _ i (Nat.le_refl _) (by omega)
  unfold pis
  obtain ⟨p,hp⟩ : ∃ p,p = nextI l i b:=⟨_,rfl⟩
  have hp' : p = up (fun k=>!decide (gI l k < gI l (k - 1))) i (b - 1):=hp
  rw [← hp'] at u1 u2 u3 u4
  rw [← hp]
  have hs' : ∀ m,i + m≤p→sortedOn a (i + m) l:=by
   intro m
   induction m with
   | zero=>intro _;exact hs
   | succ m ih =>
    intro hm
    refine sortedOn_more (ih (by omega)) fun _=>?_
    have:=u3 (i + m) (by omega) (by omega)
    simp at this;exact this
  have hsp : sortedOn a p l:=by have:=hs' (p - i) (by omega);rwa [show i + (p - i) = p by omega] at this
  split
  ·rename_i h
   refine ⟨PO.refl _ _ _,fun _=>by rw [← h];exact hsp⟩
  split
  ·exact ⟨PO.refl _ _ _,fun h=>by cases h⟩
  ·rename_i h1 h2
   have hpb : p < b:=by omega
   have gs : ∀ k,gI (swp l p (p - 1)) k = if k = p - 1 then gI l p else if k = p then gI l (p - 1) else gI l k:=fun k=>gI_swp (by omega) (by omega) k
   have hlow1 : ∀ k,a≤k→k < b→0 < a→gI (swp l p (p - 1)) (a - 1)≤gI (swp l p (p - 1)) k:=fun k k1 k2 k3=>by
    rw [gs,gs,if_neg (show ¬ a - 1 = p - 1 by omega),if_neg (show ¬ a - 1 = p by omega)]
    split
    ·exact hlow _ (by omega) hpb k3
    split
    ·exact hlow _ (by omega) (by omega) k3
    ·exact hlow k k1 k2 k3
   have hL : PO a b l (pisL a b l p)∧sortedOn a p (pisL a b l p):=by
    unfold pisL
    split
    ·obtain ⟨q1,q2⟩:=shL_spec a (p - 1) (swp l p (p - 1)) (by omega) (by rw [swp_len];omega)
      (fun i' k k1 k2 k3=>by
       rw [gs,gs,if_neg (by omega),if_neg (by omega),if_neg (by omega),if_neg (by omega)]
       exact hsp i' k k1 k2 (by omega)) (fun k k1 k2 k3=>hlow1 k k1 (by omega) k3)
     rw [show p - 1 + 1 = p by omega] at q1 q2
     exact ⟨(PO.swp hb (by omega) (by omega) (by omega) (by omega)).trans (q1.wide (Nat.le_refl _) (by omega)),q2⟩
    ·refine ⟨PO.swp hb (by omega) (by omega) (by omega) (by omega),fun i' k k1 k2 k3=>?_⟩
     rw [show i' = k by omega];exact Int.le_refl _
   have hR : PO a b l (pisR a b l p)∧sortedOn a p (pisR a b l p):=by
    unfold pisR
    split
    ·have q:=shR_PO b p _ (pisL a b l p) (p + 1) (Nat.le_refl _) (by omega) (by rw [hL.1.len];exact hb)
     refine ⟨hL.1.trans (q.wide (by omega) (Nat.le_refl _)),fun i' k k1 k2 k3=>?_⟩
     rw [q.out i' (.inl (by omega)),q.out k (.inl (by omega))]
     exact hL.2 i' k k1 k2 k3
    ·exact hL
   obtain ⟨r1,r2⟩:=pis_spec a b n (pisR a b l p) p (by omega) (by omega) (by rw [hR.1.len];exact hb) hR.2 (fun k k1 k2 k3=>by
    rw [hR.1.out (a - 1) (.inl (by omega))]
    exact hR.1.all (p:=fun x=>gI l (a - 1)≤x) (by omega) hb (fun k k1 k2=>hlow k k1 k2 k3) k k1 k2)
   exact ⟨hR.1.trans r1,r2⟩

def revL (l : List Int) (i j : Nat) : List Int:=if i < j then revL (swp l i j) (i + 1) (j - 1) else l
termination_by j - i
theorem revL_PO (a b : Nat) : ∀ (n : Nat) (l : List Int) (i j : Nat),j - i≤n→a≤i→j < b→b≤l.length→PO a b l (revL l i j)
 | n,l,i,j,hn,ha,hj,hb=>by
  rw [revL]
  split
  ·rename_i h
   match n with
   | 0=>omega
   | n + 1=>exact (PO.swp hb (by omega) (by omega) (by omega) (by omega)).trans (revL_PO a b n _ (i + 1) (j - 1) (by omega) (by omega) (by omega) (by rw [swp_len];exact hb))
  ·exact PO.refl _ _ _

def ord2 (l : List Int) (a b s : Nat) : Nat × Nat × Nat:=if gI l b < gI l a then (b,a,s + 1) else (a,b,s)
def med3 (l : List Int) (a b c s : Nat) : Nat × Nat :=
 let x:=ord2 l a b s
 let y:=ord2 l x.2.1 c x.2.2
 let z:=ord2 l x.1 y.1 y.2.2
 (z.2.1,z.2.2)
theorem ord2_in (l : List Int) (a b s : Nat) {p : Nat→Prop} (ha : p a) (hb : p b) : p (ord2 l a b s).1∧p (ord2 l a b s).2.1:=by
 unfold ord2;split <;> exact ⟨by assumption,by assumption⟩
theorem ord2_s (l : List Int) (a b s : Nat) : s≤(ord2 l a b s).2.2∧(ord2 l a b s).2.2≤s + 1:=by
 unfold ord2;split <;> simp
theorem med3_in (l : List Int) (a b c s : Nat) {p : Nat→Prop} (ha : p a) (hb : p b) (hc : p c) : p (med3 l a b c s).1:=by
 unfold med3
 have h1:=ord2_in l a b s (p:=p) ha hb
 have h2:=ord2_in l (ord2 l a b s).2.1 c (ord2 l a b s).2.2 (p:=p) h1.2 hc
 exact (ord2_in l _ _ _ (p:=p) h1.1 h2.1).2
theorem med3_s (l : List Int) (a b c s : Nat) : (med3 l a b c s).2≤s + 3:=by
 unfold med3
 have h1:=ord2_s l a b s
 have h2:=ord2_s l (ord2 l a b s).2.1 c (ord2 l a b s).2.2
 have h3:=ord2_s l (ord2 l a b s).1 (ord2 l (ord2 l a b s).2.1 c (ord2 l a b s).2.2).1 (ord2 l (ord2 l a b s).2.1 c (ord2 l a b s).2.2).2.2
 simp only
 omega

end Go.Abs

namespace Go.Abs
open Go Go.Proofs
set_option maxRecDepth 100000
set_option linter.unusedSimpArgs false
set_option maxHeartbeats 4000000

theorem set_nrow {l : List Int} {i : Nat} {x : Int} : (l.map nrow).set i [C.v (.int .i64 x)] = (l.set i x).map nrow:=by rw [List.map_set];rfl
theorem swp_fold {l : List Int} {i j : Nat} : (l.set i (gI l j)).set j (gI l i) = swp l i j:=rfl
theorem gI_get' {l : List Int} {k : Nat} (h : k < l.length) : l[k]'h = gI l k:=gI_get h
abbrev arrI (T : TypeId) (l : List Int) : Ent:=.arr T 1 (l.map nrow) false
theorem natAdd {a b : Nat} : ((a : Int) + (b : Int)).toNat = a + b:=by omega
theorem natAdd1 {a b : Nat} : ((a : Int) + (b : Int) + 1).toNat = a + b + 1:=by omega

theorem cmp_isNaN64_con (n : Int) : Con Try.prog 110 [I n] [] (B false) []:=by
 refine C_cmp_isNaN_int64 nl nl ?_
 simp only [cz,A_cmp_isNaN_int64,argL,objL,List.length_nil,zX]
 refine aR 16 ?_
 refine aR 64 ?_
 refine Fin.b (.inr rfl) rfl trivial ?_
 simp

theorem cmp_Less64_con (a b : Int) : Con Try.prog 98 [I a,I b] [] (B (decide (a < b))) []:=by
 refine C_cmp_Less_int64 nl nl ?_
 simp only [cz,A_cmp_Less_int64,argL,objL,List.length_nil,Nat.zero_add,zX]
 refine aR 16 ?_
 refine aB 64 ?_
 refine rC [] (cmp_isNaN64_con a) ?_
 refine RG.go fun Q hQ=>?_
 simp (disch:=intros;contradiction) only [zS,simprocAttr]
 refine hQ ?_
 refine RG.callg _ _ [] rfl (fun hg=>⟨_,(cmp_isNaN64_con b),by (repeat' (first | exact tr_nil | refine tr_cons ?_ ?_ | exact tr_opt (by simpa using hg) tr_v)),trivial,by (exact .inl trivial)⟩) ?_
 refine RG.go fun Q hQ=>?_
 simp (disch:=intros;contradiction) only [zS,simprocAttr]
 refine hQ (RG.nil ?_)
 simp only [zX]
 refine Fin.b (.inr rfl) rfl trivial ?_
 simp

theorem sift_no {f hi : Nat} {l : List Int} {r : Nat} (h : ¬ (2 * r + 1 < hi∧gI l (f + r) < gI l (f + bigC f hi l r))) : sift f hi l r = l:=by rw [sift,if_neg h]
theorem sift_yes {f hi : Nat} {l : List Int} {r c : Nat} (hc : bigC f hi l r = c) (h1 : 2 * r + 1 < hi) (h2 : gI l (f + r) < gI l (f + c)) : sift f hi l r = sift f hi (swp l (f + r) (f + c)) c:=by
 rw [sift,if_pos (by rw [hc];exact ⟨h1,h2⟩),hc]

theorem siftDown64_con (f hi r : Nat) (l : List Int) (hl : l.length≤1000000) (hf : f + hi≤l.length) (hr : r≤hi) :
  Con Try.prog 105 [.c (.osl 0),I r,I hi,I f] [arrI 2 l] (.tup []) [arrI 2 (sift f hi l r)]:=by
 refine C_slices_siftDownOrdered_int64 nl nl ?_
 simp only [cz,A_slices_siftDownOrdered_int64,argL,objL,List.length_nil,List.length_cons,Nat.zero_add,zX,simprocAttr]
 refine aR 16 ?_
 refine aw_loopK (X:={ p : List Int × Nat // p.1.length = l.length∧sift f hi p.1 p.2 = sift f hi l r∧p.2≤hi }) [0,2,3] (fun p=>[(8,I p.1.2)]) [] (fun p=>[(0,arrI 2 p.1.1)]) (fun p=>hi - p.1.2) (⟨(l,r),rfl,rfl,hr⟩) ?_ ?_
 ·skip
  simp only [keepS,keepE,lk_cons,List.cons_append,List.nil_append,simprocAttr]
  refine Le.lit [] [] _ _ ?_ ?_ ?_ ?_
  ·simp only [zL,simprocAttr]
  ·simp only [zL,simprocAttr]
   all_goals (try (exact drows_nrow _))
  ·simp [rlook]
  ·(intro k hk;simp [rlook];omega)
 rintro ⟨⟨m,q⟩,h1,h2,h3⟩
 simp only [keepS,keepE,lk_cons,List.cons_append,List.nil_append,simprocAttr]
 simp only [zX]
 simp only at h1 h2 h3
 have e9 : 2 * (q : Int) + 1 = ((2 * q + 1 : Nat) : Int):=by omega
 have e10 : ((2 * q + 1 : Nat) : Int) + 1 = ((2 * q + 2 : Nat) : Int):=by omega
 refine aS 80 (fun Q hQ=>by simp (disch:=first | (intros;contradiction) | omega | (simp only [zN];omega)) only [zS,zW,e9,simprocAttr];exact hQ) ?_
 refine aR 176 ?_
 refine aw_cond _ rfl trivial (fun ht=>?_) (fun hf=>?_)
 ·skip
  try simp at ht
  simp only [zX,simprocAttr]
  rw [← h2,sift_no (by omega)]
  refine Fin.objs [] [] (.inl rfl) rfl (by exact trivial) ?_ ?_ (by simp [objL,rlook]) (by (simp [objL,rlook];done))
  ·simp only [zL]
  ·simp only [zL,simprocAttr]
   all_goals (try (exact drows_nrow _))
 try simp at hf
 simp only [zX]
 by_cases hg0 : 2 * q + 2 < hi
 ·skip
  refine aw_draw 256 (RG.go fun Q hQ=>?_)
  simp (disch:=first | (intros;contradiction) | omega | (simp only [zN];omega)) only [zS,zW,nrow,gI_get',natAdd,natAdd1,e10,simprocAttr]
  repeat refine ⟨by ((simp;omega)),?_⟩
  refine hQ ?_
  refine rG _ _ (cmp_Less64_con _ _) ?_
  refine aED ?_
  refine aw_cond _ rfl trivial (fun ht=>?_) (fun hf=>?_)
  ·skip
   try simp at ht
   have hb : bigC f hi m q = 2 * q + 2:=by unfold bigC;rw [if_pos ⟨hg0,by have:=ht.2;exact this⟩]
   refine aS 608 (fun Q hQ=>by simp (disch:=first | (intros;contradiction) | omega | (simp only [zN];omega)) only [zS,zW,e10,simprocAttr];exact hQ) ?_
   refine aw_draw 688 (RG.go fun Q hQ=>?_)
   simp (disch:=first | (intros;contradiction) | omega | (simp only [zN];omega)) only [zS,zW,nrow,gI_get',natAdd,simprocAttr]
   repeat refine ⟨by (omega),?_⟩
   refine hQ ?_
   refine rC [] (cmp_Less64_con _ _) ?_
   refine aED ?_
   refine aw_cond _ rfl trivial (fun ht=>?_) (fun hf=>?_)
   ·skip
    try simp at ht
    simp only [zX]
    rw [← h2,sift_no (by rw [hb];omega)]
    refine Fin.objs [] [] (.inr rfl) rfl (by exact trivial) ?_ ?_ (by simp [objL,rlook]) (by (simp [objL,rlook];done))
    ·simp only [zL]
    ·simp only [zL,simprocAttr]
     all_goals (try (exact drows_nrow _))
   try simp at hf
   simp only [zX]
   rw [sift_yes hb (by omega) hf] at h2
   refine aw_draw 944 (RG.go fun Q hQ=>?_)
   simp (disch:=first | (intros;contradiction) | omega | (simp only [zN];omega)) only [zS,zW,nrow,gI_get',natAdd,set_nrow,swp_fold,simprocAttr]
   repeat refine ⟨by (omega),?_⟩
   refine hQ (RG.nil ⟨by decide +kernel,?_⟩)
   simp only [zX]
   refine aR 1360 ?_
   refine ⟨⟨(swp m (f + q) (f + (2 * q + 2)),2 * q + 2),by rw [swp_len];exact h1,h2,by omega⟩,?_,by first | omega | (simp only;omega)⟩
   refine Le.lit [] [] _ _ ?_ ?_ ?_ ?_
   ·simp only [zL,simprocAttr]
   ·simp only [zL,simprocAttr]
    all_goals (try (exact drows_nrow _))
   ·simp [rlook]
   ·(intro k hk;simp [rlook];omega)
  try simp at hf
  simp only [zX]
  have hb : bigC f hi m q = 2 * q + 1:=by unfold bigC;rw [if_neg (by intro hh;have h5:=hf (by omega);have h6:=hh.2;rw [show f + (2 * q + 1) + 1 = f + (2 * q + 2) by omega] at h5;omega)]
  refine aw_draw 1424 (RG.go fun Q hQ=>?_)
  simp (disch:=first | (intros;contradiction) | omega | (simp only [zN];omega)) only [zS,zW,nrow,gI_get',natAdd,simprocAttr]
  repeat refine ⟨by (omega),?_⟩
  refine hQ ?_
  refine rC [] (cmp_Less64_con _ _) ?_
  refine aED ?_
  refine aw_cond _ rfl trivial (fun ht=>?_) (fun hf=>?_)
  ·skip
   try simp at ht
   simp only [zX]
   rw [← h2,sift_no (by rw [hb];omega)]
   refine Fin.objs [] [] (.inr rfl) rfl (by exact trivial) ?_ ?_ (by simp [objL,rlook]) (by (simp [objL,rlook];done))
   ·simp only [zL]
   ·simp only [zL,simprocAttr]
    all_goals (try (exact drows_nrow _))
  try simp at hf
  simp only [zX]
  rw [sift_yes hb (by omega) hf] at h2
  refine aw_draw 1680 (RG.go fun Q hQ=>?_)
  simp (disch:=first | (intros;contradiction) | omega | (simp only [zN];omega)) only [zS,zW,nrow,gI_get',natAdd,set_nrow,swp_fold,simprocAttr]
  repeat refine ⟨by (omega),?_⟩
  refine hQ (RG.nil ⟨by decide +kernel,?_⟩)
  simp only [zX]
  refine aR 2096 ?_
  refine ⟨⟨(swp m (f + q) (f + (2 * q + 1)),2 * q + 1),by rw [swp_len];exact h1,h2,by omega⟩,?_,by first | omega | (simp only;omega)⟩
  refine Le.lit [] [] _ _ ?_ ?_ ?_ ?_
  ·simp only [zL,simprocAttr]
  ·simp only [zL,simprocAttr]
   all_goals (try (exact drows_nrow _))
  ·simp [rlook]
  ·(intro k hk;simp [rlook];omega)
 have hb : bigC f hi m q = 2 * q + 1:=by unfold bigC;rw [if_neg (by omega)]
 refine aw_draw 2160 (RG.go fun Q hQ=>?_)
 simp (disch:=first | (intros;contradiction) | omega | (simp only [zN];omega)) only [zS,zW,nrow,gI_get',natAdd,natAdd1,e10,simprocAttr]
 repeat refine ⟨by ((simp;omega)),?_⟩
 refine hQ ?_
 refine RG.callg (res:=B false) _ _ [] rfl (fun hg=>by simp at hg;omega) ?_
 refine aED ?_
 refine aw_cond _ rfl trivial (fun ht=>by simp at ht <;> omega) (fun hf=>?_)
 simp only [zX]
 refine aw_draw 2512 (RG.go fun Q hQ=>?_)
 simp (disch:=first | (intros;contradiction) | omega | (simp only [zN];omega)) only [zS,zW,nrow,gI_get',natAdd,simprocAttr]
 repeat refine ⟨by (omega),?_⟩
 refine hQ ?_
 refine rC [] (cmp_Less64_con _ _) ?_
 refine aED ?_
 refine aw_cond _ rfl trivial (fun ht=>?_) (fun hf=>?_)
 ·skip
  try simp at ht
  simp only [zX]
  rw [← h2,sift_no (by rw [hb];omega)]
  refine Fin.objs [] [] (.inr rfl) rfl (by exact trivial) ?_ ?_ (by simp [objL,rlook]) (by (simp [objL,rlook];done))
  ·simp only [zL]
  ·simp only [zL,simprocAttr]
   all_goals (try (exact drows_nrow _))
 try simp at hf
 simp only [zX]
 rw [sift_yes hb (by omega) hf] at h2
 refine aw_draw 2768 (RG.go fun Q hQ=>?_)
 simp (disch:=first | (intros;contradiction) | omega | (simp only [zN];omega)) only [zS,zW,nrow,gI_get',natAdd,set_nrow,swp_fold,simprocAttr]
 repeat refine ⟨by (omega),?_⟩
 refine hQ (RG.nil ⟨by decide +kernel,?_⟩)
 simp only [zX]
 refine aR 3184 ?_
 refine ⟨⟨(swp m (f + q) (f + (2 * q + 1)),2 * q + 1),by rw [swp_len];exact h1,h2,by omega⟩,?_,by first | omega | (simp only;omega)⟩
 refine Le.lit [] [] _ _ ?_ ?_ ?_ ?_
 ·simp only [zL,simprocAttr]
 ·simp only [zL,simprocAttr]
  all_goals (try (exact drows_nrow _))
 ·simp [rlook]
 ·(intro k hk;simp [rlook];omega)

end Go.Abs

