/- What the functions that the law comes to do, part 1. No condition. -/
import Derived.Test.YtidooialknbgaaaCode
set_option linter.unusedVariables false
set_option linter.unusedSimpArgs false
set_option linter.unnecessarySimpa false
namespace Go.Abs

def crcP : BitVec 32:=0x82f63b78#32
def crcS (c : BitVec 32) : BitVec 32:=(c >>> 1) ^^^ (if c.getLsbD 0 then crcP else 0#32)
def crcN : Nat→BitVec 32→BitVec 32
 | 0,c=>c
 | n + 1,c=>crcN n (crcS c)
end Go.Abs

namespace Go.Abs
open Go
theorem wrap_u32' (n : Int) : IntKind.u32.wrap n = n % 4294967296:=by rw [IntKind.wrap_u32]
theorem u32_wrap (a : BitVec 32) : IntKind.u32.wrap (a.toNat : Int) = a.toNat:=by
 have:=a.isLt
 rw [wrap_u32'];omega
theorem ofInt_nat (a : BitVec 32) : BitVec.ofInt 32 (a.toNat : Int) = a:=by
 apply BitVec.eq_of_toNat_eq
 rw [BitVec.toNat_ofInt]
 have:=a.isLt
 omega
theorem bits_xor (a b : BitVec 32) : bitsI .xor .u32 (a.toNat : Int) (b.toNat : Int) = ((a ^^^ b).toNat : Int):=by
 show IntKind.u32.wrap ((BitVec.ofInt 32 (a.toNat : Int) ^^^ BitVec.ofInt 32 (b.toNat : Int)).toNat) = _
 rw [ofInt_nat,ofInt_nat,u32_wrap]
theorem bits_one (a : BitVec 32) : bitsI .and .u32 (a.toNat : Int) 1 = if a.getLsbD 0 then 1 else 0:=by
 show IntKind.u32.wrap ((BitVec.ofInt 32 (a.toNat : Int) &&& BitVec.ofInt 32 1).toNat) = _
 rw [ofInt_nat,u32_wrap,BitVec.toNat_and]
 have e : (BitVec.ofInt 32 1).toNat = 1:=by decide
 rw [e,Nat.and_one_is_mod,show a.getLsbD 0 = a.toNat.testBit 0 from rfl,Nat.testBit_zero]
 split
 ·rename_i h;simp at h;omega
 ·rename_i h;simp at h;omega
theorem bits_not (a : BitVec 32) : bitsI .xor .u32 4294967295 (a.toNat : Int) = ((~~~a).toNat : Int):=by
 show IntKind.u32.wrap ((BitVec.ofInt 32 4294967295 ^^^ BitVec.ofInt 32 (a.toNat : Int)).toNat) = _
 rw [ofInt_nat,u32_wrap]
 have e : BitVec.ofInt 32 4294967295 = BitVec.allOnes 32:=by decide
 rw [e,BitVec.xor_comm,BitVec.xor_allOnes]
theorem crc_round (c : BitVec 32) : bitsI .xor .u32 ((c.toNat : Int) / 2) (IntKind.u32.wrap (2197175160 * bitsI .and .u32 (c.toNat : Int) 1)) = ((crcS c).toNat : Int):=by
 have e1 : ((c.toNat : Int) / (2 : Int)) = ((c >>> 1).toNat : Int):=by
  rw [BitVec.toNat_ushiftRight,Nat.shiftRight_eq_div_pow];omega
 have e2 : IntKind.u32.wrap (2197175160 * bitsI .and .u32 (c.toNat : Int) 1) = ((if c.getLsbD 0 then crcP else 0#32 : BitVec 32).toNat : Int):=by
  rw [bits_one,wrap_u32']
  split <;> simp [crcP]
 rw [e1,e2,bits_xor]
 rfl
def crcY (c : BitVec 32) (x : Nat) : BitVec 32:=crcN 8 (c ^^^ BitVec.ofNat 32 x)
def crcB (c : BitVec 32) (l : List Nat) : BitVec 32:=l.foldl crcY c
theorem byte_xor (c : BitVec 32) {x : Nat} (hx : x < 256) : bitsI .xor .u32 (c.toNat : Int) (x : Int) = ((c ^^^ BitVec.ofNat 32 x).toNat : Int):=by
 have e : (x : Int) = ((BitVec.ofNat 32 x).toNat : Int):=by rw [BitVec.toNat_ofNat];omega
 rw [e,bits_xor]
def crcM (c : BitVec 32) (l : List Nat) : BitVec 32:=(~~~crcB (~~~c) l)
end Go.Abs

namespace Go.Abs
open Go
end Go.Abs

namespace Go.Abs
open Go
def fourB (c : BitVec 32) : List Nat:=[c.toNat % 256,c.toNat / 256 % 256,c.toNat / 65536 % 256,c.toNat / 16777216 % 256]
theorem fourB_len (c : BitVec 32) : (fourB c).length = 4:=rfl
theorem fourB_by (c : BitVec 32) : ∀ x ∈ fourB c,x < 256:=by
 intro x hx
 simp only [fourB,List.mem_cons,List.not_mem_nil,or_false] at hx
 rcases hx with rfl | rfl | rfl | rfl <;> omega
def sealB (l : List Nat) : List Nat:=l ++ fourB (crcM 0#32 l)
def openB (l : List Nat) : List Nat × Bool:=if 4≤l.length∧l.drop (l.length - 4) = fourB (crcM 0#32 (l.take (l.length - 4))) then (l.take (l.length - 4),true) else ([],false)
theorem open_seal (l : List Nat) : openB (sealB l) = (l,true):=by
 have h1 : (sealB l).length = l.length + 4:=by simp [sealB,fourB_len]
 have h2 : (sealB l).take ((sealB l).length - 4) = l:=by rw [h1];simp [sealB]
 have h3 : (sealB l).drop ((sealB l).length - 4) = fourB (crcM 0#32 l):=by rw [h1];simp [sealB]
 unfold openB
 rw [h2,h3,if_pos ⟨by omega,rfl⟩]
theorem seal_by {l : List Nat} (h : ∀ x ∈ l,x < 256) : ∀ x ∈ sealB l,x < 256:=by
 intro x hx
 rcases List.mem_append.1 hx with hx | hx
 ·exact h x hx
 ·exact fourB_by _ x hx
end Go.Abs

namespace Go.Abs
open Go Go.Proofs
set_option maxRecDepth 100000
set_option linter.unusedSimpArgs false
set_option maxHeartbeats 8000000
theorem pack_Put_con (l : List Nat) (hb : l.length * 10≤140737488355328) (hl : ∀ n ∈ l,n < 18446744073709551616) : Con Try.prog 10 [.c (.sl (l.map urow))] [] (.c (.osl 0)) [.arr 5 1 ((putS l).map brow) false]:=by
 refine C_pack_Put nl nl ?_
 simp only [cz,A_pack_Put,argL,objL,List.length_nil,zX]
 refine aR 16 ?_
 refine aR 160 ?_
 refine aR 320 ?_
 refine aw_loop (X:={ i : Nat // i≤l.length }) (fun i=>mkSt [(3,.c (.osl 1000)),(6,.c (.sl (l.map urow))),(7,I l.length),(8,I i.1)] [(1000,.arr 5 1 ((putS (l.take i.1)).map brow) false)]) (fun i=>l.length - i.1) ⟨0,Nat.zero_le _⟩ ?_ ?_
 ·refine (Le.own 3 1000 5 1 rfl rfl (by decide)).trans (Le.lit [] [] _ _ ?_ ?_ ?_ ?_)
  ·skip
   simp only [zL,simprocAttr]
   simp
  ·skip
   simp only [zL,simprocAttr]
   simp [putS]
  ·simp
  ·simp
 rintro ⟨i,hi⟩
 simp only [zX]
 refine aR 480 ?_
 refine aw_cond _ rfl trivial (fun ht=>?_) (fun hf=>?_)
 rotate_left
 ·skip
  simp only [zX,↓reduceIte]
  refine aR 640 ?_
  have hi' : i = l.length:=by simp at hf;omega
  subst hi'
  refine Fin.objs [] [(0,1000)] (.inr rfl) rfl trivial ?_ ?_ ?_ ?_
  ·skip
   simp only [zL,simprocAttr]
  ·skip
   simp only [zL,simprocAttr]
   simp [brow,C.isD]
  ·simp [objL]
  ·simp
 have hi' : i < l.length:=by simpa using ht
 have hr : (List.map urow l)[(i : Int).toNat]?.getD [] = [.v (.int .u64 l[i])]:=by simp [hi',urow]
 simp only [zX]
 refine aw_reg 640 (RG.go fun Q hQ=>?_)
 simp only [zS,hr,simprocAttr]
 refine ⟨by simp;omega,hQ (RG.nil ?_)⟩
 simp only [zX]
 refine aw_loop (X:={ p : Nat × List Nat // p.2 ++ num7 p.1 = putS (l.take i) ++ num7 l[i]∧p.1 < 18446744073709551616 }) (fun p=>mkSt [(3,.c (.osl 1000)),(5,.c (.v (.int .u64 p.1.1))),(6,.c (.sl (l.map urow))),(7,I l.length),(8,I i)] [(1000,.arr 5 1 (p.1.2.map brow) false)]) (fun p=>p.1.1) ⟨(l[i],putS (l.take i)),rfl,hl _ (List.getElem_mem hi')⟩ ?_ ?_
 ·refine Le.lit [] [] _ _ ?_ ?_ ?_ ?_
  ·skip
   simp only [zL,simprocAttr]
  ·skip
   simp only [zL,simprocAttr]
   simp [brow,C.isD]
  ·simp
  ·simp
 rintro ⟨⟨n,acc⟩,hp,hn⟩
 simp only [zX]
 refine aR 800 ?_
 refine aw_cond _ rfl trivial (fun ht=>?_) (fun hf=>?_)
 ·have hn' : 128≤n:=by simp at ht;omega
  have hlen : acc.length + (num7 n).length≤l.length * 10:=by
   have h0:=putS_len (l.take (i + 1)) fun m hm=>hl m (List.mem_of_mem_take hm)
   rw [putS_take l i hi',← hp] at h0
   simp at h0
   omega
  have hpos:=num7_pos n
  simp only [zX]
  refine aw_reg 1200 (RG.go fun Q hQ=>?_)
  simp only [zS,simprocAttr]
  refine ⟨⟨by simp,by simp;omega⟩,hQ (RG.nil ?_)⟩
  simp only [zX]
  refine aR 1400 ?_
  refine ⟨⟨(n / 128,acc ++ [n % 128 + 128]),?_,by simp only;omega⟩,?_,by simp only;omega⟩
  ·have h7 : num7 n = (n % 128 + 128) :: num7 (n / 128):=by rw [num7,if_neg (by omega)]
   rw [← hp,h7]
   simp
  refine Le.lit [] [(1000,1280)] _ _ ?_ ?_ ?_ ?_
  ·skip
   simp only [zL,simprocAttr]
   rw [shr7]
  ·skip
   simp only [zL,simprocAttr]
   refine ⟨by simp [or128,brow],drows_brow _⟩
  ·simp
  ·simp
 have hn' : n < 128:=by simp at hf;omega
 have hlen : acc.length + (num7 n).length≤l.length * 10:=by
  have h0:=putS_len (l.take (i + 1)) fun m hm=>hl m (List.mem_of_mem_take hm)
  rw [putS_take l i hi',← hp] at h0
  simp at h0
  omega
 have hpos:=num7_pos n
 simp only [zX,↓reduceIte]
 refine aw_reg 1200 (RG.go fun Q hQ=>?_)
 simp only [zS,simprocAttr]
 refine ⟨⟨by simp,by simp;omega⟩,hQ (RG.nil ?_)⟩
 simp only [zX]
 refine aR 1400 ?_
 refine ⟨⟨i + 1,hi'⟩,?_,by simp;omega⟩
 refine Le.lit [] [(1000,1264)] _ _ ?_ ?_ ?_ ?_
 ·skip
  simp only [zL,simprocAttr]
  rw [w64 _ (by omega) (by omega)];rfl
 ·skip
  simp only [zL,simprocAttr]
  refine ⟨?_,drows_brow _⟩
  rw [putS_take l i hi',← hp,num7,if_pos hn',u8wrap n hn']
  simp [brow]
 ·simp
 ·simp

theorem slices_Clone_byte_byte_con (rows : List (List C)) (hd : isDRows rows) (h1 : ∀ r ∈ rows,r.length = 1) (hb : rows.length≤140737488355328) : Con Try.prog 42 [.c (.sl rows)] [] (.c (.osl 0)) [.arr 5 1 rows false]:=by
 by_cases hr : rows = []
 ·subst hr
  refine Con.split1 ?_ fun ad cap=>?_
  ·skip
   refine C_slices_Clone_byte_byte nl nl ?_
   simp only [cz,A_slices_Clone_byte_byte,argL,objL,List.length_nil,zX]
   refine aR 16 ?_
   refine aR 160 ?_
   refine aT ?_
   refine aR 320 ?_
   exact Fin.ownNil (.inr rfl) rfl trivial (by decide)
  ·skip
   refine C_slices_Clone_byte_byte nl nl ?_
   simp only [cz,A_slices_Clone_byte_byte,argL,objL,List.length_nil,zX]
   refine aR 16 ?_
   refine aR 160 ?_
   refine aF ?_
   refine aw_reg 320 (RG.go fun Q hQ=>?_)
   simp only [zS,simprocAttr]
   refine ⟨by simp,hQ (RG.nil ?_)⟩
   simp only [zX]
   refine Fin.objs [] [(0,352)] (.inr rfl) rfl trivial ?_ ?_ ?_ ?_
   ·skip
    simp only [zL,simprocAttr]
   ·skip
    simp only [zL,simprocAttr]
    simp
   ·simp [objL]
   ·simp
 ·skip
  refine C_slices_Clone_byte_byte nl nl ?_
  simp only [cz,A_slices_Clone_byte_byte,argL,objL,List.length_nil,zX]
  refine aR 16 ?_
  refine aw_reg 160 (RG.go fun Q hQ=>?_)
  simp only [zS,simprocAttr]
  refine ⟨hr,hQ (RG.nil ?_)⟩
  simp only [zX]
  refine aF ?_
  refine aw_reg 320 (RG.go fun Q hQ=>?_)
  simp only [zS,simprocAttr]
  refine ⟨⟨h1,by omega⟩,hQ (RG.nil ?_)⟩
  simp only [zX]
  refine Fin.objs [] [(0,352)] (.inr rfl) rfl trivial ?_ ?_ ?_ ?_
  ·skip
   simp only [zL,simprocAttr]
  ·skip
   simp only [zL,simprocAttr]
   exact hd
  ·simp [objL]
  ·simp


theorem pack_rest_Err_con (rows : List (List C)) (e : Int) : Con Try.prog 45 [.c (.bp 0 0)] [.box [.sl rows,.v (.int .i64 e)]] (I e) [.box [.sl rows,.v (.int .i64 e)]]:=by
 refine C_pack_rest_Err nl nl ?_
 simp only [cz,A_pack_rest_Err,argL,objL,List.length_nil,List.length_cons,Nat.zero_add,zX]
 refine aR 16 ?_
 refine aR 160 ?_
 refine Fin.objs [] [] (.inr rfl) rfl (by exact trivial) ?_ ?_ (by simp [objL,rlook]) (by (simp [objL,rlook];done))
 ·simp only [zL,simprocAttr]
 ·simp only [zL,↓reduceIte]

theorem pack_rest_fail_con (rows : List (List C)) (e x : Int) : Con Try.prog 44 [.c (.bp 0 0),I x] [.box [.sl rows,.v (.int .i64 e)]] (.tup []) [.box [.sl [],.v (.int .i64 x)]]:=by
 refine C_pack_rest_fail nl nl ?_
 simp only [cz,A_pack_rest_fail,argL,objL,List.length_nil,List.length_cons,Nat.zero_add]
 refine aw_reg 16 (RG.go fun Q hQ=>?_)
 simp only [zS,simprocAttr]
 refine hQ (RG.nil ?_)
 refine Fin.objs [] [] (.inl rfl) rfl trivial ?_ ?_ (by simp [objL,rlook]) (by simp [objL,rlook])
 ·skip
  simp only [zL]
 ·skip
  simp only [zL,↓reduceIte]

theorem pack_Lump_con (l : List Nat) (hb : l.length≤100000000000000) : Con Try.prog 16 [.c (.sl (l.map brow))] [] (.c (.osl 0)) [.arr 5 1 ((num7 l.length ++ l).map brow) false]:=by
 have hw : IntKind.u64.wrap ((l.map brow).length : Int) = (l.length : Int):=by rw [w_u64,List.length_map];omega
 have hl:=num7_len l.length (by omega)
 refine C_pack_Lump nl nl ?_
 simp only [cz,A_pack_Lump,argL,objL,List.length_nil,zX]
 refine aR 16 ?_
 refine aBs 160 (fun Q hQ=>by simp only [zS,hw,simprocAttr];exact hQ) ?_
 refine RG.callo [] [208] (pack_Put_con [l.length] (by simp) (by simp;omega)) (.mk (tr_cons (tr_view (by simp) rfl (by simp [isDRows,urow,C.isD])) tr_nil) (trivial) (by simp) (by simp) (views1 rfl trivial) (by simp [lkE_cons,lkE_nil]) (by simp only [List.mem_singleton,forall_eq,Ent.pure];exact drows_brow _) (by simp) (by simp)) ?_
 refine RG.go fun Q hQ=>?_
 simp only [zS,simprocAttr]
 have hp : putS [l.length] = num7 l.length:=by simp [putS]
 refine ⟨⟨by simp [brow],by simp [hp];omega⟩,hQ (RG.nil ?_)⟩
 simp only [zX]
 refine Fin.objs [] [(0,256)] (.inr rfl) rfl (by exact trivial) ?_ ?_ (by simp [objL,rlook]) (by (simp [objL,rlook];done))
 ·simp only [zL,simprocAttr]
 ·simp only [zL,simprocAttr]
  all_goals (exact ⟨by rw [hp,List.map_append],drows_brow _⟩)

theorem pack_New_con (rows : List (List C)) (hd : isDRows rows) (h1 : ∀ r ∈ rows,r.length = 1) (hb : rows.length≤140737488355328) : Con Try.prog 30 [.c (.sl rows)] [] (.c (.bp 0 0)) [.box [.sl rows,.v (.int .i64 0)]]:=by
 refine C_pack_New nl nl ?_
 simp only [cz,A_pack_New,argL,objL,List.length_nil,zX]
 refine aR 16 ?_
 refine aB 160 ?_
 refine rO [] [] (slices_Clone_byte_byte_con rows hd h1 hb) ?_
 refine aE ?_
 refine Fin.objs [176] [(0,224)] (.inr rfl) rfl (by exact trivial) ?_ ?_ (by simp [objL,rlook]) (by (simp [objL,rlook];done))
 ·simp only [zL,simprocAttr]
 ·simp only [zL,simprocAttr]
  all_goals (exact ⟨⟨_,_,rfl⟩,hd⟩)

def rdN (i acc : Nat) : List Nat→Nat × Nat × Nat
 | []=>(0,0,21)
 | c :: r=>if i = 9∧1 < c then (0,0,20) else
  if 128≤c then rdN (i + 1) (acc + c % 128 * 128 ^ i) r
  else if 0 < i∧c = 0 then (0,0,20) else (acc + c % 128 * 128 ^ i,i + 1,0)

theorem and128 (c : Nat) (h : c < 256) : bitsI .and .u8 c 128 = if 128≤c then 128 else 0:=by
 have h1 : ∀ k : Fin 256,bitsI .and .u8 (k.val : Int) 128 = if 128≤k.val then 128 else 0:=by decide
 exact h1 ⟨c,h⟩

theorem andNot128 (c : Nat) (h : c < 256) : bitsI .andNot .u8 c 128 = ((c % 128 : Nat) : Int):=by
 have h1 : ∀ k : Fin 256,bitsI .andNot .u8 (k.val : Int) 128 = ((k.val % 128 : Nat) : Int):=by decide
 exact h1 ⟨c,h⟩

theorem orNum (i acc c : Nat) (hi : i≤9) (hacc : acc < 128 ^ i) (hc : c < 256) (h9 : i = 9→c≤1) :
  bitsI .or .u64 acc (IntKind.u64.wrap (IntKind.u64.wrap (bitsI .andNot .u8 c 128) * 2 ^ min (IntKind.i64.wrap (7 * i)).toNat IntKind.u64.bits)) = ((acc + c % 128 * 128 ^ i : Nat) : Int):=by
 have e1 : min (IntKind.i64.wrap (7 * (i : Int))).toNat IntKind.u64.bits = 7 * i:=by
  rw [w64 _ (by omega) (by omega)]
  have : IntKind.u64.bits = 64:=rfl
  omega
 have e3 : (128 : Nat) ^ i = 2 ^ (7 * i):=by rw [Nat.pow_mul]
 have hb : c % 128 * 128 ^ i < 9223372036854775808 * 2:=by
  rcases Nat.lt_or_ge i 9 with h | h
  ·have h1 : 128 ^ i≤128 ^ 8:=Nat.pow_le_pow_right (by omega) (by omega)
   have h2 : c % 128 * 128 ^ i≤127 * 128 ^ 8:=Nat.mul_le_mul (by omega) h1
   omega
  ·have : i = 9:=by omega
   subst this
   have:=h9 rfl
   have h2 : c % 128 * 128 ^ 9≤1 * 128 ^ 9:=Nat.mul_le_mul_right _ (by omega)
   omega
 have ha : acc < 18446744073709551616:=by
  have h1 : 128 ^ i≤128 ^ 9:=Nat.pow_le_pow_right (by omega) hi
  omega
 have e4 : IntKind.u64.wrap (((c % 128 : Nat) : Int)) = ((c % 128 : Nat) : Int):=by rw [w_u64];omega
 have e5 : (((c % 128 : Nat) : Int)) * 2 ^ (7 * i) = ((c % 128 * 128 ^ i : Nat) : Int):=by rw [e3];push_cast;rfl
 have e6 : IntKind.u64.wrap ((c % 128 * 128 ^ i : Nat) : Int) = ((c % 128 * 128 ^ i : Nat) : Int):=by rw [w_u64];omega
 rw [andNot128 c hc,e4,e1,e5,e6]
 show IntKind.u64.wrap ((BitVec.ofInt 64 (acc : Int) ||| BitVec.ofInt 64 ((c % 128 * 128 ^ i : Nat) : Int)).toNat : Int) = _
 have e7 : (BitVec.ofInt 64 (acc : Int) ||| BitVec.ofInt 64 ((c % 128 * 128 ^ i : Nat) : Int)).toNat = acc + c % 128 * 128 ^ i:=by
  rw [BitVec.ofInt_natCast,BitVec.ofInt_natCast,BitVec.toNat_or,BitVec.toNat_ofNat,BitVec.toNat_ofNat,Nat.mod_eq_of_lt (by omega),Nat.mod_eq_of_lt (by omega),Nat.or_comm]
  have h:=Nat.shiftLeft_add_eq_or_of_lt (b:=acc) (i:=7 * i) (by rw [← e3];exact hacc) (c % 128)
  rw [Nat.shiftLeft_eq,← e3] at h
  rw [← h,Nat.add_comm]
 rw [e7,w_u64]
 have hs : acc + c % 128 * 128 ^ i < 18446744073709551616:=by
  have h1 : acc + c % 128 * 128 ^ i < (c % 128 + 1) * 128 ^ i:=by rw [Nat.add_mul];omega
  rcases Nat.lt_or_ge i 9 with h | h
  ·have h1' : 128 ^ i≤128 ^ 8:=Nat.pow_le_pow_right (by omega) (by omega)
   have h2 : (c % 128 + 1) * 128 ^ i≤128 * 128 ^ 8:=Nat.mul_le_mul (by omega) h1'
   omega
  ·have : i = 9:=by omega
   subst this
   have:=h9 rfl
   have h2 : (c % 128 + 1) * 128 ^ 9≤2 * 128 ^ 9:=Nat.mul_le_mul_right _ (by omega)
   omega
 omega

theorem pack_number_con (l : List Nat) (hl : ∀ c ∈ l,c < 256) (hb : l.length≤140737488355328) : Con Try.prog 43 [.c (.sl (l.map brow))] [] (.tup [.c (.v (.int .u64 (rdN 0 0 l).1)),I (rdN 0 0 l).2.1,I (rdN 0 0 l).2.2]) []:=by
 refine C_pack_number nl nl ?_
 simp only [cz,A_pack_number,argL,objL,List.length_nil,zX]
 refine aR 16 ?_
 refine aR 160 ?_
 refine aR 320 ?_
 refine aw_loop (X:={ p : Nat × Nat // p.1≤l.length∧p.1≤9∧p.2 < 128 ^ p.1∧rdN p.1 p.2 (l.drop p.1) = rdN 0 0 l }) (fun p=>mkSt [(5,.c (.v (.int .u64 p.1.2))),(8,.c (.sl (l.map brow))),(9,I l.length),(10,I p.1.1)] []) (fun p=>l.length - p.1.1) ⟨(0,0),by simp⟩ ?_ ?_
 ·refine Le.lit [] [] _ _ ?_ ?_ ?_ ?_
  ·skip
   simp only [zL,simprocAttr]
   simp
  ·skip
   simp only [zL,simprocAttr]
  ·simp
  ·simp
 rintro ⟨⟨i,acc⟩,hi,hi9,hacc,hrd⟩
 simp only at hi hi9 hacc hrd
 simp only [zX]
 refine aR 480 ?_
 refine aw_cond _ rfl trivial (fun ht=>?_) (fun hf=>?_)
 rotate_left
 ·skip
  simp only [zX,↓reduceIte]
  refine aR 640 ?_
  have hi' : i = l.length:=by simp at hf;omega
  refine Fin.scalar (.inr rfl) rfl trivial ?_ ?_
  ·rw [hi',List.drop_length] at hrd
   rw [← hrd];rfl
  ·intro s hs
   simp at hs
   rcases hs with rfl | rfl | rfl <;> exact ⟨_,rfl⟩
 have hi' : i < l.length:=by simp at ht;omega
 have hr : (List.map brow l)[(i : Int).toNat]?.getD [] = [.v (.int .u8 l[i])]:=by simp [hi',brow]
 have hc:=hl _ (List.getElem_mem hi')
 rw [List.drop_eq_getElem_cons hi',rdN] at hrd
 generalize l[i] = c at hr hc hrd
 simp only [zX]
 refine aw_reg 640 (RG.go fun Q hQ=>?_)
 simp only [zS,hr,simprocAttr]
 refine ⟨by simp;omega,hQ (RG.nil ?_)⟩
 simp only [zX]
 refine aR 800 ?_
 refine aw_cond _ rfl trivial (fun ht2=>?_) (fun hf2=>?_)
 ·skip
  simp only [zX]
  refine aR 1000 ?_
  have hcc : i = 9∧1 < c:=by simp at ht2;omega
  rw [if_pos hcc] at hrd
  refine Fin.scalar (.inr rfl) rfl trivial (by rw [← hrd];rfl) ?_
  intro s hs
  simp at hs
  rcases hs with rfl | rfl | rfl <;> exact ⟨_,rfl⟩
 have hcc : ¬ (i = 9∧1 < c):=by simp at hf2;omega
 rw [if_neg hcc] at hrd
 have hor:=orNum i acc c hi9 hacc hc (by omega)
 simp only [zX]
 refine aw_reg 1200 (RG.go fun Q hQ=>?_)
 simp only [zS,hor,simprocAttr]
 refine ⟨by rw [w64 _ (by omega) (by omega)];omega,hQ (RG.nil ?_)⟩
 simp only [zX]
 refine aR 1400 ?_
 refine aw_cond _ rfl trivial (fun ht3=>?_) (fun hf3=>?_)
 ·have hc3 : 128≤c:=by have:=and128 c hc;rw [this] at ht3;simp at ht3;omega
  rw [if_pos hc3] at hrd
  simp only [zX,↓reduceIte]
  refine aR 1600 ?_
  refine ⟨⟨(i + 1,acc + c % 128 * 128 ^ i),by simp only;omega,by simp only;omega,?_,hrd⟩,?_,by simp only;omega⟩
  ·simp only
   have h1 : c % 128≤127:=by omega
   have h2:=Nat.mul_le_mul_right (128 ^ i) h1
   have h3 : 128 ^ (i + 1) = 128 * 128 ^ i:=by rw [Nat.pow_succ,Nat.mul_comm]
   omega
  ·refine Le.lit [] [] _ _ ?_ ?_ ?_ ?_
   ·skip
    simp only [zL,simprocAttr]
    rw [w64 _ (by omega) (by omega)];rfl
   ·skip
    simp only [zL,simprocAttr]
   ·simp
   ·simp
 have hc3 : ¬ 128≤c:=by have:=and128 c hc;rw [this] at hf3;simp at hf3;omega
 rw [if_neg hc3] at hrd
 simp only [zX]
 refine aR 1600 ?_
 refine aw_cond _ rfl trivial (fun ht4=>?_) (fun hf4=>?_)
 ·have hc4 : 0 < i∧c = 0:=by simp at ht4;omega
  rw [if_pos hc4] at hrd
  simp only [zX]
  refine aR 1800 ?_
  refine Fin.scalar (.inr rfl) rfl trivial (by rw [← hrd];rfl) ?_
  intro s hs
  simp at hs
  rcases hs with rfl | rfl | rfl <;> exact ⟨_,rfl⟩
 have hc4 : ¬ (0 < i∧c = 0):=by simp at hf4;omega
 rw [if_neg hc4] at hrd
 simp only [zX]
 have hwi : IntKind.i64.wrap ((i : Int) + 1) = ((i + 1 : Nat) : Int):=by rw [w64 _ (by omega) (by omega)];rfl
 refine aS 1800 (fun Q hQ=>by simp only [zS,hwi,simprocAttr];exact hQ) ?_
 refine Fin.scalar (.inr rfl) rfl trivial (by rw [← hrd];rfl) ?_
 intro s hs
 simp at hs
 rcases hs with rfl | rfl | rfl <;> exact ⟨_,rfl⟩

theorem rdN_size : ∀ (l : List Nat) (i acc : Nat),(rdN i acc l).2.2 = 0→(rdN i acc l).2.1≤i + l.length
 | [],i,acc,h=>by simp [rdN] at h
 | c :: r,i,acc,h=>by
  rw [rdN] at h ⊢
  split at h
  ·simp at h
  ·rename_i h1
   rw [if_neg h1]
   split at h
   ·rename_i h2
    rw [if_pos h2]
    have:=rdN_size r (i + 1) _ h
    simp only [List.length_cons];omega
   ·rename_i h2
    rw [if_neg h2]
    split at h
    ·simp at h
    ·rename_i h3
     rw [if_neg h3]
     simp only [List.length_cons];omega

theorem sc3 {a b c : Value} : (SV.tup [.c (.v a),.c (.v b),.c (.v c)]).scalar:=by
 intro s hs
 simp at hs
 rcases hs with rfl | rfl | rfl <;> exact ⟨_,rfl⟩

abbrev Rd (l : List Nat) (e : Nat) : Ent:=.box [.sl (l.map brow),.v (.int .i64 e)]

def numR (most : Nat) (l : List Nat) (e : Nat) : Nat × List Nat × Nat :=
 if e≠0 then (0,l,e) else
 if (rdN 0 0 l).2.2≠0 then (0,[],(rdN 0 0 l).2.2) else
 if most < (rdN 0 0 l).1 then (0,[],22) else ((rdN 0 0 l).1,l.drop (rdN 0 0 l).2.1,0)

theorem pack_Reader_Num_con (l : List Nat) (e most : Nat) (hl : ∀ c ∈ l,c < 256) (hb : l.length≤140737488355328) : Con Try.prog 32 [.c (.bp 0 0),.c (.v (.int .u64 most))] [Rd l e] (.c (.v (.int .u64 (numR most l e).1))) [Rd (numR most l e).2.1 (numR most l e).2.2]:=by
 generalize hN : numR most l e = r
 unfold numR at hN
 refine C_pack_Reader_Num nl nl ?_
 simp only [cz,A_pack_Reader_Num,argL,objL,List.length_nil,List.length_cons,Nat.zero_add,zX]
 refine aR 16 ?_
 refine aR 160 ?_
 refine aw_cond _ rfl trivial (fun ht=>?_) (fun hf=>?_)
 ·skip
  simp only [zX]
  refine aR 320 ?_
  have he : e≠0:=by simp at ht;omega
  rw [if_pos he] at hN
  subst hN
  refine Fin.objs [] [] (.inr rfl) rfl (by exact trivial) ?_ ?_ (by simp [objL,rlook]) (by (simp [objL,rlook];done))
  ·simp only [zL,simprocAttr]
  ·simp only [zL,↓reduceIte]
 have he : e = 0:=by simp at hf;omega
 subst he
 rw [if_neg (by simp)] at hN
 simp only [zX]
 refine aB 400 ?_
 refine rC [] (pack_number_con l hl hb) ?_ (hv:=(trivial)) (hs:=(.inl sc3))
 refine aE ?_
 refine aR 800 ?_
 refine aw_cond _ rfl trivial (fun ht=>?_) (fun hf=>?_)
 ·have h2 : (rdN 0 0 l).2.2≠0:=by simp at ht;omega
  rw [if_pos h2] at hN
  subst hN
  simp only [zX]
  refine aB 1000 ?_
  refine rO [0] [] (pack_rest_fail_con (l.map brow) 0 ((rdN 0 0 l).2.2 : Nat)) ?_
  refine aE ?_
  refine aR 1200 ?_
  refine Fin.objs [] [] (.inr rfl) rfl (by exact trivial) ?_ ?_ (by simp [objL,rlook]) (by (simp [objL,rlook];done))
  ·simp only [zL,simprocAttr]
  ·simp only [zL,↓reduceIte]
 have h2 : (rdN 0 0 l).2.2 = 0:=by simp at hf;omega
 rw [if_neg (by omega)] at hN
 simp only [zX]
 refine aR 1000 ?_
 refine aw_cond _ rfl trivial (fun ht=>?_) (fun hf=>?_)
 ·have h3 : most < (rdN 0 0 l).1:=by simp at ht;omega
  rw [if_pos h3] at hN
  subst hN
  simp only [zX]
  refine aB 1200 ?_
  refine rO [0] [] (pack_rest_fail_con (l.map brow) 0 22) ?_
  refine aE ?_
  refine aR 1400 ?_
  refine Fin.objs [] [] (.inr rfl) rfl (by exact trivial) ?_ ?_ (by simp [objL,rlook]) (by (simp [objL,rlook];done))
  ·simp only [zL,simprocAttr]
  ·simp only [zL,↓reduceIte]
 have h3 : ¬ most < (rdN 0 0 l).1:=by simp at hf;omega
 rw [if_neg h3] at hN
 subst hN
 have hs:=rdN_size l 0 0 h2
 simp only [zX]
 refine aw_reg 1200 (RG.go fun Q hQ=>?_)
 simp only [zS,simprocAttr]
 refine ⟨⟨by omega,by simp;omega,by simp,by simp [brow]⟩,hQ (RG.nil ?_)⟩
 simp only [zX]
 refine aR 1400 ?_
 refine Fin.objs [] [] (.inr rfl) rfl (by exact trivial) ?_ ?_ (by simp [objL,rlook]) (by (simp [objL,rlook];done))
 ·simp only [zL,simprocAttr]
 ·simp only [zL,↓reduceIte]
  all_goals (rw [List.map_drop,List.length_map,Int.toNat_natCast,Int.toNat_natCast,List.take_of_length_le (by simp)])

theorem numR_mem {most : Nat} {l : List Nat} {e : Nat} (hl : ∀ c ∈ l,c < 256) : ∀ c ∈ (numR most l e).2.1,c < 256:=by
 unfold numR
 split
 ·exact hl
 ·split
  ·simp
  ·split
   ·simp
   ·intro c hc;exact hl c (List.mem_of_mem_drop hc)

theorem numR_len {most : Nat} {l : List Nat} {e : Nat} : (numR most l e).2.1.length≤l.length:=by
 unfold numR
 split
 ·exact Nat.le_refl _
 ·split
  ·simp
  ·split
   ·simp
   ·simp

def lumpR (most : Nat) (l : List Nat) (e : Nat) : List Nat × List Nat × Nat :=
 if (numR most l e).2.2≠0 then ([],(numR most l e).2.1,(numR most l e).2.2) else
 if (numR most l e).2.1.length < (numR most l e).1 then ([],[],21) else ((numR most l e).2.1.take (numR most l e).1,(numR most l e).2.1.drop (numR most l e).1,0)

theorem pack_Reader_Lump_con (l : List Nat) (e most : Nat) (hl : ∀ c ∈ l,c < 256) (hb : l.length≤140737488355328) (hm : most < 9223372036854775808) :
  Con Try.prog 35 [.c (.bp 0 0),I most] [Rd l e] (.c (.sl ((lumpR most l e).1.map brow))) [Rd (lumpR most l e).2.1 (lumpR most l e).2.2]:=by
 have hw : IntKind.u64.wrap (most : Int) = (most : Int):=by rw [w_u64];omega
 have hmx : (if (0 : Int) > (most : Int) then (0 : Int) else (most : Int)) = (most : Int):=by split <;> omega
 have hmem:=numR_mem (most:=most) (e:=e) hl
 have hlen:=numR_len (most:=most) (l:=l) (e:=e)
 have hnum:=pack_Reader_Num_con l e most hl hb
 generalize hN : lumpR most l e = r
 unfold lumpR at hN
 generalize numR most l e = q at hN hmem hlen hnum
 obtain ⟨n,l',e'⟩:=q
 simp only at hN hmem hlen hnum
 have hw2 : IntKind.u64.wrap ((l'.map brow).length : Int) = (l'.length : Int):=by rw [w_u64,List.length_map];omega
 refine C_pack_Reader_Lump nl nl ?_
 simp only [cz,A_pack_Reader_Lump,argL,objL,List.length_nil,List.length_cons,Nat.zero_add,zX]
 refine aR 16 ?_
 refine aBs 160 (fun Q hQ=>by simp only [zS,foldMx,hmx,hw,simprocAttr];exact hQ) ?_
 refine rO [0] [] (hnum) ?_
 refine aE ?_
 refine aR 400 ?_
 refine aw_cond _ rfl trivial (fun ht=>?_) (fun hf=>?_)
 ·have he : e'≠0:=by simp at ht;omega
  rw [if_pos he] at hN
  subst hN
  simp only [zX]
  refine aR 600 ?_
  refine Fin.objs [] [] (.inr rfl) rfl (by exact trivial) ?_ ?_ (by simp [objL,rlook]) (by (simp [objL,rlook];done))
  ·simp only [zL,simprocAttr]
  ·simp only [zL,↓reduceIte]
 have he : e' = 0:=by simp at hf;omega
 subst he
 rw [if_neg (by simp)] at hN
 simp only [zX]
 refine aS 600 (fun Q hQ=>by simp only [zS,hw2,simprocAttr];exact hQ) ?_
 refine aw_cond _ rfl trivial (fun ht=>?_) (fun hf=>?_)
 ·have h2 : l'.length < n:=by simp at ht;omega
  rw [if_pos h2] at hN
  subst hN
  simp only [zX]
  refine aB 800 ?_
  refine rO [0] [] (pack_rest_fail_con (l'.map brow) 0 21) ?_
  refine aE ?_
  refine aR 1000 ?_
  refine Fin.objs [] [] (.inr rfl) rfl (by exact trivial) ?_ ?_ (by simp [objL,rlook]) (by (simp [objL,rlook];done))
  ·simp only [zL,simprocAttr]
  ·simp only [zL,↓reduceIte]
 have h2 : ¬ l'.length < n:=by simp at hf;omega
 rw [if_neg h2] at hN
 subst hN
 have ht1 : (l'.map brow).take (n : Int).toNat = (l'.take n).map brow:=by simp
 have ht2 : ((l'.map brow).take ((l'.map brow).length : Int).toNat).drop (n : Int).toNat = (l'.drop n).map brow:=by rw [Int.toNat_natCast,Int.toNat_natCast,List.take_of_length_le (Nat.le_refl _),List.map_drop]
 simp only [zX]
 refine aw_reg 800 (RG.go fun Q hQ=>?_)
 simp only [zS,ht1,simprocAttr]
 refine ⟨⟨by omega,by simp;omega,by simp [brow]⟩,hQ ?_⟩
 refine RG.callo [] [] (slices_Clone_byte_byte_con ((l'.take n).map brow) (drows_brow _) (brow_len _) (by simp;omega)) (.mk (tr_cons tr_sl tr_nil) (trivial) (by simp) (by simp) (trivial) (by simp [lkE_cons,lkE_nil]) (by simp only [List.mem_singleton,forall_eq,Ent.pure];exact drows_brow _) (by simp) (by simp)) ?_
 refine aE ?_
 refine aw_reg 1200 (RG.go fun Q hQ=>?_)
 simp only [zS,ht2,simprocAttr]
 refine ⟨⟨by omega,by simp;omega,by simp,by simp [brow]⟩,hQ (RG.nil ?_)⟩
 simp only [zX]
 refine aR 1400 ?_
 refine Fin.objs [912] [] (.inr rfl) rfl (by exact trivial) ?_ ?_ (by simp [objL,rlook]) (by (simp [objL,rlook];done))
 ·simp only [zL,simprocAttr]
  all_goals (exact ⟨⟨_,_,rfl⟩,drows_brow _⟩)
 ·simp only [zL,simprocAttr]

theorem toList_go (b : ByteArray) : ∀ (k i : Nat) (r : List UInt8),b.size - i = k→ByteArray.toList.loop b i r = r.reverse ++ b.data.toList.drop i
 | 0,i,r,h=>by
  rw [ByteArray.toList.loop,if_neg (by omega),List.drop_eq_nil_of_le (by have : b.data.toList.length = b.size:=rfl;omega)];simp
 | k + 1,i,r,h=>by
  have hi : i < b.size:=by omega
  rw [ByteArray.toList.loop,if_pos hi,toList_go b k (i + 1) _ (by omega)]
  have hi' : i < b.data.toList.length:=hi
  rw [List.drop_eq_getElem_cons hi',List.reverse_cons,List.append_assoc]
  congr 1
  have : b.get! i = b.data.toList[i]:=by
   have h2 : b.get! i = b.data[i]!:=rfl
   rw [h2,getElem!_pos b.data i hi];rfl
  rw [this];rfl

theorem ba_toList (b : ByteArray) : b.toList = b.data.toList:=by
 have:=toList_go b _ 0 [] rfl
 simpa [ByteArray.toList] using this

theorem rowByte_map (l : List Nat) : (l.map brow).map rowByte = l.map UInt8.ofNat:=by
 rw [List.map_map]
 refine List.map_congr_left fun n _=>?_
 simp [brow,rowByte]

theorem u8_inj {a b : Nat} (ha : a < 256) (hb : b < 256) (h : UInt8.ofNat a = UInt8.ofNat b) : a = b:=by
 have:=congrArg UInt8.toNat h
 simp at this
 omega

theorem map_u8_inj : ∀ {l m : List Nat},(∀ c ∈ l,c < 256)→(∀ c ∈ m,c < 256)→l.map UInt8.ofNat = m.map UInt8.ofNat→l = m
 | [],[],_,_,_=>rfl
 | a :: l,b :: m,hl,hm,h=>by
  simp only [List.map_cons,List.cons.injEq] at h
  rw [u8_inj (hl a (by simp)) (hm b (by simp)) h.1,map_u8_inj (fun c hc=>hl c (by simp [hc])) (fun c hc=>hm c (by simp [hc])) h.2]
 | [],_ :: _,_,_,h=>by simp at h
 | _ :: _,[],_,_,h=>by simp at h

theorem str_eq (l m : List Nat) (hl : ∀ c ∈ l,c < 256) (hm : ∀ c ∈ m,c < 256) :
  ((⟨((l.map brow).map rowByte).toArray⟩ : ByteArray).toList == (⟨((m.map brow).map rowByte).toArray⟩ : ByteArray).toList) = decide (l = m):=by
 rw [ba_toList,ba_toList,rowByte_map,rowByte_map]
 by_cases h : l = m
 ·subst h;simp
 ·have : l.map UInt8.ofNat≠m.map UInt8.ofNat:=fun hh=>h (map_u8_inj hl hm hh)
  simp [h,this]

theorem isByteRow_brow (l : List Nat) : ∀ r ∈ l.map brow,isByteRow r:=by
 intro r hr
 obtain ⟨n,_,rfl⟩:=List.mem_map.1 hr
 exact ⟨n,rfl⟩

theorem bytes_Equal_con (l m : List Nat) (hl : ∀ c ∈ l,c < 256) (hm : ∀ c ∈ m,c < 256) : Con Try.prog 19 [.c (.sl (l.map brow)),.c (.sl (m.map brow))] [] (B (decide (l = m))) []:=by
 have h:=str_eq l m hl hm
 refine C_bytes_Equal nl nl ?_
 simp only [cz,A_bytes_Equal,argL,objL,List.length_nil,Nat.zero_add,zX]
 refine aR 16 ?_
 refine aw_reg 160 (RG.go fun Q hQ=>?_)
 simp only [zS,h,simprocAttr]
 refine ⟨isByteRow_brow _,isByteRow_brow _,hQ (RG.nil ?_)⟩
 simp only [zX]
 exact Fin.scalar (.inr rfl) rfl trivial rfl trivial

def timeS (n : Int) : Bool:=decide (0≤n) && decide (n≤1099511627776)

theorem entry_time_con (n : Int) : Con Try.prog 38 [I n] [] (B (timeS n)) []:=by
 refine C_entry_time nl nl ?_
 simp only [cz,A_entry_time,argL,objL,List.length_nil,zX]
 refine aR 16 ?_
 refine aR 160 ?_
 exact Fin.scalar (.inr rfl) rfl trivial rfl trivial

def entryRight (index term kind : Int) (data : List Nat) : Bool :=
 timeS index && decide (1≤index) && timeS term &&
  (if kind = 0 then decide (data.length = 0) else if kind = 1 then decide (data.length≤32767) else
   if kind = 2 then decide (data.length = 2) && decide (data.getD 0 0 < 7) && decide (data.getD 1 0 < 2) else false)

theorem entry_Right_con (index term kind : Int) (data : List Nat) : Con Try.prog 26 [.agg [.v (.int .i64 index),.v (.int .i64 term),.v (.int .i64 kind),.sl (data.map brow)]] [] (B (entryRight index term kind data)) []:=by
 refine C_entry_Right nl nl ?_
 simp only [cz,A_entry_Right,argL,objL,List.length_nil,zX]
 refine aR 16 ?_
 refine aB 160 ?_
 refine rC [] (entry_time_con index) ?_ (hv:=(trivial)) (hs:=(.inl trivial))
 refine RG.go fun Q hQ=>?_
 simp only [zS,simprocAttr]
 refine ⟨by simp,hQ ?_⟩
 refine rG _ _ (entry_time_con term) ?_
 refine RG.go fun Q hQ=>?_
 simp only [zS,simprocAttr]
 refine ⟨by simp,hQ (RG.nil ?_)⟩
 simp only [zX]
 refine aw_cond _ rfl trivial (fun ht=>?_) (fun hf=>?_)
 ·skip
  simp only [zX]
  refine aR 600 ?_
  have he : entryRight index term kind data = false:=by
   simp [timeS] at ht
   simp [entryRight,timeS]
   intros
   omega
  rw [he]
  exact Fin.scalar (.inr rfl) rfl trivial rfl trivial
 have he : entryRight index term kind data = (if kind = 0 then decide (data.length = 0) else if kind = 1 then decide (data.length≤32767) else if kind = 2 then decide (data.length = 2) && decide (data.getD 0 0 < 7) && decide (data.getD 1 0 < 2) else false):=by
  have h1 : timeS index = true∧index≠0∧timeS term = true:=by simp at hf;exact ⟨hf.1.1,hf.1.2,hf.2⟩
  have h2 : 1≤index:=by have:=h1.1;simp [timeS] at this;omega
  simp [entryRight,h1.1,h1.2.2,h2]
 rw [he]
 simp only [zX]
 refine aR 600 ?_
 refine aR 700 ?_
 refine aw_cond _ rfl trivial (fun ht=>?_) (fun hf=>?_)
 ·have hk : kind = 0:=by simpa using ht
  rw [if_pos hk]
  simp only [zX]
  refine aR 800 ?_
  exact Fin.b (.inr rfl) rfl trivial (by rw [Bool.eq_iff_iff];simp)
 have hk : ¬ kind = 0:=by simpa using hf
 rw [if_neg hk]
 simp only [zX]
 refine aR 800 ?_
 refine aw_cond _ rfl trivial (fun ht=>?_) (fun hf=>?_)
 ·have hk : kind = 1:=by simpa using ht
  rw [if_pos hk]
  simp only [zX]
  refine aR 900 ?_
  exact Fin.b (.inr rfl) rfl trivial (by rw [Bool.eq_iff_iff];simp;omega)
 have hk : ¬ kind = 1:=by simpa using hf
 rw [if_neg hk]
 simp only [zX]
 refine aR 900 ?_
 refine aw_cond _ rfl trivial (fun ht=>?_) (fun hf=>?_)
 ·have hk : kind = 2:=by simpa using ht
  rw [if_pos hk]
  simp only [zX]
  by_cases hlen : data.length = 2
  ·match data,hlen with
   | [a,b],_ =>
    have e1 : (List.map brow [a,b])[(0 : Int).toNat]?.getD [] = [.v (.int .u8 a)]:=rfl
    have e2 : (List.map brow [a,b])[(1 : Int).toNat]?.getD [] = [.v (.int .u8 b)]:=rfl
    refine aS 1000 (fun Q hQ=>by simp only [zS,brow,simprocAttr];exact hQ) ?_
    exact Fin.b (.inr rfl) rfl trivial (by rw [Bool.eq_iff_iff];simp;omega)
  ·have hl2 : (((data.map brow).length : Int) == 2) = false:=by simp;omega
   have hsh : ∃ c,((List.map brow data)[0]?.getD [])[0]?.getD default = c∧∃ d,((List.map brow data)[1]?.getD [])[0]?.getD default = d:=⟨_,rfl,_,rfl⟩
   rcases data with _ | ⟨a,_ | ⟨b,r⟩⟩
   ·skip
    refine aw_reg 1000 (RG.go fun Q hQ=>?_)
    simp only [zS,simprocAttr]
    refine hQ (RG.nil ?_)
    simp only [zX,simprocAttr]
    exact Fin.b (.inr rfl) rfl trivial (by simp)
   ·skip
    refine aS 1000 (fun Q hQ=>by simp only [zS,brow,simprocAttr];exact hQ) ?_
    exact Fin.b (.inr rfl) rfl trivial (by simp)
   ·have hl3 : ((((brow a :: brow b :: r.map brow) : List (List C)).length : Int) == 2) = false:=hl2
    refine aw_reg 1000 (RG.go fun Q hQ=>?_)
    simp only [zS,brow,simprocAttr]
    refine ⟨fun h=>⟨by omega,h⟩,fun h=>⟨by omega,h⟩,hQ (RG.nil ?_)⟩
    simp only [zX]
    exact Fin.b (.inr rfl) rfl trivial (by rw [Bool.eq_iff_iff];have h3 : r.length≠0:=(fun h=>hlen (by simp [h]));simp at hlen;simp [hlen];intros;omega)
 have hk : ¬ kind = 2:=by simpa using hf
 rw [if_neg hk]
 simp only [zX]
 refine aR 1000 ?_
 exact Fin.scalar (.inr rfl) rfl trivial rfl trivial

theorem slices_Grow_con (n : Nat) (hn : n≤100000000000000) : Con Try.prog 41 [.c (.v (.slice none 0 0)),I n] [] (.c (.osl 0)) [.arr 5 1 [] false]:=by
 have hw0 : IntKind.i64.wrap 0 = 0:=by decide
 have hw2 : IntKind.i64.wrap (n : Int) = n:=w64 _ (by omega) (by omega)
 refine C_slices_Grow_byte_byte nl nl ?_
 simp only [cz,A_slices_Grow_byte_byte,argL,objL,List.length_nil,Nat.zero_add,zX]
 refine aR 16 ?_
 refine aR 160 ?_
 refine aw_cond _ rfl trivial (fun ht=>?_) (fun hf=>?_)
 ·exfalso;simp at ht;omega
 simp only [zX]
 refine aS 320 (fun Q hQ=>by simp only [zS,Int.sub_zero,hw0,hw2,simprocAttr];exact hQ) ?_
 refine aR 480 ?_
 refine aw_cond _ rfl trivial (fun ht=>?_) (fun hf=>?_)
 ·have hn0 : 0 < n:=by simp at ht;omega
  refine aw_reg 641 (RG.go fun Q hQ=>?_)
  simp only [zS,simprocAttr]
  refine ⟨⟨by omega,by omega⟩,by simp,hQ (RG.nil ?_)⟩
  simp only [zX]
  refine aR 960 ?_
  refine Fin.objs [] [(0,769)] (.inr rfl) rfl (by exact trivial) ?_ ?_ (by simp [objL,rlook]) (by (simp [objL,rlook];done))
  ·simp only [zL,simprocAttr]
  ·simp only [zL,simprocAttr]
   all_goals (simp)
 have hn0 : n = 0:=by simp at hf;omega
 subst hn0
 simp only [zX]
 refine aR 640 ?_
 exact Fin.ownNil (.inr rfl) rfl trivial (by decide)


def prow (p : List Nat) : List C:=[.sl (p.map brow)]

theorem flat_take (parts : List (List Nat)) (i : Nat) (hi : i < parts.length) : (parts.take (i + 1)).flatten = (parts.take i).flatten ++ parts[i]:=by
 rw [take_one parts i hi,List.flatten_append];simp

theorem flat_len (parts : List (List Nat)) (i : Nat) : (parts.take i).flatten.length≤parts.flatten.length:=by
 have h : parts.flatten = (parts.take i).flatten ++ (parts.drop i).flatten:=by rw [← List.flatten_append,List.take_append_drop]
 rw [h,List.length_append];omega

theorem slices_Concat_con (parts : List (List Nat)) (hb : parts.flatten.length≤100000000000000) (hp : parts.length≤100000000000000) : Con Try.prog 29 [.c (.sl (parts.map prow))] [] (.c (.osl 0)) [.arr 5 1 (parts.flatten.map brow) false]:=by
 refine C_slices_Concat_byte_byte nl nl ?_
 simp only [cz,A_slices_Concat_byte_byte,argL,objL,List.length_nil,zX]
 refine aR 16 ?_
 refine aR 160 ?_
 refine aR 320 ?_
 refine aw_loop (X:={ i : Nat // i≤parts.length }) (fun i=>mkSt [(0,.c (.sl (parts.map prow))),(3,I ((parts.take i.1).flatten.length : Nat)),(9,.c (.sl (parts.map prow))),(10,I parts.length),(11,I i.1)] []) (fun i=>parts.length - i.1) ⟨0,Nat.zero_le _⟩ ?_ ?_
 ·refine Le.lit [] [] _ _ ?_ ?_ ?_ ?_
  ·skip
   simp only [zL,simprocAttr]
   simp
  ·skip
   simp only [zL,simprocAttr]
  ·simp
  ·simp
 rintro ⟨i,hi⟩
 have hfl:=flat_len parts i
 simp only [zX]
 refine aR 480 ?_
 refine aw_cond _ rfl trivial (fun ht=>?_) (fun hf=>?_)
 ·have hi' : i < parts.length:=by simpa using ht
  have hr : (List.map prow parts)[(i : Int).toNat]?.getD [] = [.sl (parts[i].map brow)]:=by simp [hi',prow]
  have hfl2:=flat_len parts (i + 1)
  have hft:=flat_take parts i hi'
  have hw : IntKind.i64.wrap (((parts.take i).flatten.length : Nat) + ((parts[i].map brow).length : Int)) = ((parts.take (i + 1)).flatten.length : Nat):=by
   rw [hft] at hfl2 ⊢
   rw [List.length_append,List.length_map] at *
   rw [w64 _ (by omega) (by omega)];omega
  simp only [zX]
  refine aw_reg 640 (RG.go fun Q hQ=>?_)
  simp only [zS,hr,simprocAttr]
  refine ⟨by simp;omega,hQ (RG.nil ?_)⟩
  simp only [zX]
  refine aS 800 (fun Q hQ=>by simp only [zS,hw,simprocAttr];exact hQ) ?_
  refine aR 960 ?_
  refine aw_cond _ rfl trivial (fun ht2=>?_) (fun hf2=>?_)
  ·exfalso;simp at ht2;omega
  simp only [zX]
  refine aR 1200 ?_
  refine ⟨⟨i + 1,hi'⟩,?_,by simp;omega⟩
  refine Le.lit [] [] _ _ ?_ ?_ ?_ ?_
  ·skip
   simp only [zL,simprocAttr]
   rw [w64 _ (by omega) (by omega)];rfl
  ·skip
   simp only [zL,simprocAttr]
  ·simp
  ·simp
 have hi' : i = parts.length:=by simp at hf;omega
 subst hi'
 rw [List.take_length]
 simp only [zX,↓reduceIte]
 refine aB 640 ?_
 refine rO [] [] (slices_Grow_con parts.flatten.length hb) ?_
 refine aE ?_
 refine aR 960 ?_
 refine aw_loop (X:={ i : Nat // i≤parts.length }) (fun i=>mkSt [(6,.c (.osl 1000)),(25,.c (.sl (parts.map prow))),(26,I parts.length),(27,I i.1)] [(1000,.arr 5 1 ((parts.take i.1).flatten.map brow) false)]) (fun i=>parts.length - i.1) ⟨0,Nat.zero_le _⟩ ?_ ?_
 ·refine Le.lit [] [(1000,656)] _ _ ?_ ?_ ?_ ?_
  ·skip
   simp only [zL,simprocAttr]
   simp
  ·skip
   simp only [zL,simprocAttr]
   simp
  ·simp
  ·simp
 rintro ⟨i,hi⟩
 have hfl:=flat_len parts i
 simp only [zX]
 refine aR 1480 ?_
 refine aw_cond _ rfl trivial (fun ht=>?_) (fun hf=>?_)
 ·have hi' : i < parts.length:=by simpa using ht
  have hr : (List.map prow parts)[(i : Int).toNat]?.getD [] = [.sl (parts[i].map brow)]:=by simp [hi',prow]
  have hfl2:=flat_len parts (i + 1)
  have hft:=flat_take parts i hi'
  simp only [zX]
  refine aw_reg 1640 (RG.go fun Q hQ=>?_)
  simp only [zS,hr,simprocAttr]
  refine ⟨by simp;omega,hQ (RG.nil ?_)⟩
  simp only [zX]
  refine aw_reg 1800 (RG.go fun Q hQ=>?_)
  simp only [zS,simprocAttr]
  refine ⟨⟨brow_len _,by rw [hft,List.length_append] at hfl2;simp only [List.length_map];omega⟩,hQ (RG.nil ?_)⟩
  simp only [zX]
  refine aR 2200 ?_
  refine ⟨⟨i + 1,hi'⟩,?_,by simp;omega⟩
  refine Le.lit [] [(1000,1832)] _ _ ?_ ?_ ?_ ?_
  ·skip
   simp only [zL,simprocAttr]
   rw [w64 _ (by omega) (by omega)];rfl
  ·skip
   simp only [zL,simprocAttr]
   exact ⟨by rw [hft,List.map_append],drows_brow _⟩
  ·simp
  ·simp
 have hi' : i = parts.length:=by simp at hf;omega
 subst hi'
 simp only [zX,↓reduceIte]
 refine aR 1640 ?_
 refine Fin.objs [] [(0,1000)] (.inr rfl) rfl (by exact trivial) ?_ ?_ (by simp [objL,rlook]) (by (simp [objL,rlook];done))
 ·simp only [zL,simprocAttr]
 ·simp only [zL,simprocAttr]
  all_goals (exact ⟨by rw [List.take_length],drows_brow _⟩)

theorem pack_Join_con (parts : List (List Nat)) (hb : parts.flatten.length≤100000000000000) (hp : parts.length≤100000000000000) : Con Try.prog 15 [.c (.sl (parts.map prow))] [] (.c (.osl 0)) [.arr 5 1 (parts.flatten.map brow) false]:=by
 refine C_pack_Join nl nl ?_
 simp only [cz,A_pack_Join,argL,objL,List.length_nil,zX]
 refine aR 16 ?_
 refine aB 160 ?_
 refine RG.callo [] [] (slices_Concat_con parts hb hp) (.mk (tr_cons tr_sl tr_nil) (trivial) (by simp) (by simp) (trivial) (by simp [lkE_nil]) (by simp only [List.mem_singleton,forall_eq,Ent.pure];exact drows_brow _) (by simp) (by simp)) ?_
 refine aE ?_
 refine Fin.objs [] [(0,176)] (.inr rfl) rfl (by exact trivial) ?_ ?_ (by simp [objL,rlook]) (by (simp [objL,rlook];done))
 ·simp only [zL,simprocAttr]
 ·simp only [zL,simprocAttr]
  all_goals (exact drows_brow _)

def putE (index term kind : Int) (data : List Nat) : List Nat :=
 if entryRight index term kind data then putS [index.toNat,term.toNat,kind.toNat] ++ (num7 data.length ++ data) else []

theorem entryRight_facts {index term kind : Int} {data : List Nat} (h : entryRight index term kind data = true) : 1≤index∧index≤1099511627776∧0≤term∧term≤1099511627776∧0≤kind∧kind≤2∧data.length≤32767:=by
 unfold entryRight timeS at h
 simp only [Bool.and_eq_true,decide_eq_true_eq] at h
 obtain ⟨⟨⟨h1,h2⟩,h3⟩,h4⟩:=h
 split at h4
 ·simp at h4;subst h4;simp;omega
 ·split at h4
  ·simp at h4;omega
  ·split at h4
   ·simp at h4;omega
   ·simp at h4

theorem u64_nat {n : Int} (h : 0≤n) (h' : n≤9223372036854775807) : IntKind.u64.wrap n = (n.toNat : Int):=by rw [w_u64];omega

abbrev entC (index term kind : Int) (data : List Nat) : List C:=[.v (.int .i64 index),.v (.int .i64 term),.v (.int .i64 kind),.sl (data.map brow)]

theorem entry_Put_con (index term kind : Int) (data : List Nat) : Con Try.prog 12 [.agg (entC index term kind data)] [] (.c (.sl ((putE index term kind data).map brow))) []:=by
 refine C_entry_Put nl nl ?_
 simp only [cz,A_entry_Put,argL,objL,List.length_nil,zX]
 refine aR 16 ?_
 refine aB 160 ?_
 refine rC [] (entry_Right_con index term kind data) ?_ (hv:=(trivial)) (hs:=(.inl trivial))
 refine aE ?_
 refine aw_cond _ rfl trivial (fun ht=>?_) (fun hf=>?_)
 ·have he : entryRight index term kind data = false:=by simpa using ht
  simp only [zX]
  refine aR 600 ?_
  have hp : putE index term kind data = []:=by simp [putE,he]
  rw [hp]
  exact Fin.data [] (.inr rfl) rfl trivial ⟨rfl,rfl⟩
 have he : entryRight index term kind data = true:=by simpa using hf
 obtain ⟨h1,h2,h3,h4,h5,h6,h7⟩:=entryRight_facts he
 have w1:=u64_nat (n:=index) (by omega) (by omega)
 have w2:=u64_nat (n:=term) (by omega) (by omega)
 have w3:=u64_nat (n:=kind) (by omega) (by omega)
 have hp : putE index term kind data = putS [index.toNat,term.toNat,kind.toNat] ++ (num7 data.length ++ data):=by simp [putE,he]
 simp only [zX]
 refine aBDs 800 (fun Q hQ=>by simp only [zS,w1,w2,w3,simprocAttr];exact hQ) ?_
 refine RG.callo [] [944] ((pack_Put_con [index.toNat,term.toNat,kind.toNat] (by simp) (by simp;omega)).rows (drows_brow _)) (.mk (tr_cons (tr_view (by simp) rfl (by simp [isDRows,urow,C.isD])) tr_nil) (trivial) (by simp) (by simp) (views1 rfl trivial) (by simp [lkE_cons,lkE_nil]) (by simp) (by simp) (by simp)) ?_
 refine aM ?_
 refine rO [] [] ((pack_Lump_con data (by omega)).rows (drows_brow _)) ?_
 refine aM ?_
 have hlen : ([putS [index.toNat,term.toNat,kind.toNat],num7 data.length ++ data] : List (List Nat)).flatten.length≤100000000000000:=by
  have g1:=putS_len [index.toNat,term.toNat,kind.toNat] (by simp;omega)
  have g2:=num7_len data.length (by omega)
  simp only [List.length_cons,List.length_nil] at g1
  simp;omega
 have hfl : ([putS [index.toNat,term.toNat,kind.toNat],num7 data.length ++ data] : List (List Nat)).flatten = putE index term kind data:=by rw [hp];simp
 refine RG.callo [] [1024] ((pack_Join_con [putS [index.toNat,term.toNat,kind.toNat],num7 data.length ++ data] hlen (by simp)).rows (drows_brow _)) (.mk (tr_cons (tr_view (by simp) rfl (by simp [isDRows,prow,C.isD])) tr_nil) (trivial) (by simp) (by simp) (views1 rfl trivial) (by simp [lkE_cons,lkE_nil]) (by simp) (by simp) (by simp)) ?_
 refine RG.go fun Q hQ=>?_
 simp only [zS,simprocAttr]
 refine hQ (RG.nil ⟨by decide,?_⟩)
 simp only [zX]
 rw [hfl]
 exact Fin.data [] (.inr rfl) rfl trivial rfl

def sameE (i t k : Int) (d : List Nat) (i' t' k' : Int) (d' : List Nat) : Bool:=i == i' && t == t' && k == k' && decide (d = d')

theorem entry_Same_con (i t k : Int) (d : List Nat) (i' t' k' : Int) (d' : List Nat) (hd : ∀ c ∈ d,c < 256) (hd' : ∀ c ∈ d',c < 256) : Con Try.prog 20 [.agg (entC i t k d),.agg (entC i' t' k' d')] [] (B (sameE i t k d i' t' k' d')) []:=by
 refine C_entry_Same nl nl ?_
 simp only [cz,A_entry_Same,argL,objL,List.length_nil,Nat.zero_add,zX]
 refine aR 16 ?_
 refine aB 160 ?_
 refine rG _ _ (bytes_Equal_con d d' hd hd') ?_
 refine aE ?_
 exact Fin.b (.inr rfl) rfl trivial (by simp [sameE])

structure ReadE where
 i : Nat
 t : Nat
 k : Nat
 d : List Nat
 ok : Bool
 l : List Nat
 e : Nat

def readE (l : List Nat) (e : Nat) : ReadE :=
 let a:=numR 1099511627776 l e
 let b:=numR 1099511627776 a.2.1 a.2.2
 let c:=numR 2 b.2.1 b.2.2
 let d:=lumpR 32767 c.2.1 c.2.2
 if d.2.2 = 0∧entryRight a.1 b.1 c.1 d.1 = true then ⟨a.1,b.1,c.1,d.1,true,d.2.1,d.2.2⟩ else ⟨0,0,0,[],false,d.2.1,d.2.2⟩

theorem numR_le {most : Nat} {l : List Nat} {e : Nat} : (numR most l e).1≤most:=by
 unfold numR
 split
 ·simp
 ·split
  ·simp
  ·split
   ·simp
   ·simp only;omega

theorem lumpR_mem {most : Nat} {l : List Nat} {e : Nat} (hl : ∀ c ∈ l,c < 256) : (∀ c ∈ (lumpR most l e).1,c < 256)∧∀ c ∈ (lumpR most l e).2.1,c < 256:=by
 have h:=numR_mem (most:=most) (e:=e) hl
 unfold lumpR
 split
 ·exact ⟨by simp,h⟩
 ·split
  ·exact ⟨by simp,by simp⟩
  ·exact ⟨fun c hc=>h c (List.mem_of_mem_take hc),fun c hc=>h c (List.mem_of_mem_drop hc)⟩

theorem lumpR_len {most : Nat} {l : List Nat} {e : Nat} : (lumpR most l e).1.length≤l.length∧(lumpR most l e).2.1.length≤l.length:=by
 have h:=numR_len (most:=most) (l:=l) (e:=e)
 unfold lumpR
 split
 ·exact ⟨by simp,h⟩
 ·split
  ·simp
  ·simp only [List.length_take,List.length_drop];omega

theorem w_nat {n : Nat} (h : n≤9223372036854775807) : IntKind.i64.wrap (n : Int) = n:=w64 _ (by omega) (by omega)

theorem entry_Read_con (l : List Nat) (e : Nat) (hl : ∀ c ∈ l,c < 256) (hb : l.length≤140737488355328) : Con Try.prog 33 [.c (.bp 0 0)] [Rd l e] (.tup [.agg (entC (readE l e).i (readE l e).t (readE l e).k (readE l e).d),B (readE l e).ok]) [Rd (readE l e).l (readE l e).e]:=by
 generalize hr : readE l e = r
 unfold readE at hr
 have m1:=numR_mem (most:=1099511627776) (e:=e) hl
 have n1:=numR_len (most:=1099511627776) (l:=l) (e:=e)
 have w1:=w_nat (n:=(numR 1099511627776 l e).1) (by have:=numR_le (most:=1099511627776) (l:=l) (e:=e);omega)
 have c1:=pack_Reader_Num_con l e 1099511627776 hl hb
 generalize numR 1099511627776 l e = a at hr m1 n1 w1 c1
 obtain ⟨a,l1,e1⟩:=a
 simp only at hr m1 n1 w1 c1
 have m2:=numR_mem (most:=1099511627776) (e:=e1) m1
 have n2:=numR_len (most:=1099511627776) (l:=l1) (e:=e1)
 have w2:=w_nat (n:=(numR 1099511627776 l1 e1).1) (by have:=numR_le (most:=1099511627776) (l:=l1) (e:=e1);omega)
 have c2:=pack_Reader_Num_con l1 e1 1099511627776 m1 (by omega)
 generalize numR 1099511627776 l1 e1 = b at hr m2 n2 w2 c2
 obtain ⟨b,l2,e2⟩:=b
 simp only at hr m2 n2 w2 c2
 have m3:=numR_mem (most:=2) (e:=e2) m2
 have n3:=numR_len (most:=2) (l:=l2) (e:=e2)
 have w3:=w_nat (n:=(numR 2 l2 e2).1) (by have:=numR_le (most:=2) (l:=l2) (e:=e2);omega)
 have c3:=pack_Reader_Num_con l2 e2 2 m2 (by omega)
 generalize numR 2 l2 e2 = c at hr m3 n3 w3 c3
 obtain ⟨c,l3,e3⟩:=c
 simp only at hr m3 n3 w3 c3
 have c4:=pack_Reader_Lump_con l3 e3 32767 m3 (by omega) (by omega)
 generalize lumpR 32767 l3 e3 = d at hr c4
 obtain ⟨d,l4,e4⟩:=d
 simp only at hr c4
 refine C_entry_Read nl nl ?_
 simp only [cz,A_entry_Read,argL,objL,List.length_nil,List.length_cons,Nat.zero_add,zX]
 refine aR 16 ?_
 refine aR 160 ?_
 refine aF ?_
 refine aB 320 ?_
 refine rO [0] [] (c1) ?_
 refine aM ?_
 refine rO [0] [] (c2) ?_
 refine aM ?_
 refine rO [0] [] (c3) ?_
 refine aM ?_
 refine rO [0] [] (c4) ?_
 refine RG.go fun Q hQ=>?_
 simp only [zS,simprocAttr]
 simp only [w1,w2,w3]
 refine hQ (RG.nil ?_)
 simp only [zX]
 refine aB 800 ?_
 refine rO [0] [] (pack_rest_Err_con (l4.map brow) e4) ?_
 refine aM ?_
 refine rG _ _ (entry_Right_con a b c d) ?_
 refine RG.go fun Q hQ=>?_
 simp only [zS,simprocAttr]
 refine ⟨fun h=>by rw [h];rfl,hQ (RG.nil ?_)⟩
 simp only [zX]
 refine aw_cond _ rfl trivial (fun ht=>?_) (fun hf=>?_)
 ·have hn : ¬ (e4 = 0∧entryRight a b c d = true):=by
   rintro ⟨h1,h2⟩;rw [h2] at ht;simp at ht;omega
  rw [if_neg hn] at hr
  subst hr
  simp only [zX]
  refine aR 1200 ?_
  refine Fin.objs [] [] (.inr rfl) rfl (by exact ⟨trivial,trivial⟩) ?_ ?_ (by simp [objL,rlook]) (by (simp [objL,rlook];done))
  ·simp only [zL,simprocAttr]
   all_goals (simp [entC,TrL,WkC,WkC0])
  ·simp only [zL,↓reduceIte]
 have hn : e4 = 0∧entryRight a b c d = true:=by simp at hf;exact ⟨by omega,hf.2⟩
 rw [if_pos hn] at hr
 subst hr
 simp only [zX]
 refine aR 1200 ?_
 refine Fin.objs [] [] (.inr rfl) rfl (by exact ⟨trivial,trivial⟩) ?_ ?_ (by simp [objL,rlook]) (by (simp [objL,rlook];done))
 ·simp only [zL,simprocAttr]
  all_goals (simp [entC,TrL,WkC,WkC0])
 ·simp only [zL,↓reduceIte]

def nrow (n : Int) : List C:=[.v (.int .i64 n)]

theorem drows_nrow (l : List Int) : isDRows (l.map nrow):=by
 intro r hr c hc
 obtain ⟨n,_,rfl⟩:=List.mem_map.1 hr
 simp only [nrow,List.mem_singleton] at hc
 subst hc;rfl

theorem nrow_len (l : List Int) : ∀ r ∈ l.map nrow,r.length = 1:=by
 intro r hr
 obtain ⟨n,_,rfl⟩:=List.mem_map.1 hr
 rfl

theorem slices_Clone_int_int_con (rows : List (List C)) (hd : isDRows rows) (h1 : ∀ r ∈ rows,r.length = 1) (hb : rows.length≤10000000000000) : Con Try.prog 48 [.c (.sl rows)] [] (.c (.osl 0)) [.arr 3 1 rows false]:=by
 by_cases hr : rows = []
 ·subst hr
  refine Con.split1 ?_ fun ad cap=>?_
  ·skip
   refine C_slices_Clone_int_int nl nl ?_
   simp only [cz,A_slices_Clone_int_int,argL,objL,List.length_nil,zX]
   refine aR 16 ?_
   refine aR 160 ?_
   refine aT ?_
   refine aR 320 ?_
   exact Fin.ownNil (.inr rfl) rfl trivial (by decide)
  ·skip
   refine C_slices_Clone_int_int nl nl ?_
   simp only [cz,A_slices_Clone_int_int,argL,objL,List.length_nil,zX]
   refine aR 16 ?_
   refine aR 160 ?_
   refine aF ?_
   refine aw_reg 320 (RG.go fun Q hQ=>?_)
   simp only [zS,simprocAttr]
   refine ⟨by simp,hQ (RG.nil ?_)⟩
   simp only [zX]
   refine Fin.objs [] [(0,352)] (.inr rfl) rfl (by exact trivial) ?_ ?_ (by simp [objL,rlook]) (by (simp [objL,rlook];done))
   ·simp only [zL,simprocAttr]
   ·simp only [zL,simprocAttr]
    all_goals (simp)
 ·skip
  refine C_slices_Clone_int_int nl nl ?_
  simp only [cz,A_slices_Clone_int_int,argL,objL,List.length_nil,zX]
  refine aR 16 ?_
  refine aw_reg 160 (RG.go fun Q hQ=>?_)
  simp only [zS,simprocAttr]
  refine ⟨hr,hQ (RG.nil ?_)⟩
  simp only [zX]
  refine aF ?_
  refine aw_reg 320 (RG.go fun Q hQ=>?_)
  simp only [zS,simprocAttr]
  refine ⟨⟨h1,by omega⟩,hQ (RG.nil ?_)⟩
  simp only [zX]
  refine Fin.objs [] [(0,352)] (.inr rfl) rfl (by exact trivial) ?_ ?_ (by simp [objL,rlook]) (by (simp [objL,rlook];done))
  ·simp only [zL,simprocAttr]
  ·simp only [zL,simprocAttr]
   all_goals (exact hd)

def mayN (n : Int) : Bool:=decide (0≤n) && decide (n < 7)

theorem conf_may_con (n : Int) : Con Try.prog 50 [I n] [] (B (mayN n)) []:=by
 refine C_conf_may nl nl ?_
 simp only [cz,A_conf_may,argL,objL,List.length_nil,zX]
 refine aR 16 ?_
 refine aR 160 ?_
 exact Fin.b (.inr rfl) rfl trivial (by rw [Bool.eq_iff_iff];simp [mayN])

theorem conf_Of_1_con (n : Int) : Con Try.prog 49 [I n] [] (B (!mayN n)) []:=by
 refine C_conf_Of_1 nl nl ?_
 simp only [cz,A_conf_Of_1,argL,objL,List.length_nil,zX]
 refine aR 16 ?_
 refine aB 160 ?_
 refine rC [] (conf_may_con n) ?_ (hv:=(trivial)) (hs:=(.inl trivial))
 refine aE ?_
 exact Fin.scalar (.inr rfl) rfl trivial rfl trivial

def idxN (l : List Int) : Int:=match l.findIdx? (fun n=>!mayN n) with
 | some i=>i
 | none=>-1

theorem idxN_hit {l : List Int} {i : Nat} (hi : i < l.length) (hm : mayN l[i] = false) (hb : ∀ j (h : j < i),mayN (l[j]'(by omega)) = true) : idxN l = i:=by
 have : l.findIdx? (fun n=>!mayN n) = some i:=by
  rw [List.findIdx?_eq_some_iff_getElem]
  exact ⟨hi,by simp [hm],fun j hj=>by simp [hb j hj]⟩
 simp [idxN,this]

theorem idxN_miss {l : List Int} (hb : ∀ n ∈ l,mayN n = true) : idxN l = -1:=by
 have : l.findIdx? (fun n=>!mayN n) = none:=by
  rw [List.findIdx?_eq_none_iff]
  intro x hx;show (!mayN x) = false;rw [hb x hx];rfl
 simp [idxN,this]

theorem slices_IndexFunc_con (l : List Int) (hb : l.length≤10000000000000) : Con Try.prog 53 [.c (.sl (l.map nrow)),.c (.fn 49 [])] [] (I (idxN l)) []:=by
 refine C_slices_IndexFunc_int_int nl nl ?_
 simp only [cz,A_slices_IndexFunc_int_int,argL,objL,List.length_nil,Nat.zero_add,zX]
 refine aR 16 ?_
 refine aR 160 ?_
 refine aw_loop (X:={ i : Nat // i≤l.length∧∀ j (h : j < l.length),j < i→mayN l[j] = true }) (fun i=>mkSt [(0,.c (.sl (l.map nrow))),(1,.c (.fn 49 [])),(7,I l.length),(8,I i.1)] []) (fun i=>l.length - i.1) ⟨0,Nat.zero_le _,fun j _ h=>by omega⟩ ?_ ?_
 ·refine Le.lit [] [] _ _ ?_ ?_ ?_ ?_
  ·skip
   simp only [zL,simprocAttr]
   simp
  ·skip
   simp only [zL,simprocAttr]
  ·simp
  ·simp
 rintro ⟨i,hi,hall⟩
 simp only [zX]
 refine aR 320 ?_
 refine aw_cond _ rfl trivial (fun ht=>?_) (fun hf=>?_)
 ·have hi' : i < l.length:=by simpa using ht
  have hr : (List.map nrow l)[(i : Int).toNat]?.getD [] = [.v (.int .i64 l[i])]:=by simp [hi',nrow]
  simp only [zX]
  refine aR 480 ?_
  refine aw_reg 640 (RG.go fun Q hQ=>?_)
  simp only [zS,hr,simprocAttr]
  refine ⟨by simp;omega,hQ ?_⟩
  refine RG.callv [] rfl trivial (conf_Of_1_con l[i]) (tr_cons tr_v tr_nil) trivial (.inl trivial) ?_
  refine aE ?_
  refine aw_cond _ rfl trivial (fun ht=>?_) (fun hf=>?_)
  ·have hm : mayN l[i] = false:=by simpa using ht
   rw [idxN_hit hi' hm fun j hj=>hall j (by omega) hj]
   simp only [zX]
   refine aR 800 ?_
   exact Fin.scalar (.inr rfl) rfl trivial rfl trivial
  have hm : mayN l[i] = true:=by simpa using hf
  simp only [zX]
  refine aR 800 ?_
  refine ⟨⟨i + 1,hi',fun j h hj=>?_⟩,?_,by simp;omega⟩
  ·rcases Nat.lt_or_ge j i with h1 | h1
   ·exact hall j h h1
   ·have : j = i:=by omega
    subst this;exact hm
  refine Le.lit [] [] _ _ ?_ ?_ ?_ ?_
  ·skip
   simp only [zL,simprocAttr]
   rw [w64 _ (by omega) (by omega)];rfl
  ·skip
   simp only [zL,simprocAttr]
  ·simp
  ·simp
 have hi' : i = l.length:=by simp at hf;omega
 subst hi'
 rw [idxN_miss fun n hn=>by obtain ⟨j,hj,rfl⟩:=List.mem_iff_getElem.1 hn;exact hall j hj hj]
 simp only [zX,↓reduceIte]
 refine aR 480 ?_
 exact Fin.scalar (.inr rfl) rfl trivial rfl trivial


theorem idxN_cases (l : List Int) : (idxN l = -1∧∀ n ∈ l,mayN n = true)∨∃ i,∃ h : i < l.length,idxN l = (i : Nat)∧mayN l[i] = false∧∀ j (h : j < i),mayN (l[j]'(by omega)) = true:=by
 unfold idxN
 cases hf : l.findIdx? (fun n=>!mayN n) with
 | none =>
  refine .inl ⟨rfl,fun n hn=>?_⟩
  rw [List.findIdx?_eq_none_iff] at hf
  simpa using hf n hn
 | some i =>
  rw [List.findIdx?_eq_some_iff_getElem] at hf
  obtain ⟨h1,h2,h3⟩:=hf
  exact .inr ⟨i,h1,rfl,by simpa using h2,fun j hj=>by simpa using h3 j hj⟩

theorem filter_lt (l : List Int) (i j : Nat) (hi : i < l.length) (hm : mayN l[i] = false) (hj : i < j) (hjl : j≤l.length) : ((l.take j).filter mayN).length < j:=by
 have h : ((l.take j).filter mayN).length < (l.take j).length:=by
  rw [List.length_filter_lt_length_iff_exists]
  exact ⟨l[i],List.mem_of_getElem? (i:=i) (by rw [List.getElem?_take,if_pos hj];exact List.getElem?_eq_getElem hi),by simp [hm]⟩
 simp at h;omega

theorem filter_first (l : List Int) (i0 : Nat) (hi0 : i0 < l.length) (h2 : mayN l[i0] = false) (h3 : ∀ j (h : j < i0),mayN (l[j]'(by omega)) = true) : (l.take (i0 + 1)).filter mayN = l.take i0:=by
 rw [take_one l i0 hi0,List.filter_append]
 have e1 : (l.take i0).filter mayN = l.take i0:=List.filter_eq_self.2 fun n hn=>by
  obtain ⟨j,hj,rfl⟩:=List.mem_iff_getElem.1 hn
  simp at hj
  rw [List.getElem_take];exact h3 j (by omega)
 simp [e1,h2]

theorem filter_next (l : List Int) (j : Nat) (hj : j < l.length) : (l.take (j + 1)).filter mayN = (l.take j).filter mayN ++ if mayN l[j] then [l[j]] else []:=by
 rw [take_one l j hj,List.filter_append]
 cases h : mayN l[j] <;> simp [h]

theorem set_take {α : Type} (l : List α) (i : Nat) (x : α) (hi : i < l.length) : (l.set i x).take (i + 1) = l.take i ++ [x]:=by
 rw [List.take_set,take_one l i hi,List.set_append,if_neg (by rw [List.length_take];omega),List.length_take,Nat.min_eq_left (by omega),Nat.sub_self]
 simp

theorem drop_get {α : Type} {l m : List α} {j : Nat} (h : l.drop j = m.drop j) : l[j]? = m[j]?:=by
 have:=congrArg (fun k=>k[0]?) h
 simpa using this

theorem slices_DeleteFunc_con (l : List Int) (hb : l.length≤10000000000000) : Con Try.prog 47 [.c (.osl 0),.c (.fn 49 [])] [.arr 3 1 (l.map nrow) false] (.c (.osl 1)) [.gone,.arr 3 1 ((l.filter mayN).map nrow) false]:=by
 refine C_slices_DeleteFunc_int_int nl nl ?_
 simp only [cz,A_slices_DeleteFunc_int_int,argL,objL,List.length_nil,List.length_cons,Nat.zero_add,zX]
 refine aR 16 ?_
 refine aB 160 ?_
 refine RG.call [0] (slices_IndexFunc_con l hb) (tr_cons (tr_view (by simp) rfl (drows_nrow _)) (tr_cons ⟨rfl,trivial⟩ tr_nil)) (views1 rfl trivial) (.inl trivial) ?_
 refine aE ?_
 refine aR 320 ?_
 refine aw_cond _ rfl trivial (fun ht=>?_) (fun hf=>?_)
 ·rcases idxN_cases l with ⟨h1,h2⟩ | ⟨i,_,h1,_⟩
  rotate_left
  ·exfalso;rw [h1] at ht;simp at ht
  simp only [zX]
  refine aR 480 ?_
  have : l.filter mayN = l:=List.filter_eq_self.2 h2
  rw [this]
  exact Fin.moved (.inr rfl) rfl trivial rfl (drows_nrow _)
 rcases idxN_cases l with ⟨h1,_⟩ | ⟨i0,hi0,h1,h2,h3⟩
 ·exfalso;rw [h1] at hf;simp at hf
 have hw : IntKind.i64.wrap ((i0 : Int) + 1) = ((i0 + 1 : Nat) : Int):=by rw [w64 _ (by omega) (by omega)];rfl
 rw [h1]
 simp only [zX]
 refine aS 480 (fun Q hQ=>by simp only [zS,hw,simprocAttr];exact hQ) ?_
 refine aw_loop (X:={ p : Nat × List Int // p.1≤l.length∧i0 < p.1∧p.2.length = l.length∧p.2.drop p.1 = l.drop p.1∧p.2.take ((l.take p.1).filter mayN).length = (l.take p.1).filter mayN }) (fun p=>mkSt [(0,.c (.osl 0)),(1,.c (.fn 49 [])),(5,I (((l.take p.1.1).filter mayN).length : Nat)),(6,I p.1.1)] [(0,.arr 3 1 (p.1.2.map nrow) false)]) (fun p=>l.length - p.1.1) ⟨(i0 + 1,l),?_⟩ ?_ ?_
 ·have hft:=filter_first l i0 hi0 h2 h3
  refine ⟨by omega,by omega,rfl,rfl,?_⟩
  simp only [hft]
  congr 1
  simp;omega
 ·refine Le.lit [] [] _ _ ?_ ?_ ?_ ?_
  ·skip
   simp only [zL,simprocAttr]
   have hft:=filter_first l i0 hi0 h2 h3
   rw [hft]
   simp;omega
  ·skip
   simp only [zL,simprocAttr]
   exact drows_nrow _
  ·simp
  ·simp [rlook]
 rintro ⟨⟨j,cur⟩,hj,hij,hlen,hdr,htk⟩
 simp only at hj hij hlen hdr htk
 simp only [zX]
 refine aR 640 ?_
 have hfl:=filter_lt l i0 j hi0 h2 hij hj
 refine aw_cond _ rfl trivial (fun ht=>?_) (fun hf=>?_)
 ·have hj' : j < l.length:=by simp [hlen] at ht;omega
  have hcj : cur[j]? = some l[j]:=by rw [drop_get hdr];exact List.getElem?_eq_getElem hj'
  have hr : (List.map nrow cur)[(j : Int).toNat]?.getD [] = [.v (.int .i64 l[j])]:=by simp [hcj,nrow]
  have hnx:=filter_next l j hj'
  simp only [zX]
  refine aw_reg 800 (RG.go fun Q hQ=>?_)
  simp only [zS,hr,simprocAttr]
  refine ⟨by simp;omega,by simp;omega,hQ (RG.nil ?_)⟩
  simp only [zX]
  refine aB 960 ?_
  refine RG.callv [] rfl trivial (conf_Of_1_con l[j]) (tr_cons tr_v tr_nil) trivial (.inl trivial) ?_
  refine aE ?_
  have hic : ((l.take j).filter mayN).length < cur.length:=by omega
  refine aw_cond _ rfl trivial (fun ht2=>?_) (fun hf2=>?_)
  ·have hm : mayN l[j] = true:=by simpa using ht2
   rw [hm,if_pos rfl] at hnx
   have hr2 : (List.map nrow cur)[(((l.take j).filter mayN).length : Int).toNat]?.getD [] = [.v (.int .i64 cur[((l.take j).filter mayN).length])]:=by simp [hic,nrow]
   simp only [zX]
   refine aw_reg 1120 (RG.go fun Q hQ=>?_)
   simp only [zS,hr2,simprocAttr]
   refine ⟨by simp;omega,by simp;omega,hQ (RG.nil ?_)⟩
   simp only [zX]
   refine aR 1280 ?_
   refine aR 1440 ?_
   refine ⟨⟨(j + 1,cur.set ((l.take j).filter mayN).length l[j]),by omega,by simp only;omega,by simp [hlen],?_,?_⟩,?_,by simp only;omega⟩
   ·simp only
    rw [List.drop_set_of_lt (by omega)]
    have:=congrArg (List.drop 1) hdr
    simpa using this
   ·simp only [hnx]
    rw [List.length_append,List.length_singleton,set_take cur _ _ hic,htk]
   refine Le.lit [] [] _ _ ?_ ?_ ?_ ?_
   ·skip
    simp only [zL,simprocAttr]
    exact ⟨by rw [hnx,w64 _ (by omega) (by omega),List.length_append];rfl,by rw [w64 _ (by omega) (by omega)];rfl⟩
   ·skip
    simp only [zL,simprocAttr]
    exact ⟨by rw [List.map_set];simp [nrow],drows_nrow _⟩
   ·simp
   ·simp [rlook]
  have hm : mayN l[j] = false:=by simpa using hf2
  rw [hm] at hnx
  simp only [zX]
  refine aR 1120 ?_
  refine ⟨⟨(j + 1,cur),by omega,by simp only;omega,hlen,?_,?_⟩,?_,by simp only;omega⟩
  ·have:=congrArg (List.drop 1) hdr
   simpa using this
  ·simp only [hnx];simpa using htk
  refine Le.lit [] [] _ _ ?_ ?_ ?_ ?_
  ·skip
   simp only [zL,simprocAttr]
   exact ⟨by rw [hnx];simp,by rw [w64 _ (by omega) (by omega)];rfl⟩
  ·skip
   simp only [zL,simprocAttr]
   exact drows_nrow _
  ·simp
  ·simp [rlook]
 have hj' : j = l.length:=by simp [hlen] at hf;omega
 subst hj'
 rw [List.take_length] at htk hfl
 have hne : List.map nrow cur≠[]:=by intro h;have:=congrArg List.length h;simp at this;rw [this] at hlen;simp at hlen;omega
 simp only [zX,↓reduceIte]
 refine aw_reg 801 (RG.go fun Q hQ=>?_)
 simp only [zS,List.take_length,simprocAttr]
 refine ⟨⟨by omega,by simp;omega,hne⟩,by simp;omega,hQ (RG.nil ?_)⟩
 simp only [zX]
 refine aw_reg 1001 (RG.go fun Q hQ=>?_)
 simp only [zS,simprocAttr]
 refine ⟨⟨by omega,by simp;omega⟩,hQ (RG.nil ?_)⟩
 simp only [zX]
 refine Fin.objs [] [(1,1033)] (.inr rfl) rfl (by exact trivial) ?_ ?_ (by simp [objL,rlook]) (by (simp [objL,rlook];done))
 ·simp only [zL,simprocAttr]
 ·simp only [zL,simprocAttr]
  all_goals (exact ⟨by simp;rw [List.take_append_of_le_length (by simp;omega),← List.map_take,htk,List.take_of_length_le (by simp)],drows_nrow _⟩)

def ins (x : Int) : List Int→List Int
 | []=>[x]
 | y :: r=>if x≤y then x :: y :: r else y :: ins x r

def isort : List Int→List Int
 | []=>[]
 | x :: r=>ins x (isort r)

theorem ins_perm (x : Int) : ∀ l,(ins x l).Perm (x :: l)
 | []=>.refl _
 | y :: r=>by
  unfold ins
  split
  ·exact .refl _
  ·exact ((ins_perm x r).cons y).trans (List.Perm.swap x y r)

theorem isort_perm : ∀ l,(isort l).Perm l
 | []=>.refl _
 | x :: r=>(ins_perm x _).trans ((isort_perm r).cons x)

theorem ins_sorted (x : Int) : ∀ l,l.Pairwise (·≤·)→(ins x l).Pairwise (·≤·)
 | [],_=>by simp [ins]
 | y :: r,h=>by
  rw [List.pairwise_cons] at h
  unfold ins
  split
  ·rename_i hxy
   rw [List.pairwise_cons,List.pairwise_cons]
   exact ⟨fun z hz=>by
    rcases List.mem_cons.1 hz with rfl | hz
    ·exact hxy
    ·exact Int.le_trans hxy (h.1 z hz),h⟩
  ·rename_i hxy
   rw [List.pairwise_cons]
   refine ⟨fun z hz=>?_,ins_sorted x r h.2⟩
   rcases List.mem_cons.1 ((ins_perm x r).mem_iff.1 hz) with rfl | hz
   ·omega
   ·exact h.1 z hz

theorem isort_sorted : ∀ l,(isort l).Pairwise (·≤·)
 | []=>.nil
 | x :: r=>ins_sorted x _ (isort_sorted r)

theorem sorted_eq : ∀ {l m : List Int},l.Perm m→l.Pairwise (·≤·)→m.Pairwise (·≤·)→l = m
 | [],m,h,_,_=>by have:=h.length_eq;cases m with | nil=>rfl | cons=>simp at this
 | x :: l,[],h,_,_=>by have:=h.length_eq;simp at this
 | x :: l,y :: m,h,hl,hm=>by
  rw [List.pairwise_cons] at hl hm
  have h1 : x = y:=by
   have hx : x ∈ y :: m:=h.mem_iff.1 (by simp)
   have hy : y ∈ x :: l:=h.mem_iff.2 (by simp)
   rcases List.mem_cons.1 hx with e | hx
   ·exact e
   ·rcases List.mem_cons.1 hy with e | hy
    ·exact e.symm
    ·have:=hm.1 x hx;have:=hl.1 y hy;omega
  subst h1
  rw [sorted_eq (List.Perm.cons_inv h) hl.2 hm.2]

theorem isort_unique {l m : List Int} (h : m.Perm l) (hs : m.Pairwise (·≤·)) : m = isort l:=sorted_eq (h.trans (isort_perm l).symm) hs (isort_sorted l)

theorem cmp_isNaN_con (n : Int) : Con Try.prog 72 [I n] [] (B false) []:=by
 refine C_cmp_isNaN_int nl nl ?_
 simp only [cz,A_cmp_isNaN_int,argL,objL,List.length_nil,zX]
 refine aR 16 ?_
 refine aR 160 ?_
 exact Fin.b (.inr rfl) rfl trivial (by simp)

theorem cmp_Less_con (a b : Int) : Con Try.prog 62 [I a,I b] [] (B (decide (a < b))) []:=by
 refine C_cmp_Less_int nl nl ?_
 simp only [cz,A_cmp_Less_int,argL,objL,List.length_nil,Nat.zero_add,zX]
 refine aR 16 ?_
 refine aB 160 ?_
 refine rC [] (cmp_isNaN_con a) ?_ (hv:=(trivial)) (hs:=(.inl trivial))
 refine aM ?_
 refine rG _ _ (cmp_isNaN_con b) ?_
 refine aE ?_
 exact Fin.b (.inr rfl) rfl trivial rfl

theorem slices_insertionSort_con (l : List Int) (hb : l.length≤1000) : Con Try.prog 56 [.c (.osl 0),I 0,I l.length] [.arr 3 1 (l.map nrow) false] (.tup []) [.arr 3 1 ((isort l).map nrow) false]:=by
 refine C_slices_insertionSortOrdered_int nl nl ?_
 simp only [cz,A_slices_insertionSortOrdered_int,argL,objL,List.length_nil,List.length_cons,Nat.zero_add,zX,simprocAttr]
 refine aS 16 (fun Q hQ=>by simp only [zS,(w64 1 (by decide) (by decide)),simprocAttr];exact hQ) ?_
 refine aw_loop (X:={ p : Nat × List Int // p.2.Perm l∧(p.2.take p.1).Pairwise (·≤·)∧p.1≤1 + l.length∧1≤p.1 }) (fun p=>mkSt [(0,.c (.osl 0)),(1,I 0),(2,I l.length),(6,I p.1.1)] [(0,.arr 3 1 (p.1.2.map nrow) false)]) (fun p=>1 + l.length - p.1.1) ⟨(1,l),.refl _,?_,by simp only;omega,by simp only;omega⟩ ?_ ?_
 ·rcases l with _ | ⟨a,r⟩ <;> simp
 ·refine Le.lit [] [] _ _ ?_ ?_ ?_ ?_
  ·skip
   simp only [zL,simprocAttr]
  ·skip
   simp only [zL,simprocAttr]
   exact drows_nrow _
  ·simp
  ·simp [rlook]
 rintro ⟨⟨i,cur⟩,hp,hs,hi,hi1⟩
 simp only at hp hs hi hi1
 have hlen:=hp.length_eq
 simp only [zX]
 refine aR 160 ?_
 refine aw_cond _ rfl trivial (fun ht=>?_) (fun hf=>?_)
 rotate_left
 ·have hil : l.length≤i:=by simp at hf;omega
  rw [List.take_of_length_le (by omega)] at hs
  have he:=isort_unique hp hs
  simp only [zX,↓reduceIte]
  refine Fin.objs [] [] (.inl rfl) rfl trivial ?_ ?_ (by simp [objL,rlook]) (by simp [objL,rlook])
  ·skip
   simp only [zL]
  ·skip
   simp only [zL,simprocAttr]
   exact ⟨by rw [he],drows_nrow _⟩
 have hil : i < l.length:=by simp at ht;omega
 obtain ⟨x,hx⟩ : ∃ x,cur[i]? = some x:=⟨cur[i],List.getElem?_eq_getElem (by omega)⟩
 obtain ⟨s,r,hcur,hsl,hs'⟩ : ∃ s r,cur = s ++ x :: r∧s.length = i∧s.Pairwise (·≤·):=by
  refine ⟨cur.take i,cur.drop (i + 1),?_,by simp;omega,hs⟩
  have h1:=List.take_append_drop i cur
  rw [List.drop_eq_getElem_cons (by omega)] at h1
  rw [List.getElem?_eq_getElem (by omega)] at hx
  simp only [Option.some.injEq] at hx
  rw [hx] at h1;exact h1.symm
 simp only [zX]
 refine aR 320 ?_
 refine aw_loop (X:={ c : Nat × List Int // ∃ p q,c.2 = p ++ x :: (q ++ r)∧c.1 = p.length∧p.length + q.length = i∧(p ++ q).Pairwise (·≤·)∧(∀ y ∈ q,x≤y)∧c.2.Perm l }) (fun c=>mkSt [(0,.c (.osl 0)),(1,I 0),(2,I l.length),(6,I i),(7,I c.1.1)] [(0,.arr 3 1 (c.1.2.map nrow) false)]) (fun c=>c.1.1) ⟨(i,cur),s,[],by simpa using hcur,hsl.symm,by simp [hsl],by simpa using hs',by simp,hp⟩ ?_ ?_
 ·refine Le.lit [] [] _ _ ?_ ?_ ?_ ?_
  ·skip
   simp only [zL,simprocAttr]
  ·skip
   simp only [zL,simprocAttr]
   exact drows_nrow _
  ·simp
  ·simp [rlook]
 rintro ⟨⟨j,c⟩,p,q,hc,hj,hpq,hsd,hxq,hcp⟩
 simp only at hc hj hpq hcp
 have hcl : c.length = l.length:=hcp.length_eq
 have hcx : c[j]? = some x:=by rw [hc,hj];simp
 have hr1 : (List.map nrow c)[(j : Int).toNat]?.getD [] = [.v (.int .i64 x)]:=by simp [hcx,nrow]
 have htake : c.take (i + 1) = p ++ x :: q:=by
  rw [hc,show p ++ x :: (q ++ r) = (p ++ x :: q) ++ r by simp]
  exact List.take_left' (by simp;omega)
 rcases List.eq_nil_or_concat p with rfl | ⟨p',y,rfl⟩
 ·have hj0 : j = 0:=by simpa using hj
  subst hj0
  have hout : (c.take (i + 1)).Pairwise (·≤·):=by
   rw [htake]
   simp only [List.nil_append,List.pairwise_cons]
   exact ⟨hxq,by simpa using hsd⟩
  simp only [zX]
  refine aBDs 480 (fun Q hQ=>by simp only [zS,decide_false,Int.lt_irrefl,simprocAttr];exact hQ) ?_
  refine RG.callg (res:=B false) _ _ [] rfl (fun hg=>absurd hg (by simp)) ?_
  refine RG.go fun Q hQ=>?_
  simp only [zS,simprocAttr]
  refine hQ (RG.nil ⟨by decide,?_⟩)
  simp only [zX]
  refine aw_cond _ rfl trivial (fun ht=>by cases ht) (fun hf=>?_)
  simp only [zX,↓reduceIte]
  refine aR 720 ?_
  refine ⟨⟨(i + 1,c),hcp,hout,by simp only;omega,by simp only;omega⟩,?_,by simp only;omega⟩
  refine Le.lit [] [] _ _ ?_ ?_ ?_ ?_
  ·skip
   simp only [zL,simprocAttr]
   rw [w64 _ (by omega) (by omega)];rfl
  ·skip
   simp only [zL,simprocAttr]
   exact drows_nrow _
  ·simp
  ·simp [rlook]
 rw [List.concat_eq_append] at *
 have hjp : j = p'.length + 1:=by simpa using hj
 have hcy : c[j - 1]? = some y:=by rw [hc,hjp];simp
 have hwj : IntKind.i64.wrap ((j : Int) - 1) = ((j - 1 : Nat) : Int):=by rw [w64 _ (by omega) (by omega)];omega
 have hr2 : (List.map nrow c)[((j - 1 : Nat) : Int).toNat]?.getD [] = [.v (.int .i64 y)]:=by simp [hcy,nrow]
 have hjd : decide ((0 : Int) < (j : Int)) = true:=by simp;omega
 have hjl : j < l.length:=by omega
 simp only [zX]
 refine aw_draw 480 (RG.go fun Q hQ=>?_)
 simp only [zS,hjd,hwj,hr1,hr2,simprocAttr]
 refine ⟨⟨by omega,by simp;omega⟩,by simp;omega,⟨by omega,by simp;omega⟩,by simp;omega,hQ ?_⟩
 refine rG _ _ (cmp_Less_con x y) ?_
 refine RG.go fun Q hQ=>?_
 simp only [zS,simprocAttr]
 refine hQ (RG.nil ⟨by decide,?_⟩)
 simp only [zX]
 refine aw_cond _ rfl trivial (fun ht=>?_) (fun hf=>?_)
 rotate_left
 ·have hyx : y≤x:=by simp at hf;omega
  have hout : (c.take (i + 1)).Pairwise (·≤·):=by
   rw [htake]
   have h1:=List.pairwise_append.1 hsd
   rw [List.pairwise_append]
   refine ⟨h1.1,?_,?_⟩
   ·rw [List.pairwise_cons];exact ⟨hxq,h1.2.1⟩
   ·intro a ha b hb
    have hay : a≤y:=by
     rcases List.mem_append.1 ha with h | h
     ·exact (List.pairwise_append.1 h1.1).2.2 a h y (by simp)
     ·simp at h;omega
    rcases List.mem_cons.1 hb with rfl | hb
    ·omega
    ·have:=hxq b hb;omega
  simp only [zX,↓reduceIte]
  refine aR 720 ?_
  refine ⟨⟨(i + 1,c),hcp,hout,by simp only;omega,by simp only;omega⟩,?_,by simp only;omega⟩
  refine Le.lit [] [] _ _ ?_ ?_ ?_ ?_
  ·skip
   simp only [zL,simprocAttr]
   rw [w64 _ (by omega) (by omega)];rfl
  ·skip
   simp only [zL,simprocAttr]
   exact drows_nrow _
  ·simp
  ·simp [rlook]
 have hxy : x < y:=by simpa using ht
 have hc2 : (List.map nrow c).set (j : Int).toNat [C.v (Value.int IntKind.i64 y)] = (c.set j y).map nrow:=by rw [List.map_set];simp [nrow]
 have hr3 : (List.map nrow (c.set j y))[((j - 1 : Nat) : Int).toNat]?.getD [] = [.v (.int .i64 y)]:=by
  rw [Int.toNat_natCast,List.getElem?_map,List.getElem?_set_ne (by omega),hcy];rfl
 have hc3 : (List.map nrow (c.set j y)).set ((j - 1 : Nat) : Int).toNat [C.v (Value.int IntKind.i64 x)] = ((c.set j y).set (j - 1) x).map nrow:=by rw [List.map_set];simp [nrow]
 have hc' : (c.set j y).set (j - 1) x = p' ++ x :: ((y :: q) ++ r):=by
  rw [hc,hjp,List.append_assoc,List.set_append,if_neg (by omega),List.set_append,if_neg (by omega)]
  simp
 have hcp' : ((c.set j y).set (j - 1) x).Perm l:=by
  rw [hc']
  refine List.Perm.trans ?_ hcp
  rw [hc,List.append_assoc]
  exact List.Perm.append_left p' (List.Perm.swap y x _)
 simp only [zX]
 refine aw_draw 1000 (RG.go fun Q hQ=>?_)
 simp only [zS,hwj,hr1,hr2,hc2,hr3,hc3,simprocAttr]
 refine ⟨⟨by omega,by simp;omega⟩,by simp;omega,⟨by omega,by simp;omega⟩,by simp;omega,⟨by omega,by simp;omega⟩,by simp;omega,⟨by omega,by simp;omega⟩,by simp;omega,?_⟩
 refine hQ (RG.nil ⟨by decide,?_⟩)
 simp only [zX]
 refine aS 1400 (fun Q hQ=>by simp only [zS,hwj,simprocAttr];exact hQ) ?_
 refine ⟨⟨(j - 1,(c.set j y).set (j - 1) x),p',y :: q,hc',by simp only;omega,by simp at hpq ⊢;omega,by simpa using hsd,?_,hcp'⟩,?_,by simp only;omega⟩
 ·intro z hz
  rcases List.mem_cons.1 hz with rfl | hz
  ·omega
  ·exact hxq z hz
 refine Le.lit [] [] _ _ ?_ ?_ ?_ ?_
 ·skip
  simp only [zL,simprocAttr]
 ·skip
  simp only [zL,simprocAttr]
  exact drows_nrow _
 ·simp
 ·simp [rlook]


theorem bits_Len64_con (n : Nat) (h : n≤12) : ∃ k,Con Try.prog 66 [.c (.v (.int .u64 n))] [] (I k) []:=by
 apply Exists.intro
 ·have hw : IntKind.u8.wrap (n : Int) = n:=u8wrap n (by omega)
  refine C_math_bits_Len64 nl nl ?_
  simp only [cz,A_math_bits_Len64,argL,objL,List.length_nil,zX]
  refine aR 16 ?_
  refine aR 160 ?_
  refine aw_cond _ rfl trivial (fun ht=>?_) (fun hf=>?_)
  ·exfalso;simp at ht;omega
  simp only [zX]
  refine aR 320 ?_
  refine aw_cond _ rfl trivial (fun ht=>?_) (fun hf=>?_)
  ·exfalso;simp at ht;omega
  simp only [zX]
  refine aR 480 ?_
  refine aw_cond _ rfl trivial (fun ht=>?_) (fun hf=>?_)
  ·exfalso;simp at ht;omega
  simp only [zX]
  refine aw_reg 640 (RG.go fun Q hQ=>?_)
  simp only [zS,hw,simprocAttr]
  refine ⟨⟨by omega,Int.lt_of_le_of_lt (Int.ofNat_le.2 h) (by decide)⟩,hQ (RG.nil ?_)⟩
  simp only [zX]
  exact Fin.scalar (.inr rfl) rfl trivial rfl trivial

theorem bits_Len_con (n : Nat) (h : n≤12) : ∃ k,Con Try.prog 55 [.c (.v (.int .u64 n))] [] (I k) []:=by
 obtain ⟨k,hk⟩:=bits_Len64_con n h
 refine ⟨k,?_⟩
 refine C_math_bits_Len nl nl ?_
 simp only [cz,A_math_bits_Len,argL,objL,List.length_nil,zX]
 refine aR 16 ?_
 refine aF ?_
 refine aB 160 ?_
 refine rC [] (hk) ?_ (hv:=(trivial)) (hs:=(.inl trivial))
 refine aE ?_
 exact Fin.scalar (.inr rfl) rfl trivial rfl trivial

theorem slices_pdqsort_con (l : List Int) (k : Int) (hb : l.length≤12) : Con Try.prog 54 [.c (.osl 0),I 0,I l.length,I k] [.arr 3 1 (l.map nrow) false] (.tup []) [.arr 3 1 ((isort l).map nrow) false]:=by
 have hw : IntKind.i64.wrap ((l.length : Int) - 0) = l.length:=by rw [w64 _ (by omega) (by omega)];omega
 refine C_slices_pdqsortOrdered_int nl nl ?_
 simp only [cz,A_slices_pdqsortOrdered_int,argL,objL,List.length_nil,List.length_cons,Nat.zero_add,zX,simprocAttr]
 refine aR 16 ?_
 refine aR 160 ?_
 refine aw_loop (X:=Unit) (fun _=>mkSt [(0,.c (.osl 0)),(1,I 0),(2,I l.length),(3,I k)] [(0,.arr 3 1 (l.map nrow) false)]) (fun _=>0) () ?_ ?_
 ·refine Le.lit [] [] _ _ ?_ ?_ ?_ ?_
  ·skip
   simp only [zL,simprocAttr]
  ·skip
   simp only [zL,simprocAttr]
   exact drows_nrow _
  ·simp
  ·simp [rlook]
 rintro ⟨⟩
 simp only [zX]
 refine aS 320 (fun Q hQ=>by simp only [zS,hw,simprocAttr];exact hQ) ?_
 refine aR 480 ?_
 refine aw_cond _ rfl trivial (fun ht=>?_) (fun hf=>?_)
 rotate_left
 ·exfalso;simp at hf;omega
 simp only [zX]
 refine aB 640 ?_
 refine rO [0] [] (slices_insertionSort_con l (by omega)) ?_
 refine aE ?_
 refine Fin.objs [] [] (.inr rfl) rfl trivial ?_ ?_ (by simp [objL,rlook]) (by simp [objL,rlook])
 ·skip
  simp only [zL]
 ·skip
  simp only [zL,simprocAttr]
  exact drows_nrow _

theorem slices_Sort_con (l : List Int) (hb : l.length≤12) : Con Try.prog 51 [.c (.osl 0)] [.arr 3 1 (l.map nrow) false] (.tup []) [.arr 3 1 ((isort l).map nrow) false]:=by
 obtain ⟨k,hk⟩:=bits_Len_con l.length hb
 have hw : IntKind.u64.wrap ((l.map nrow).length : Int) = (l.length : Int):=by rw [w_u64,List.length_map];omega
 refine C_slices_Sort_int_int nl nl ?_
 simp only [cz,A_slices_Sort_int_int,argL,objL,List.length_nil,List.length_cons,Nat.zero_add,zX]
 refine aR 16 ?_
 refine aBs 160 (fun Q hQ=>by simp only [zS,hw,simprocAttr];exact hQ) ?_
 refine rC [] (hk) ?_ (hv:=(trivial)) (hs:=(.inl trivial))
 refine aM ?_
 refine RG.callo [0] [] (slices_pdqsort_con l k hb) (.mk (tr_cons (tr_osl rfl) (tr_cons tr_v (tr_cons (congrArg (fun k : Nat=>Value.int .i64 (k : Int)) (by simp : (l.map nrow).length = l.length)) (tr_cons tr_v tr_nil)))) (by simp only [zT,↓reduceIte];exact drows_nrow _) (by simp) (by simp) (trivial) (by simp [lkE_cons,lkE_nil]) (by simp only [List.mem_singleton,forall_eq,Ent.pure];exact drows_nrow _) (by simp) (by simp)) ?_
 refine RG.go fun Q hQ=>?_
 simp only [zS,simprocAttr]
 refine hQ (RG.nil ?_)
 refine Fin.objs [] [] (.inl rfl) rfl trivial ?_ ?_ (by simp [objL,rlook]) (by simp [objL,rlook])
 ·skip
  simp only [zL]
 ·skip
  simp only [zL,simprocAttr]
  exact drows_nrow _

def dd : List Int→List Int
 | []=>[]
 | [x]=>[x]
 | x :: y :: r=>if x = y then dd (y :: r) else x :: dd (y :: r)

theorem dd_snoc (p e : Int) : ∀ m : List Int,dd (m ++ [p] ++ [e]) = dd (m ++ [p]) ++ if e = p then [] else [e]
 | []=>by
  by_cases h : e = p
  ·subst h;simp [dd]
  ·have h' : ¬ p = e:=fun hh=>h hh.symm
   simp [dd,h,h']
 | [x]=>by
  have ih:=dd_snoc p e []
  simp only [List.nil_append,List.cons_append,dd] at ih ⊢
  by_cases h : x = p
  ·simp only [h,if_true];exact ih
  ·simp only [h,if_false,List.cons_append];rw [ih];simp
 | x :: y :: r=>by
  have ih:=dd_snoc p e (y :: r)
  simp only [List.cons_append,dd] at ih ⊢
  by_cases h : x = y
  ·simp only [h,if_true];exact ih
  ·simp only [h,if_false,List.cons_append];rw [ih]

theorem dd_take (l : List Int) (n : Nat) (h0 : 0 < n) (hn : n < l.length) : dd (l.take (n + 1)) = dd (l.take n) ++ if l[n] = l[n - 1] then [] else [l[n]]:=by
 have h1 : l.take n = l.take (n - 1) ++ [l[n - 1]]:=by
  have:=take_one l (n - 1) (by omega)
  rwa [show n - 1 + 1 = n by omega] at this
 rw [take_one l n hn,h1,dd_snoc]

theorem pure2 {E : TypeId} {s : Nat} {rows : List (List C)} {fz : Bool} (h : isDRows rows) : ∀ e ∈ ([.gone,.arr E s rows fz] : List Ent),e.pure:=by
 intro e he
 simp only [List.mem_cons,List.not_mem_nil,or_false] at he
 rcases he with h1 | h1 <;> rw [h1]
 ·exact trivial
 ·exact h

theorem slices_Compact_con (l : List Int) (hb : l.length≤1000000) : Con Try.prog 52 [.c (.osl 0)] [.arr 3 1 (l.map nrow) false] (.c (.osl 1)) [.gone,.arr 3 1 ((dd l).map nrow) false]:=by
 refine C_slices_Compact_int_int nl nl ?_
 simp only [cz,A_slices_Compact_int_int,argL,objL,List.length_nil,List.length_cons,Nat.zero_add,zX]
 refine aR 16 ?_
 refine aR 160 ?_
 refine aw_cond _ rfl trivial (fun ht=>?_) (fun hf=>?_)
 ·have hd : dd l = l:=by
   rcases l with _ | ⟨a,_ | ⟨b,r⟩⟩
   ·rfl
   ·rfl
   ·simp at ht;omega
  rw [hd]
  simp only [zX]
  refine aR 320 ?_
  exact Fin.moved (.inr rfl) rfl trivial rfl (drows_nrow _)
 have hl2 : 2≤l.length:=by simp at hf;omega
 simp only [zX]
 refine aR 320 ?_
 refine aw_loop (X:={ k : Nat // 1≤k∧k≤l.length∧dd (l.take k) = l.take k }) (fun k=>mkSt [(0,.c (.osl 0)),(3,I k.1)] [(0,.arr 3 1 (l.map nrow) false)]) (fun k=>l.length - k.1) ⟨1,by omega,by omega,?_⟩ ?_ ?_
 ·rcases l with _ | ⟨a,r⟩ <;> simp [dd]
 ·refine Le.lit [] [] _ _ ?_ ?_ ?_ ?_
  ·skip
   simp only [zL,simprocAttr]
  ·skip
   simp only [zL,simprocAttr]
   exact drows_nrow _
  ·simp
  ·simp [rlook]
 rintro ⟨k,hk1,hk,hdk⟩
 simp only [zX]
 refine aR 480 ?_
 refine aw_cond _ rfl trivial (fun ht=>?_) (fun hf=>?_)
 rotate_left
 ·have hk' : k = l.length:=by simp at hf;omega
  rw [hk',List.take_length] at hdk
  rw [hdk]
  simp only [zX,↓reduceIte]
  refine aR 640 ?_
  exact Fin.moved (.inr rfl) rfl trivial rfl (drows_nrow _)
 have hk' : k < l.length:=by simp at ht;omega
 have hw : IntKind.i64.wrap ((k : Int) - 1) = ((k - 1 : Nat) : Int):=by rw [w64 _ (by omega) (by omega)];omega
 have hw1 : IntKind.i64.wrap ((k : Int) + 1) = ((k + 1 : Nat) : Int):=by rw [w64 _ (by omega) (by omega)];rfl
 have hr1 : (List.map nrow l)[(k : Int).toNat]?.getD [] = [.v (.int .i64 l[k])]:=by simp [hk',nrow]
 have hr2 : (List.map nrow l)[((k - 1 : Nat) : Int).toNat]?.getD [] = [.v (.int .i64 l[k - 1])]:=by
  rw [Int.toNat_natCast,List.getElem?_map,List.getElem?_eq_getElem (by omega)];rfl
 have hdt:=dd_take l k (by omega) hk'
 simp only [zX]
 refine aw_draw 640 (RG.go fun Q hQ=>?_)
 simp only [zS,hw,hr1,hr2,simprocAttr]
 refine ⟨⟨by omega,by simp;omega⟩,by simp;omega,⟨by omega,by simp;omega⟩,by simp;omega,?_⟩
 refine hQ (RG.nil ⟨by decide,?_⟩)
 simp only [zX]
 refine aw_cond _ rfl trivial (fun ht2=>?_) (fun hf2=>?_)
 rotate_left
 ·have hne : l[k]≠l[k - 1]:=by simpa using hf2
  rw [if_neg hne,hdk,← take_one l k hk'] at hdt
  simp only [zX]
  refine aS 900 (fun Q hQ=>by simp only [zS,hw1,simprocAttr];exact hQ) ?_
  refine ⟨⟨k + 1,by omega,by omega,hdt⟩,?_,by simp;omega⟩
  refine Le.lit [] [] _ _ ?_ ?_ ?_ ?_
  ·skip
   simp only [zL,simprocAttr]
  ·skip
   simp only [zL,simprocAttr]
   exact drows_nrow _
  ·simp
  ·simp [rlook]
 have heq : l[k] = l[k - 1]:=by simpa using ht2
 rw [if_pos heq,hdk,List.append_nil] at hdt
 have hne : List.map nrow l≠[]:=by intro h;have : l = []:=(by simpa using h);rw [this] at hl2;simp at hl2
 simp only [zX]
 refine aw_reg 901 (RG.go fun Q hQ=>?_)
 simp only [zS,simprocAttr]
 refine ⟨⟨by omega,by simp;omega,hne⟩,hQ (RG.nil ?_)⟩
 simp only [zX]
 refine aR 1000 ?_
 refine aw_loop (X:={ p : Nat × Nat × List Int // 1≤p.2.1∧k + p.2.1≤l.length∧p.1 + 1≤k + p.2.1∧p.2.2.length = l.length∧p.2.2.drop (k + p.2.1 - 1) = l.drop (k + p.2.1 - 1)∧p.2.2.take p.1 = dd (l.take (k + p.2.1))∧(dd (l.take (k + p.2.1))).length = p.1 }) (fun p=>mkSt [(0,.c (.osl 0)),(3,I p.1.1),(4,.c (.ow 0 k (l.length - k))),(5,I p.1.2.1)] [(0,.arr 3 1 (p.1.2.2.map nrow) false)]) (fun p=>l.length - p.1.2.1) ⟨(k,1,l),by simp only;omega,by simp only;omega,by simp only;omega,rfl,rfl,hdt.symm,by rw [hdt];simp;omega⟩ ?_ ?_
 ·refine Le.lit [] [] _ _ ?_ ?_ ?_ ?_
  ·skip
   simp only [zL,simprocAttr]
   simp
  ·skip
   simp only [zL,simprocAttr]
   exact drows_nrow _
  ·simp
  ·simp [rlook]
 rintro ⟨⟨k1,k2,cur⟩,h1,h2,h3,h4,h5,h6,h7⟩
 simp only at h1 h2 h3 h4 h5 h6 h7
 simp only [zX]
 refine aR 1200 ?_
 refine aw_cond _ rfl trivial (fun ht3=>?_) (fun hf3=>?_)
 rotate_left
 ·have hk2 : k + k2 = l.length:=by simp at hf3;omega
  rw [hk2,List.take_length] at h6 h7
  have hne2 : List.map nrow cur≠[]:=by intro h;have:=congrArg List.length h;simp at this;rw [this] at h4;simp at h4;omega
  simp only [zX,↓reduceIte]
  refine aw_reg 1401 (RG.go fun Q hQ=>?_)
  simp only [zS,simprocAttr]
  refine ⟨⟨by omega,by simp;omega,hne2⟩,by simp;omega,hQ (RG.nil ?_)⟩
  simp only [zX]
  refine aw_reg 1601 (RG.go fun Q hQ=>?_)
  simp only [zS,simprocAttr]
  refine ⟨⟨by omega,by simp;omega⟩,hQ (RG.nil ?_)⟩
  simp only [zX]
  refine Fin.objs [] [(1,1633)] (.inr rfl) rfl (by exact trivial) ?_ ?_ (by simp [objL,rlook]) (by (simp [objL,rlook];done))
  ·simp only [zL,simprocAttr]
  ·simp only [zL,simprocAttr]
   all_goals (exact ⟨by simp;rw [List.take_append_of_le_length (by simp;omega),← List.map_take,h6,List.take_of_length_le (by simp;omega)],drows_nrow _⟩)
 have hk2 : k + k2 < l.length:=by simp at ht3;omega
 have hc : ∀ n,k + k2 - 1≤n→cur[n]? = l[n]?:=fun n hn=>by
  have:=congrArg (fun m=>m[n - (k + k2 - 1)]?) h5
  simp only [List.getElem?_drop] at this
  rwa [show k + k2 - 1 + (n - (k + k2 - 1)) = n by omega] at this
 have hv : IntKind.i64.wrap ((k2 : Int) - 1) = ((k2 - 1 : Nat) : Int):=by rw [w64 _ (by omega) (by omega)];omega
 have hv1 : IntKind.i64.wrap ((k2 : Int) + 1) = ((k2 + 1 : Nat) : Int):=by rw [w64 _ (by omega) (by omega)];rfl
 have hv3 : IntKind.i64.wrap ((k1 : Int) + 1) = ((k1 + 1 : Nat) : Int):=by rw [w64 _ (by omega) (by omega)];rfl
 have hs1 : (List.map nrow cur)[k + (k2 : Int).toNat]?.getD [] = [.v (.int .i64 l[k + k2])]:=by
  rw [Int.toNat_natCast,List.getElem?_map,hc _ (by omega),List.getElem?_eq_getElem hk2];rfl
 have hs2 : (List.map nrow cur)[k + ((k2 - 1 : Nat) : Int).toNat]?.getD [] = [.v (.int .i64 l[k + k2 - 1])]:=by
  rw [Int.toNat_natCast,List.getElem?_map,show k + (k2 - 1) = k + k2 - 1 by omega,hc _ (by omega),List.getElem?_eq_getElem (by omega)];rfl
 have hdn:=dd_take l (k + k2) (by omega) hk2
 simp only [zX]
 refine aw_draw 1400 (RG.go fun Q hQ=>?_)
 simp only [zS,hv,hs1,hs2,simprocAttr]
 refine ⟨⟨by omega,by simp;omega⟩,by simp;omega,⟨by omega,by simp;omega⟩,by simp;omega,?_⟩
 refine hQ (RG.nil ⟨by decide,?_⟩)
 simp only [zX]
 refine aw_cond _ rfl trivial (fun ht4=>?_) (fun hf4=>?_)
 rotate_left
 ·have he : l[k + k2] = l[k + k2 - 1]:=by simpa using hf4
  rw [if_pos he,List.append_nil] at hdn
  simp only [zX]
  refine aS 1700 (fun Q hQ=>by simp only [zS,hv1,simprocAttr];exact hQ) ?_
  refine ⟨⟨(k1,k2 + 1,cur),by simp only;omega,by simp only;omega,by simp only;omega,h4,?_,by simp only;rw [h6,← hdn];rfl,by simp only;rw [← h7,← hdn];rfl⟩,?_,by simp only;omega⟩
  ·have:=congrArg (List.drop 1) h5
   simp only [List.drop_drop] at this
   simp only
   rwa [show k + k2 - 1 + 1 = k + (k2 + 1) - 1 by omega] at this
  refine Le.lit [] [] _ _ ?_ ?_ ?_ ?_
  ·skip
   simp only [zL,simprocAttr]
  ·skip
   simp only [zL,simprocAttr]
   exact drows_nrow _
  ·simp
  ·simp [rlook]
 have he : l[k + k2]≠l[k + k2 - 1]:=by simpa using ht4
 rw [if_neg he] at hdn
 have hk1c : k1 < cur.length:=by omega
 have hs3 : (List.map nrow cur)[(k1 : Int).toNat]?.getD [] = [.v (.int .i64 cur[k1])]:=by simp [hk1c,nrow]
 have hs4 : (List.map nrow cur).set (k1 : Int).toNat [C.v (Value.int IntKind.i64 l[k + k2])] = (cur.set k1 l[k + k2]).map nrow:=by rw [List.map_set];simp [nrow]
 simp only [zX]
 refine aw_reg 1700 (RG.go fun Q hQ=>?_)
 simp only [zS,hs1,hs3,hs4,simprocAttr]
 refine ⟨⟨by omega,by simp;omega⟩,by simp;omega,⟨by omega,by simp;omega⟩,by simp;omega,hQ (RG.nil ?_)⟩
 simp only [zX]
 refine aS 1900 (fun Q hQ=>by simp only [zS,hv3,simprocAttr];exact hQ) ?_
 refine aS 2100 (fun Q hQ=>by simp only [zS,hv1,simprocAttr];exact hQ) ?_
 refine ⟨⟨(k1 + 1,k2 + 1,cur.set k1 l[k + k2]),by simp only;omega,by simp only;omega,by simp only;omega,by simp [h4],?_,?_,?_⟩,?_,by simp only;omega⟩
 ·have:=congrArg (List.drop 1) h5
  simp only [List.drop_drop] at this
  simp only
  rw [List.drop_set_of_lt (by omega)]
  rwa [show k + k2 - 1 + 1 = k + (k2 + 1) - 1 by omega] at this
 ·simp only
  rw [set_take cur _ _ hk1c,h6,← hdn];rfl
 ·simp only
  rw [show k + (k2 + 1) = k + k2 + 1 by omega,hdn,List.length_append,h7];rfl
 refine Le.lit [] [] _ _ ?_ ?_ ?_ ?_
 ·skip
  simp only [zL,simprocAttr]
 ·skip
  simp only [zL,simprocAttr]
  exact drows_nrow _
 ·simp
 ·simp [rlook]


def ofS (l : List Int) : List Int:=dd (isort (l.filter mayN))

theorem conf_Of_con (l : List Int) (hb : l.length≤12) : Con Try.prog 46 [.c (.sl (l.map nrow))] [] (.c (.osl 0)) [.arr 3 1 ((ofS l).map nrow) false]:=by
 have hf:=List.length_filter_le mayN l
 have hi:=(isort_perm (l.filter mayN)).length_eq
 refine C_conf_Of nl nl ?_
 simp only [cz,A_conf_Of,argL,objL,List.length_nil,zX]
 refine aR 16 ?_
 refine aB 160 ?_
 refine rO [] [] (slices_Clone_int_int_con (l.map nrow) (drows_nrow _) (nrow_len _) (by simp;omega)) ?_
 refine aM ?_
 refine RG.callo [176] [] (slices_DeleteFunc_con l (by omega)) (.mk (tr_cons (tr_osl rfl) (tr_cons ⟨rfl,trivial⟩ tr_nil)) (by simp only [zT,↓reduceIte];exact drows_nrow _) (by simp) (by simp) (trivial) (by simp [lkE_cons,lkE_nil]) (pure2 (drows_nrow _)) (by simp) (by simp)) ?_
 refine aE ?_
 refine aB 400 ?_
 refine rO [192] [] (slices_Sort_con (l.filter mayN) (by omega)) ?_
 refine aE ?_
 refine aB 600 ?_
 refine rO [192] [] (slices_Compact_con (isort (l.filter mayN)) (by omega)) ?_
 refine aE ?_
 refine Fin.objs [] [(0,616)] (.inr rfl) rfl (by exact trivial) ?_ ?_ (by simp [objL,rlook]) (by (simp [objL,rlook];done))
 ·simp only [zL,simprocAttr]
 ·simp only [zL,simprocAttr]
  all_goals (exact ⟨rfl,drows_nrow _⟩)


theorem slices_Equal_con (l m : List Int) (hb : l.length≤1000000) : Con Try.prog 36 [.c (.sl (l.map nrow)),.c (.sl (m.map nrow))] [] (B (decide (l = m))) []:=by
 refine C_slices_Equal_int_int nl nl ?_
 simp only [cz,A_slices_Equal_int_int,argL,objL,List.length_nil,Nat.zero_add,zX]
 refine aR 16 ?_
 refine aR 160 ?_
 refine aw_cond _ rfl trivial (fun ht=>?_) (fun hf=>?_)
 ·have hne : l≠m:=by rintro rfl;simp at ht
  simp only [zX]
  refine aR 320 ?_
  exact Fin.b (.inr rfl) rfl trivial (by simp [hne])
 have hlen : l.length = m.length:=by simp at hf;omega
 simp only [zX]
 refine aR 320 ?_
 refine aw_loop (X:={ i : Nat // i≤l.length∧l.take i = m.take i }) (fun i=>mkSt [(0,.c (.sl (l.map nrow))),(1,.c (.sl (m.map nrow))),(12,I l.length),(13,I i.1)] []) (fun i=>l.length - i.1) ⟨0,by omega,by simp⟩ ?_ ?_
 ·refine Le.lit [] [] _ _ ?_ ?_ ?_ ?_
  ·skip
   simp only [zL,simprocAttr]
   simp
  ·skip
   simp only [zL,simprocAttr]
  ·simp
  ·simp
 rintro ⟨i,hi,htk⟩
 simp only [zX]
 refine aR 480 ?_
 refine aw_cond _ rfl trivial (fun ht=>?_) (fun hf=>?_)
 rotate_left
 ·have hi' : i = l.length:=by simp at hf;omega
  have he : l = m:=by
   have h1:=htk
   rw [hi',List.take_length] at h1
   rw [hlen,List.take_length] at h1
   exact h1
  simp only [zX,↓reduceIte]
  refine aR 640 ?_
  exact Fin.b (.inr rfl) rfl trivial (by simp [he])
 have hi' : i < l.length:=by simp at ht;omega
 have hm' : i < m.length:=by omega
 have hr1 : (List.map nrow l)[(i : Int).toNat]?.getD [] = [.v (.int .i64 l[i])]:=by simp [hi',nrow]
 have hr2 : (List.map nrow m)[(i : Int).toNat]?.getD [] = [.v (.int .i64 m[i])]:=by simp [hm',nrow]
 have hw1 : IntKind.i64.wrap ((i : Int) + 1) = ((i + 1 : Nat) : Int):=by rw [w64 _ (by omega) (by omega)];rfl
 simp only [zX]
 refine aR 640 ?_
 refine aw_draw 800 (RG.go fun Q hQ=>?_)
 simp only [zS,hr1,hr2,simprocAttr]
 refine ⟨⟨by omega,by simp;omega⟩,⟨by omega,by simp;omega⟩,?_⟩
 refine hQ (RG.nil ⟨by decide,?_⟩)
 simp only [zX]
 refine aw_cond _ rfl trivial (fun ht2=>?_) (fun hf2=>?_)
 ·have hne : l≠m:=by
   rintro rfl
   simp at ht2
  simp only [zX]
  refine aR 1000 ?_
  exact Fin.b (.inr rfl) rfl trivial (by simp [hne])
 have he : l[i] = m[i]:=by simpa using hf2
 simp only [zX]
 refine aw_reg 1000 (RG.go fun Q hQ=>?_)
 simp only [zS,hw1,simprocAttr]
 refine hQ (RG.nil ?_)
 simp only [zX]
 refine ⟨⟨i + 1,hi',by rw [take_one l i hi',take_one m i hm',htk,he]⟩,?_,by simp;omega⟩
 refine Le.lit [] [] _ _ ?_ ?_ ?_ ?_
 ·skip
  simp only [zL,simprocAttr]
 ·skip
  simp only [zL,simprocAttr]
 ·simp
 ·simp

theorem dd_mem (x : Int) : ∀ l : List Int,x ∈ dd l ↔ x ∈ l
 | []=>by simp [dd]
 | [y]=>by simp [dd]
 | y :: z :: r=>by
  have ih:=dd_mem x (z :: r)
  unfold dd
  split
  ·rename_i h;subst h;rw [ih];simp
  ·rw [List.mem_cons,ih,List.mem_cons (a:=x) (b:=y)]

theorem dd_sorted : ∀ l : List Int,l.Pairwise (·≤·)→(dd l).Pairwise (· < ·)
 | [],_=>by simp [dd]
 | [y],_=>by simp [dd]
 | y :: z :: r,h=>by
  rw [List.pairwise_cons] at h
  have ih:=dd_sorted (z :: r) h.2
  unfold dd
  split
  ·exact ih
  ·rename_i hne
   rw [List.pairwise_cons]
   refine ⟨fun x hx=>?_,ih⟩
   have hx':=(dd_mem x (z :: r)).1 hx
   have hyz:=h.1 z (by simp)
   rcases List.mem_cons.1 hx' with rfl | hx'
   ·omega
   ·have hz:=(List.pairwise_cons.1 h.2).1 x hx'
    omega

theorem strict_eq : ∀ {l m : List Int},(∀ x,x ∈ l ↔ x ∈ m)→l.Pairwise (· < ·)→m.Pairwise (· < ·)→l = m
 | [],[],_,_,_=>rfl
 | [],y :: m,h,_,_=>by have:=(h y).2 (by simp);simp at this
 | x :: l,[],h,_,_=>by have:=(h x).1 (by simp);simp at this
 | x :: l,y :: m,h,hl,hm=>by
  rw [List.pairwise_cons] at hl hm
  have h1 : x = y:=by
   rcases List.mem_cons.1 ((h x).1 (by simp)) with e | hx
   ·exact e
   ·rcases List.mem_cons.1 ((h y).2 (by simp)) with e | hy
    ·exact e.symm
    ·have:=hm.1 x hx;have:=hl.1 y hy;omega
  subst h1
  rw [strict_eq (fun z=>?_) hl.2 hm.2]
  constructor
  ·intro hz
   rcases List.mem_cons.1 ((h z).1 (List.mem_cons_of_mem _ hz)) with rfl | hz'
   ·exact absurd (hl.1 z hz) (Int.lt_irrefl _)
   ·exact hz'
  ·intro hz
   rcases List.mem_cons.1 ((h z).2 (List.mem_cons_of_mem _ hz)) with rfl | hz'
   ·exact absurd (hm.1 z hz) (Int.lt_irrefl _)
   ·exact hz'

def ofN (l : List Int) (n : Nat) : List Int:=((List.range n).map fun (k : Nat)=>(k : Int)).filter fun k=>decide (k ∈ l)

theorem ofN_len (l : List Int) (n : Nat) : (ofN l n).length≤n:=by
 unfold ofN
 have:=List.length_filter_le (fun k=>decide (k ∈ l)) ((List.range n).map fun (k : Nat)=>(k : Int))
 simpa using this

theorem ofN_ofS (l : List Int) : ofN l 7 = ofS l:=by
 refine strict_eq (fun x=>?_) ?_ (dd_sorted _ (isort_sorted _))
 ·unfold ofS
  rw [dd_mem,(isort_perm _).mem_iff,List.mem_filter]
  unfold ofN mayN
  simp only [List.mem_filter,List.mem_map,List.mem_range,decide_eq_true_eq,Bool.and_eq_true]
  constructor
  ·rintro ⟨⟨k,hk,rfl⟩,h⟩;exact ⟨h,by omega,by omega⟩
  ·rintro ⟨h,h1,h2⟩;exact ⟨⟨x.toNat,by omega,by omega⟩,h⟩
 ·unfold ofN
  refine List.Pairwise.filter _ ?_
  decide

def rightS (l : List Int) : Bool:=decide (0 < l.length) && decide (l = ofS l)

theorem conf_Right_con (l : List Int) (hb : l.length≤12) : Con Try.prog 39 [.c (.sl (l.map nrow))] [] (B (rightS l)) []:=by
 refine C_conf_Right nl nl ?_
 simp only [cz,A_conf_Right,argL,objL,List.length_nil,zX]
 refine aR 16 ?_
 refine aB 160 ?_
 refine RG.callg _ _ [] rfl (fun hg=>⟨_,(conf_Of_con l hb).rows (drows_nrow _),tr_cons (tr_opt (by simpa using hg) tr_sl) tr_nil,trivial,.inr ⟨rfl,trivial⟩⟩) ?_
 refine aM ?_
 refine rG _ _ (slices_Equal_con l (ofS l) (by omega)) ?_
 refine aE ?_
 exact Fin.b (.inr rfl) rfl trivial (by rw [Bool.eq_iff_iff];simp [rightS])

def baseRight (i t : Int) (conf : List Int) (data : List Nat) : Bool:=timeS i && timeS t && rightS conf && decide (data.length≤32767)

abbrev basC (i t : Int) (conf : List Int) (data : List Nat) : List C:=[.v (.int .i64 i),.v (.int .i64 t),.sl (conf.map nrow),.sl (data.map brow)]

theorem entry_BaseRight_con (i t : Int) (conf : List Int) (data : List Nat) (hb : conf.length≤12) : Con Try.prog 25 [.agg (basC i t conf data)] [] (B (baseRight i t conf data)) []:=by
 refine C_entry_BaseRight nl nl ?_
 simp only [cz,A_entry_BaseRight,argL,objL,List.length_nil,zX]
 refine aR 16 ?_
 refine aB 160 ?_
 refine rC [] (entry_time_con i) ?_ (hv:=(trivial)) (hs:=(.inl trivial))
 refine aM ?_
 refine rG _ _ (entry_time_con t) ?_
 refine aM ?_
 refine rG _ _ (conf_Right_con conf hb) ?_
 refine aE ?_
 exact Fin.b (.inr rfl) rfl trivial (by rw [Bool.eq_iff_iff];simp [baseRight];intros;omega)

def sameB (i t : Int) (c : List Int) (d : List Nat) (i' t' : Int) (c' : List Int) (d' : List Nat) : Bool:=i == i' && t == t' && decide (c = c') && decide (d = d')

theorem entry_SameBase_con (i t : Int) (c : List Int) (d : List Nat) (i' t' : Int) (c' : List Int) (d' : List Nat) (hc : c.length≤1000000) (hd : ∀ x ∈ d,x < 256) (hd' : ∀ x ∈ d',x < 256) :
  Con Try.prog 21 [.agg (basC i t c d),.agg (basC i' t' c' d')] [] (B (sameB i t c d i' t' c' d')) []:=by
 refine C_entry_SameBase nl nl ?_
 simp only [cz,A_entry_SameBase,argL,objL,List.length_nil,Nat.zero_add,zX]
 refine aR 16 ?_
 refine aB 160 ?_
 refine rG _ _ (slices_Equal_con c c' hc) ?_
 refine aM ?_
 refine rG _ _ (bytes_Equal_con d d' hd hd') ?_
 refine aE ?_
 exact Fin.b (.inr rfl) rfl trivial (by simp [sameB])

def putB (i t : Int) (conf : List Int) (data : List Nat) : List Nat :=
 if baseRight i t conf data then putS [i.toNat,t.toNat,conf.length] ++ putS (conf.map Int.toNat) ++ (num7 data.length ++ data) else []

theorem ofS_may (l : List Int) : ∀ x ∈ ofS l,mayN x = true:=by
 intro x hx
 unfold ofS at hx
 rw [dd_mem,(isort_perm _).mem_iff,List.mem_filter] at hx
 exact hx.2

theorem rightS_facts {l : List Int} (h : rightS l = true) : 0 < l.length∧l.length≤7∧∀ x ∈ l,0≤x∧x < 7:=by
 unfold rightS at h
 simp only [Bool.and_eq_true,decide_eq_true_eq] at h
 refine ⟨h.1,?_,fun x hx=>?_⟩
 ·rw [h.2,← ofN_ofS];exact ofN_len l 7
 ·rw [h.2] at hx
  have:=ofS_may l x hx
  simpa [mayN] using this

theorem baseRight_facts {i t : Int} {conf : List Int} {data : List Nat} (h : baseRight i t conf data = true) : 0≤i∧i≤1099511627776∧0≤t∧t≤1099511627776∧rightS conf = true∧data.length≤32767:=by
 unfold baseRight timeS at h
 simp only [Bool.and_eq_true,decide_eq_true_eq] at h
 exact ⟨h.1.1.1.1,h.1.1.1.2,h.1.1.2.1,h.1.1.2.2,h.1.2,h.2⟩

theorem entry_PutBase_con (i t : Int) (conf : List Int) (data : List Nat) (hb : conf.length≤12) : Con Try.prog 13 [.agg (basC i t conf data)] [] (.c (.sl ((putB i t conf data).map brow))) []:=by
 refine C_entry_PutBase nl nl ?_
 simp only [cz,A_entry_PutBase,argL,objL,List.length_nil,zX]
 refine aR 16 ?_
 refine aB 160 ?_
 refine rC [] (entry_BaseRight_con i t conf data hb) ?_ (hv:=(trivial)) (hs:=(.inl trivial))
 refine aE ?_
 refine aw_cond _ rfl trivial (fun ht=>?_) (fun hf=>?_)
 ·have he : baseRight i t conf data = false:=by simpa using ht
  simp only [zX]
  refine aR 600 ?_
  have hp : putB i t conf data = []:=by simp [putB,he]
  rw [hp]
  exact Fin.data [] (.inr rfl) rfl trivial ⟨rfl,rfl⟩
 have he : baseRight i t conf data = true:=by simpa using hf
 obtain ⟨h1,h2,h3,h4,h5,h6⟩:=baseRight_facts he
 obtain ⟨h7,h8,h9⟩:=rightS_facts h5
 have w1:=u64_nat (n:=i) (by omega) (by omega)
 have w2:=u64_nat (n:=t) (by omega) (by omega)
 have w3 : IntKind.u64.wrap ((conf.map nrow).length : Int) = (conf.length : Int):=by rw [w_u64,List.length_map];omega
 have hp : putB i t conf data = putS [i.toNat,t.toNat,conf.length] ++ putS (conf.map Int.toNat) ++ (num7 data.length ++ data):=by simp [putB,he]
 have g1:=putS_len [i.toNat,t.toNat,conf.length] (by simp;omega)
 have g2:=num7_len data.length (by omega)
 simp only [List.length_cons,List.length_nil] at g1
 have g3 : ∀ k,(putS ((conf.map Int.toNat).take k)).length≤70:=fun k=>by
  have:=putS_len ((conf.map Int.toNat).take k) (fun m hm=>by
   obtain ⟨x,hx,rfl⟩:=List.mem_map.1 (List.mem_of_mem_take hm)
   have:=h9 x hx;omega)
  simp at this;omega
 simp only [zX]
 refine aBs 800 (fun Q hQ=>by simp only [zS,w1,w2,w3,simprocAttr];exact hQ) ?_
 refine RG.callo [] [960] (pack_Put_con [i.toNat,t.toNat,conf.length] (by simp) (by simp;omega)) (.mk (tr_cons (tr_view (by simp) rfl (by simp [isDRows,urow,C.isD])) tr_nil) (trivial) (by simp) (by simp) (views1 rfl trivial) (by simp [lkE_cons,lkE_nil]) (by simp only [List.mem_singleton,forall_eq,Ent.pure];exact drows_brow _) (by simp) (by simp)) ?_
 refine aE ?_
 refine aR 1200 ?_
 refine aw_loop (X:={ k : Nat // k≤conf.length }) (fun k=>mkSt [(1,.c (.bp 16 0)),(3,.c (.osl 1000)),(22,.c (.sl (conf.map nrow))),(23,I conf.length),(24,I k.1)] [(16,.box (basC i t conf data)),(1000,.arr 5 1 ((putS [i.toNat,t.toNat,conf.length] ++ putS ((conf.map Int.toNat).take k.1)).map brow) false)]) (fun k=>conf.length - k.1) ⟨0,by omega⟩ ?_ ?_
 ·refine Le.lit [] [(1000,976)] _ _ ?_ ?_ ?_ ?_
  ·skip
   simp only [zL,simprocAttr]
   simp
  ·skip
   simp only [zL,simprocAttr]
   refine ⟨by simp [putS],drows_brow _⟩
  ·simp [rlook]
  ·simp
 rintro ⟨k,hk⟩
 simp only [zX]
 refine aR 1400 ?_
 refine aw_cond _ rfl trivial (fun ht=>?_) (fun hf=>?_)
 rotate_left
 ·have hk' : k = conf.length:=by simp at hf;omega
  have g4:=g3 k
  have htk : (conf.map Int.toNat).take k = conf.map Int.toNat:=List.take_of_length_le (by simp;omega)
  simp only [zX,↓reduceIte]
  refine aB 1600 ?_
  refine rO [] [] ((pack_Lump_con data (by omega)).rows (drows_brow _)) ?_
  refine RG.go fun Q hQ=>?_
  simp only [zS,simprocAttr]
  refine ⟨⟨brow_len _,by simp only [List.length_map,List.length_append];omega⟩,hQ (RG.nil ?_)⟩
  simp only [zX]
  rw [← List.map_append,htk,← hp]
  exact Fin.data [1664] (.inr rfl) rfl trivial ⟨⟨_,_,rfl⟩,drows_brow _⟩
 have hk' : k < conf.length:=by simp at ht;omega
 have hw1 : IntKind.i64.wrap ((k : Int) + 1) = ((k + 1 : Nat) : Int):=by rw [w64 _ (by omega) (by omega)];rfl
 have hr : (List.map nrow conf)[(k : Int).toNat]?.getD [] = [.v (.int .i64 conf[k])]:=by simp [hk',nrow]
 obtain ⟨h10,h11⟩:=h9 conf[k] (List.getElem_mem hk')
 have hwk:=u64_nat (n:=conf[k]) h10 (by omega)
 have hps : putS ((conf.map Int.toNat).take (k + 1)) = putS ((conf.map Int.toNat).take k) ++ putS [conf[k].toNat]:=by
  rw [putS_take _ _ (by simpa using hk')];simp [putS]
 have g4:=g3 (k + 1)
 rw [hps,List.length_append] at g4
 simp only [zX]
 refine aw_reg 1600 (RG.go fun Q hQ=>?_)
 simp only [zS,hr,simprocAttr]
 refine ⟨by simp;omega,hQ (RG.nil ?_)⟩
 simp only [zX]
 refine aBs 1800 (fun Q hQ=>by simp only [zS,hwk,simprocAttr];exact hQ) ?_
 refine RG.callo [] [1848] ((pack_Put_con [conf[k].toNat] (by simp) (by simp;omega)).rows (drows_brow _)) (.mk (tr_cons (tr_view (by simp) rfl (by simp [isDRows,urow,C.isD])) tr_nil) (trivial) (by simp) (by simp) (views1 rfl trivial) (by simp [lkE_cons,lkE_nil]) (by simp) (by simp) (by simp)) ?_
 refine RG.go fun Q hQ=>?_
 simp only [zS,simprocAttr]
 refine ⟨⟨brow_len _,by simp only [List.length_map,List.length_append];omega⟩,hQ (RG.nil ?_)⟩
 simp only [zX]
 refine aS 2200 (fun Q hQ=>by simp only [zS,hw1,simprocAttr];exact hQ) ?_
 refine ⟨⟨k + 1,hk'⟩,?_,by simp;omega⟩
 refine Le.lit [] [(1000,1880)] _ _ ?_ ?_ ?_ ?_
 ·skip
  simp only [zL,simprocAttr]
 ·skip
  simp only [zL,simprocAttr]
  refine ⟨by rw [hps];simp,drows_brow _⟩
 ·simp [rlook]
 ·simp

def numsR (most : Nat) (l : List Nat) (e : Nat) : Nat→List Nat × List Nat × Nat
 | 0=>([],l,e)
 | k + 1=>((numsR most l e k).1 ++ [(numR most (numsR most l e k).2.1 (numsR most l e k).2.2).1],(numR most (numsR most l e k).2.1 (numsR most l e k).2.2).2.1,(numR most (numsR most l e k).2.1 (numsR most l e k).2.2).2.2)

theorem numsR_facts {most : Nat} {l : List Nat} {e : Nat} (hl : ∀ c ∈ l,c < 256) : ∀ k,(numsR most l e k).1.length = k∧(numsR most l e k).2.1.length≤l.length∧(∀ c ∈ (numsR most l e k).2.1,c < 256)∧∀ n ∈ (numsR most l e k).1,n≤most
 | 0=>⟨rfl,Nat.le_refl _,hl,by simp [numsR]⟩
 | k + 1=>by
  obtain ⟨h1,h2,h3,h4⟩:=numsR_facts (most:=most) (e:=e) hl k
  refine ⟨by simp [numsR,h1],Nat.le_trans numR_len h2,numR_mem h3,fun n hn=>?_⟩
  simp only [numsR,List.mem_append,List.mem_singleton] at hn
  rcases hn with hn | rfl
  ·exact h4 n hn
  ·exact numR_le

structure ReadB where
 i : Nat
 t : Nat
 c : List Int
 d : List Nat
 ok : Bool
 l : List Nat
 e : Nat

def readB (most : Nat) (l : List Nat) (e : Nat) : ReadB :=
 let a:=numR 1099511627776 l e
 let b:=numR 1099511627776 a.2.1 a.2.2
 let c:=numR 7 b.2.1 b.2.2
 let n:=numsR most c.2.1 c.2.2 c.1
 let d:=lumpR 32767 n.2.1 n.2.2
 if d.2.2 = 0∧baseRight a.1 b.1 (n.1.map fun (k : Nat)=>(k : Int)) d.1 = true then ⟨a.1,b.1,n.1.map fun (k : Nat)=>(k : Int),d.1,true,d.2.1,d.2.2⟩ else ⟨0,0,[],[],false,d.2.1,d.2.2⟩

theorem entry_ReadBase_con (l : List Nat) (e : Nat) (hl : ∀ c ∈ l,c < 256) (hb : l.length≤140737488355328) : Con Try.prog 34 [.c (.bp 0 0)] [Rd l e] (.tup [.agg (basC (readB 9223372036854775807 l e).i (readB 9223372036854775807 l e).t (readB 9223372036854775807 l e).c (readB 9223372036854775807 l e).d),B (readB 9223372036854775807 l e).ok]) [Rd (readB 9223372036854775807 l e).l (readB 9223372036854775807 l e).e]:=by
 generalize hr : readB 9223372036854775807 l e = r
 unfold readB at hr
 have m1:=numR_mem (most:=1099511627776) (e:=e) hl
 have n1:=numR_len (most:=1099511627776) (l:=l) (e:=e)
 have w1:=w_nat (n:=(numR 1099511627776 l e).1) (by have:=numR_le (most:=1099511627776) (l:=l) (e:=e);omega)
 have c1:=pack_Reader_Num_con l e 1099511627776 hl hb
 generalize numR 1099511627776 l e = a at hr m1 n1 w1 c1
 obtain ⟨a,l1,e1⟩:=a
 simp only at hr m1 n1 w1 c1
 have m2:=numR_mem (most:=1099511627776) (e:=e1) m1
 have n2:=numR_len (most:=1099511627776) (l:=l1) (e:=e1)
 have w2:=w_nat (n:=(numR 1099511627776 l1 e1).1) (by have:=numR_le (most:=1099511627776) (l:=l1) (e:=e1);omega)
 have c2:=pack_Reader_Num_con l1 e1 1099511627776 m1 (by omega)
 generalize numR 1099511627776 l1 e1 = b at hr m2 n2 w2 c2
 obtain ⟨b,l2,e2⟩:=b
 simp only at hr m2 n2 w2 c2
 have m3:=numR_mem (most:=7) (e:=e2) m2
 have n3:=numR_len (most:=7) (l:=l2) (e:=e2)
 have k3:=numR_le (most:=7) (l:=l2) (e:=e2)
 have c3:=pack_Reader_Num_con l2 e2 7 m2 (by omega)
 generalize numR 7 l2 e2 = c at hr m3 n3 k3 c3
 obtain ⟨c,l3,e3⟩:=c
 simp only at hr m3 n3 k3 c3
 have hns:=numsR_facts (most:=9223372036854775807) (e:=e3) m3
 refine C_entry_ReadBase nl nl ?_
 simp only [cz,A_entry_ReadBase,argL,objL,List.length_nil,List.length_cons,Nat.zero_add,zX]
 refine aR 16 ?_
 refine aR 160 ?_
 refine aF ?_
 refine aB 320 ?_
 refine rO [0] [] (c1) ?_
 refine aM ?_
 refine rO [0] [] (c2) ?_
 refine RG.go fun Q hQ=>?_
 simp only [zS,simprocAttr]
 simp only [w1,w2]
 refine hQ (RG.nil ?_)
 simp only [zX]
 refine aB 600 ?_
 refine rO [0] [] (c3) ?_
 refine aE ?_
 refine aw_loop (X:={ k : Nat // k≤c }) (fun k=>mkSt [(0,.c (.bp 0 0)),(2,.c (.bp 16 0)),(3,B false),(4,.c (.bp 432 0)),(16,.c (.v (.int .u64 c))),(17,.c (.v (.int .u64 k.1)))]
  [(0,Rd (numsR 9223372036854775807 l3 e3 k.1).2.1 (numsR 9223372036854775807 l3 e3 k.1).2.2),(16,.box [.v (.int .i64 0),.v (.int .i64 0),.v (.slice none 0 0),.v (.slice none 0 0)]),(432,.box [.v (.int .i64 a),.v (.int .i64 b),.osl 1000,.v (.slice none 0 0)]),
   (1000,.arr 3 1 (((numsR 9223372036854775807 l3 e3 k.1).1.map fun (n : Nat)=>(n : Int)).map nrow) false)]) (fun k=>c - k.1) ⟨0,by omega⟩ ?_ ?_
 ·refine (Le.ownB 432 2 1000 _ 3 1 rfl rfl rfl (by decide)).trans (Le.lit [] [] _ _ ?_ ?_ ?_ ?_)
  ·skip
   simp only [zL,simprocAttr]
  ·simp only [List.set_cons_succ,List.set_cons_zero]
   simp only [zL,simprocAttr]
   simp [numsR]
  ·simp [rlook]
  ·simp [rlook]
 rintro ⟨k,hk⟩
 obtain ⟨f1,f2,f3,f4⟩:=hns k
 have hk1 : numsR 9223372036854775807 l3 e3 (k + 1) = ((numsR 9223372036854775807 l3 e3 k).1 ++ [(numR 9223372036854775807 (numsR 9223372036854775807 l3 e3 k).2.1 (numsR 9223372036854775807 l3 e3 k).2.2).1],(numR 9223372036854775807 (numsR 9223372036854775807 l3 e3 k).2.1 (numsR 9223372036854775807 l3 e3 k).2.2).2.1,(numR 9223372036854775807 (numsR 9223372036854775807 l3 e3 k).2.1 (numsR 9223372036854775807 l3 e3 k).2.2).2.2):=rfl
 simp only [zX]
 refine aR 700 ?_
 refine aw_cond _ rfl trivial (fun ht=>?_) (fun hf=>?_)
 ·have hk' : k < c:=by simp at ht;omega
  have cn:=pack_Reader_Num_con (numsR 9223372036854775807 l3 e3 k).2.1 (numsR 9223372036854775807 l3 e3 k).2.2 9223372036854775807 f3 (by omega)
  have wn:=w_nat (n:=(numR 9223372036854775807 (numsR 9223372036854775807 l3 e3 k).2.1 (numsR 9223372036854775807 l3 e3 k).2.2).1) (by have:=numR_le (most:=9223372036854775807) (l:=(numsR 9223372036854775807 l3 e3 k).2.1) (e:=(numsR 9223372036854775807 l3 e3 k).2.2);omega)
  have hw1 : IntKind.u64.wrap ((k : Int) + 1) = ((k + 1 : Nat) : Int):=by rw [w_u64];omega
  generalize numsR 9223372036854775807 l3 e3 k = q at *
  obtain ⟨qs,lq,eq⟩:=q
  simp only at f1 f2 f3 f4 hk1 cn wn
  generalize numR 9223372036854775807 lq eq = z at *
  obtain ⟨z,lz,ez⟩:=z
  simp only at hk1 cn wn
  simp only [zX]
  refine aBD 800 ?_
  refine rO [0] [] (cn) ?_
  refine RG.go fun Q hQ=>?_
  simp only [zS,simprocAttr]
  simp only [wn]
  refine ⟨⟨by simp,by simp;omega⟩,hQ (RG.nil ⟨by decide,?_⟩)⟩
  simp only [zX]
  refine aS 1200 (fun Q hQ=>by simp only [zS,hw1,simprocAttr];exact hQ) ?_
  refine ⟨⟨k + 1,hk'⟩,?_,by simp;omega⟩
  refine Le.lit [] [(1000,896)] _ _ ?_ ?_ ?_ ?_
  ·skip
   simp only [zL,simprocAttr]
  ·skip
   simp only [zL,simprocAttr]
   rw [hk1]
   refine ⟨⟨rfl,rfl⟩,by simp [nrow],drows_nrow _⟩
  ·simp [rlook]
  ·simp [rlook]
 have hkc : k = c:=by simp at hf;omega
 subst hkc
 have c4:=pack_Reader_Lump_con (numsR 9223372036854775807 l3 e3 k).2.1 (numsR 9223372036854775807 l3 e3 k).2.2 32767 f3 (by omega) (by omega)
 generalize numsR 9223372036854775807 l3 e3 k = q at *
 obtain ⟨qs,lq,eq⟩:=q
 simp only at f1 f2 f3 f4 hr c4
 generalize lumpR 32767 lq eq = d at *
 obtain ⟨d,l4,e4⟩:=d
 simp only at hr c4
 have hd:=drows_nrow (qs.map fun (n : Nat)=>(n : Int))
 have hlc : (qs.map fun (n : Nat)=>(n : Int)).length≤12:=by simp;omega
 generalize (qs.map fun (n : Nat)=>(n : Int)) = cs at *
 simp only [zX,↓reduceIte]
 refine aB 1400 ?_
 refine rO [0] [] (c4) ?_
 refine aE ?_
 refine aB 1600 ?_
 refine rO [0] [] (pack_rest_Err_con (l4.map brow) e4) ?_
 refine aM ?_
 refine RG.callg _ _ [1000] rfl (fun hg=>⟨_,entry_BaseRight_con a b cs d hlc,tr_cons (tr_opt (by simpa using hg) (by simp only [zT,simprocAttr];exact ⟨_,_,_,⟨rfl,rfl,rfl⟩,hd⟩)) tr_nil,views1 rfl trivial,.inl trivial⟩) ?_
 refine RG.go fun Q hQ=>?_
 simp only [zS,simprocAttr]
 refine ⟨fun h=>by rw [h];rfl,hQ (RG.nil ?_)⟩
 simp only [zX]
 refine aw_cond _ rfl trivial (fun ht=>?_) (fun hf=>?_)
 ·have hn : ¬ (e4 = 0∧baseRight a b cs d = true):=by
   rintro ⟨h1,h2⟩;rw [h2] at ht;simp at ht;omega
  rw [if_neg hn] at hr
  subst hr
  simp only [zX]
  refine aR 1800 ?_
  refine Fin.objs [] [] (.inr rfl) rfl (by exact ⟨trivial,trivial⟩) ?_ ?_ (by simp [objL,rlook]) (by (simp [objL,rlook];done))
  ·simp only [zL,simprocAttr]
   all_goals (simp [basC,TrL,WkC,WkC0])
  ·simp only [zL,↓reduceIte]
 have hn : e4 = 0∧baseRight a b cs d = true:=by simp at hf;exact ⟨by omega,hf.2⟩
 rw [if_pos hn] at hr
 subst hr
 simp only [zX]
 refine aR 1800 ?_
 refine Fin.objs [1000] [] (.inr rfl) rfl (by exact ⟨trivial,trivial⟩) ?_ ?_ (by simp [objL,rlook]) (by (simp [objL,rlook];done))
 ·simp only [zL,simprocAttr]
  all_goals (simp [basC,TrL,WkC,WkC0];exact ⟨⟨_,_,rfl⟩,hd⟩)
 ·simp only [zL,simprocAttr]

theorem rdN_num7 (r : List Nat) : ∀ (n i acc : Nat),n * 128 ^ i < 18446744073709551616→(i = 0∨0 < n)→rdN i acc (num7 n ++ r) = (acc + n * 128 ^ i,i + (num7 n).length,0):=by
 intro n
 induction n using Nat.strongRecOn with
 | ind n ih =>
  intro i acc hb hi
  have h9 : i = 9→n < 2:=by
   intro h
   subst h
   rcases Nat.lt_or_ge n 2 with h | h
   ·exact h
   ·have:=Nat.mul_le_mul_right (128 ^ 9) h
    omega
  by_cases hn : n < 128
  ·have e : num7 n = [n]:=by rw [num7,if_pos hn]
   rw [e,List.singleton_append,rdN,if_neg (by omega),if_neg (by omega),if_neg (by omega),Nat.mod_eq_of_lt hn]
   rfl
  ·have e : num7 n = (n % 128 + 128) :: num7 (n / 128):=by rw [num7,if_neg hn]
   rw [e,List.cons_append,rdN,if_neg (by omega),if_pos (by omega)]
   have hmul : n * 128 ^ i = n % 128 * 128 ^ i + n / 128 * 128 ^ (i + 1):=by
    have h1 : n / 128 * 128 ^ (i + 1) = 128 * (n / 128) * 128 ^ i:=by rw [Nat.pow_succ,Nat.mul_comm (128 ^ i) 128,← Nat.mul_assoc,Nat.mul_comm (n / 128) 128]
    rw [h1,← Nat.add_mul]
    congr 1
    omega
   rw [ih (n / 128) (by omega) (i + 1) _ (by omega) (.inr (by omega))]
   simp only [Nat.add_mod_right,Nat.mod_mod,List.length_cons,Prod.mk.injEq,and_true]
   constructor
   ·omega
   ·omega

theorem numR_num7 {most n : Nat} (r : List Nat) (h : n≤most) (hb : n < 18446744073709551616) : numR most (num7 n ++ r) 0 = (n,r,0):=by
 have hr:=rdN_num7 r n 0 0 (by simpa using hb) (.inl rfl)
 unfold numR
 rw [hr]
 simp [Nat.not_lt.2 h]

theorem lumpR_lump {most : Nat} (d r : List Nat) (h : d.length≤most) (hb : d.length < 18446744073709551616) : lumpR most (num7 d.length ++ d ++ r) 0 = (d,r,0):=by
 unfold lumpR
 rw [List.append_assoc,numR_num7 _ h hb]
 simp

theorem putS_cons (n : Nat) (l : List Nat) : putS (n :: l) = num7 n ++ putS l:=rfl

theorem readE_putE {i t k : Int} {d more : List Nat} (h : entryRight i t k d = true) : readE (putE i t k d ++ more) 0 = ⟨i.toNat,t.toNat,k.toNat,d,true,more,0⟩:=by
 obtain ⟨h1,h2,h3,h4,h5,h6,h7⟩:=entryRight_facts h
 have e : putE i t k d ++ more = num7 i.toNat ++ (num7 t.toNat ++ (num7 k.toNat ++ (num7 d.length ++ d ++ more))):=by
  rw [putE,if_pos h];simp [putS]
 unfold readE
 rw [e]
 simp only [numR_num7 (most:=1099511627776) (n:=i.toNat) _ (by omega) (by omega),numR_num7 (most:=1099511627776) (n:=t.toNat) _ (by omega) (by omega),numR_num7 (most:=2) (n:=k.toNat) _ (by omega) (by omega),
  lumpR_lump (most:=32767) d more (by omega) (by omega)]
 rw [Int.toNat_of_nonneg (by omega),Int.toNat_of_nonneg h3,Int.toNat_of_nonneg h5]
 simp [h]

theorem numsR_put {most : Nat} (r : List Nat) : ∀ (ns : List Nat),(∀ n ∈ ns,n≤most∧n < 18446744073709551616)→∀ k,k≤ns.length→numsR most (putS ns ++ r) 0 k = (ns.take k,putS (ns.drop k) ++ r,0):=by
 intro ns hns k
 induction k with
 | zero=>intro _;simp [numsR]
 | succ k ih =>
  intro hk
  have h:=ih (by omega)
  have hk' : k < ns.length:=by omega
  obtain ⟨h1,h2⟩:=hns ns[k] (List.getElem_mem hk')
  have e : putS (ns.drop k) ++ r = num7 ns[k] ++ (putS (ns.drop (k + 1)) ++ r):=by
   rw [List.drop_eq_getElem_cons hk',putS_cons,List.append_assoc]
  simp only [numsR,h]
  rw [e,numR_num7 _ h1 h2,take_one ns k hk']

theorem readB_putB {most : Nat} {i t : Int} {c : List Int} {d more : List Nat} (hm : 7≤most) (h : baseRight i t c d = true) : readB most (putB i t c d ++ more) 0 = ⟨i.toNat,t.toNat,c,d,true,more,0⟩:=by
 obtain ⟨h1,h2,h3,h4,h5,h6⟩:=baseRight_facts h
 obtain ⟨h7,h8,h9⟩:=rightS_facts h5
 have e : putB i t c d ++ more = num7 i.toNat ++ (num7 t.toNat ++ (num7 c.length ++ (putS (c.map Int.toNat) ++ (num7 d.length ++ d ++ more)))):=by
  rw [putB,if_pos h];simp [putS]
 have hns:=numsR_put (most:=most) (num7 d.length ++ d ++ more) (c.map Int.toNat) (fun n hn=>by
  obtain ⟨x,hx,rfl⟩:=List.mem_map.1 hn
  have:=h9 x hx;omega) c.length (by simp)
 have e1 : (c.map Int.toNat).take c.length = c.map Int.toNat:=List.take_of_length_le (by simp)
 have e2 : (c.map Int.toNat).drop c.length = []:=List.drop_eq_nil_of_le (by simp)
 rw [e1,e2] at hns
 have e3 : (c.map Int.toNat).map (fun (k : Nat)=>(k : Int)) = c:=by
  rw [List.map_map]
  refine (List.map_congr_left fun x hx=>?_).trans (List.map_id c)
  have:=(h9 x hx).1
  simp;omega
 unfold readB
 rw [e]
 simp only [numR_num7 (most:=1099511627776) (n:=i.toNat) _ (by omega) (by omega),numR_num7 (most:=1099511627776) (n:=t.toNat) _ (by omega) (by omega),numR_num7 (most:=7) (n:=c.length) _ (by omega) (by omega)]
 rw [hns]
 simp only [putS,List.flatMap_nil,List.nil_append]
 simp only [lumpR_lump (most:=32767) d more (by omega) (by omega),e3]
 rw [Int.toNat_of_nonneg h1,Int.toNat_of_nonneg h3]
 simp [h]

theorem num7_mem (n : Nat) : ∀ c ∈ num7 n,c < 256:=by
 induction n using Nat.strongRecOn with
 | ind n ih =>
  intro c hc
  rw [num7] at hc
  split at hc
  ·simp at hc;omega
  ·rcases List.mem_cons.1 hc with h | h
   ·omega
   ·exact ih (n / 128) (by omega) c h

theorem putS_mem (l : List Nat) : ∀ c ∈ putS l,c < 256:=by
 intro c hc
 obtain ⟨n,_,h⟩:=List.mem_flatMap.1 hc
 exact num7_mem n c h

theorem putE_mem {i t k : Int} {d : List Nat} (hd : ∀ c ∈ d,c < 256) : ∀ c ∈ putE i t k d,c < 256:=by
 intro c hc
 unfold putE at hc
 split at hc
 ·rcases List.mem_append.1 hc with h | h
  ·exact putS_mem _ c h
  ·rcases List.mem_append.1 h with h | h
   ·exact num7_mem _ c h
   ·exact hd c h
 ·simp at hc

theorem putE_len {i t k : Int} {d : List Nat} : (putE i t k d).length≤40000:=by
 unfold putE
 split
 ·rename_i h
  obtain ⟨h1,h2,h3,h4,h5,h6,h7⟩:=entryRight_facts h
  have g1:=putS_len [i.toNat,t.toNat,k.toNat] (by simp;omega)
  have g2:=num7_len d.length (by omega)
  simp only [List.length_cons,List.length_nil] at g1
  simp only [List.length_append];omega
 ·simp

theorem putB_mem {i t : Int} {c : List Int} {d : List Nat} (hd : ∀ c ∈ d,c < 256) : ∀ x ∈ putB i t c d,x < 256:=by
 intro x hc
 unfold putB at hc
 split at hc
 ·rcases List.mem_append.1 hc with h | h
  ·rcases List.mem_append.1 h with h | h
   ·exact putS_mem _ x h
   ·exact putS_mem _ x h
  ·rcases List.mem_append.1 h with h | h
   ·exact num7_mem _ x h
   ·exact hd x h
 ·simp at hc

theorem putB_len {i t : Int} {c : List Int} {d : List Nat} : (putB i t c d).length≤40000:=by
 unfold putB
 split
 ·rename_i h
  obtain ⟨h1,h2,h3,h4,h5,h6⟩:=baseRight_facts h
  obtain ⟨h7,h8,h9⟩:=rightS_facts h5
  have g1:=putS_len [i.toNat,t.toNat,c.length] (by simp;omega)
  have g2:=num7_len d.length (by omega)
  have g3:=putS_len (c.map Int.toNat) (fun n hn=>by
   obtain ⟨x,hx,rfl⟩:=List.mem_map.1 hn
   have:=h9 x hx;omega)
  simp only [List.length_cons,List.length_nil] at g1
  simp only [List.length_map] at g3
  simp only [List.length_append];omega
 ·simp

structure EN where
 i : Int
 t : Int
 k : Int
 d : List Nat

def erow (e : EN) : List C:=entC e.i e.t e.k e.d

theorem erow_data (es : List EN) : isDRows (es.map erow):=by
 intro r hr c hc
 obtain ⟨e,_,rfl⟩:=List.mem_map.1 hr
 simp [erow,entC] at hc
 rcases hc with rfl | rfl | rfl | rfl <;> rfl

theorem readB_mem {most : Nat} {l : List Nat} {e : Nat} (hl : ∀ c ∈ l,c < 256) : (∀ c ∈ (readB most l e).d,c < 256)∧(∀ c ∈ (readB most l e).l,c < 256)∧(readB most l e).l.length≤l.length∧(readB most l e).c.length≤7:=by
 have m1:=numR_mem (most:=1099511627776) (e:=e) hl
 have n1:=numR_len (most:=1099511627776) (l:=l) (e:=e)
 unfold readB
 generalize numR 1099511627776 l e = a at *
 have m2:=numR_mem (most:=1099511627776) (e:=a.2.2) m1
 have n2:=numR_len (most:=1099511627776) (l:=a.2.1) (e:=a.2.2)
 simp only
 generalize numR 1099511627776 a.2.1 a.2.2 = b at *
 have m3:=numR_mem (most:=7) (e:=b.2.2) m2
 have n3:=numR_len (most:=7) (l:=b.2.1) (e:=b.2.2)
 have k3:=numR_le (most:=7) (l:=b.2.1) (e:=b.2.2)
 generalize numR 7 b.2.1 b.2.2 = c at *
 obtain ⟨f1,f2,f3,f4⟩:=numsR_facts (most:=most) (e:=c.2.2) m3 c.1
 generalize numsR most c.2.1 c.2.2 c.1 = q at *
 have m4:=lumpR_mem (most:=32767) (e:=q.2.2) f3
 have n4:=lumpR_len (most:=32767) (l:=q.2.1) (e:=q.2.2)
 generalize lumpR 32767 q.2.1 q.2.2 = d at *
 split
 ·exact ⟨m4.1,m4.2,by simp only;omega,by simp;omega⟩
 ·exact ⟨by simp,m4.2,by simp only;omega,by simp⟩

end Go.Abs

namespace Go.Abs
open Go Go.Proofs
set_option maxRecDepth 100000
set_option linter.unusedSimpArgs false
set_option maxHeartbeats 8000000

def ugOk (gs : Nat) (want : Bool) (ops : List AO) : Bool:=ops.all fun o=>(match o.gd with | none=>true | some (a,b)=>a == gs && b == want) && (match o.dst with | none=>true | some d=>d != gs)
theorem RunL.unAll {P : Program} {gs : Nat} {want g t : Bool} {F : St→List Rec→Prop} (hw : (g && (t == want)) = true) : ∀ (ops : List AO) {fr : Nat} {st : St} {rs : List Rec},ugOk gs want ops = true→gval (st.sl gs) = some (g,t)→RunL P fr (ops.map fun o=>⟨o.op,o.dst,none,o.after⟩) st rs F→RunL P fr ops st rs F
 | [],_,_,_,_,_,h=>h
 | o :: ops,fr,st,rs,hu,hg,h=>by
  obtain ⟨r,h1,h2⟩:=h
  simp only [ugOk,List.all_cons,Bool.and_eq_true] at hu
  obtain ⟨⟨hu1,hu2⟩,hu3⟩:=hu
  have h1' : En0 P fr o.op st.sl st.σ r:=h1
  refine ⟨r,?_,RunL.unAll hw ops hu3 ?_ h2⟩
  ·unfold En
   cases hgd : o.gd with
   | none=>exact h1'
   | some p =>
    obtain ⟨a,b⟩:=p
    rw [hgd] at hu1
    simp only [Bool.and_eq_true,beq_iff_eq] at hu1
    obtain ⟨rfl,rfl⟩:=hu1
    exact .inr ⟨g,t,hg,hw,h1'⟩
  ·unfold St.put
   cases hd : o.dst with
   | none=>exact hg
   | some d =>
    rw [hd] at hu2
    have hne : d≠gs:=by intro h;simp [h] at hu2
    simp only [upd]
    rw [if_neg (by exact fun h=>hne h.symm)]
    exact hg
theorem RG.unAll {P : Program} {gs : Nat} {want g t : Bool} {fr : Nat} {ops : List AO} {l : SL} {es : EL} {ks : KL} {K : SL→EL→KL→Prop} (hw : (g && (t == want)) = true) (hu : ugOk gs want ops = true) (hg : gval (lk .dead l gs) = some (g,t)) (h : RG P fr (ops.map fun o=>⟨o.op,o.dst,none,o.after⟩) l es ks K) : RG P fr ops l es ks K :=
 fun rs hr=>RunL.unAll hw ops hu hg (h rs hr)
theorem RX.run2 {P : Program} {K : SL→EL→KL→Prop} (post : List AO) : ∀ (ops : List AO) {fr : Nat} {l : SL} {es : EL} {ks : KL},RX fr ops l es ks (fun fr ops l es ks=>RG P fr (ops ++ post) l es ks K)→RG P fr (ops ++ post) l es ks K
 | [],fr,l,es,ks,h=>h
 | o :: ops,fr,l,es,ks,h=>by
  unfold RX at h
  split at h
  ·exact h
  ·rename_i hc
   rw [List.cons_append]
   split at h
   ·rename_i hg
    split at h
    ·rename_i sv ups cond he
     obtain ⟨h1,h2,h3⟩:=h
     refine RG.step ⟨sv,ups,idsOf (ev (lk .dead l)) o.op.rds ++ [fr]⟩ ?_ (RX.run2 post ops h3)
     unfold En
     rw [hg]
     exact En0.of_eff hc he h1 h2
    ·exact h.elim
   ·rename_i gs want hg
    split at h
    ·rename_i g t hv
     split at h
     ·rename_i sv cond he
      obtain ⟨h1,h3⟩:=h
      refine RG.step ⟨.opt (g && (t == want)) sv,[],idsOf (ev (lk .dead l)) o.op.rds ++ [fr]⟩ ?_ (RX.run2 post ops h3)
      unfold En
      rw [hg]
      exact .inl ⟨g,t,sv,hv,rfl,fun hh=>En0.of_eff hc he (h1 hh).1 (h1 hh).2⟩
     ·obtain ⟨h1,h3⟩:=h
      refine RG.step ⟨.opt false (.c (.v (.bool false))),[],[]⟩ ?_ (RX.run2 post ops h3)
      unfold En
      rw [hg]
      exact .inl ⟨g,t,.c (.v (.bool false)),hv,by rw [h1],fun hh=>by rw [h1] at hh;cases hh⟩
    ·exact h.elim
theorem RG.cutGo {P : Program} {fr : Nat} {ops : List AO} {l : SL} {es : EL} {ks : KL} {K : SL→EL→KL→Prop} (k : Nat)
  (h : ∀ Q : Nat→List AO→SL→EL→KL→Prop,(∀ {fr pre l es ks},RG P fr (pre ++ ops.drop k) l es ks K→Q fr pre l es ks)→RX fr (ops.take k) l es ks Q) : RG P fr ops l es ks K:=by
 have:=RX.run2 (P:=P) (K:=K) (ops.drop k) (ops.take k) (h _ fun hh=>hh)
 rwa [List.take_append_drop] at this

def ug (gs : Nat) (want : Bool) (o : AO) : AO:=match o.gd with
 | none=>o
 | some (a,b)=>if a = gs∧b = want then ⟨o.op,o.dst,none,o.after⟩ else o
def ugS (gs : Nat) (ops : List AO) : Bool:=ops.all fun o=>match o.dst with | none=>true | some d=>d != gs
theorem RunL.unSome {P : Program} {gs : Nat} {want g t : Bool} {F : St→List Rec→Prop} (hw : (g && (t == want)) = true) : ∀ (ops : List AO) {fr : Nat} {st : St} {rs : List Rec},ugS gs ops = true→gval (st.sl gs) = some (g,t)→RunL P fr (ops.map (ug gs want)) st rs F→RunL P fr ops st rs F
 | [],_,_,_,_,_,h=>h
 | o :: ops,fr,st,rs,hu,hg,h=>by
  obtain ⟨r,h1,h2⟩:=h
  simp only [ugS,List.all_cons,Bool.and_eq_true] at hu
  obtain ⟨hu2,hu3⟩:=hu
  have hop : (ug gs want o).op = o.op∧(ug gs want o).dst = o.dst:=by
   unfold ug
   split
   ·exact ⟨rfl,rfl⟩
   ·split <;> exact ⟨rfl,rfl⟩
  rw [hop.2] at h2
  refine ⟨r,?_,RunL.unSome hw ops hu3 ?_ h2⟩
  ·unfold ug at h1
   split at h1
   ·exact h1
   ·rename_i a b hgd
    split at h1
    ·rename_i hab
     obtain ⟨rfl,rfl⟩:=hab
     have h1' : En0 P fr o.op st.sl st.σ r:=h1
     unfold En
     rw [hgd]
     exact .inr ⟨g,t,hg,hw,h1'⟩
    ·exact h1
  ·unfold St.put
   cases hd : o.dst with
   | none=>exact hg
   | some d =>
    rw [hd] at hu2
    have hne : d≠gs:=by intro h;simp [h] at hu2
    simp only [upd]
    rw [if_neg (by exact fun h=>hne h.symm)]
    exact hg
theorem RG.unSome {P : Program} {gs : Nat} {want g t : Bool} {fr : Nat} {ops : List AO} {l : SL} {es : EL} {ks : KL} {K : SL→EL→KL→Prop} (hw : (g && (t == want)) = true) (hu : ugS gs ops = true) (hg : gval (lk .dead l gs) = some (g,t)) (h : RG P fr (ops.map (ug gs want)) l es ks K) : RG P fr ops l es ks K :=
 fun rs hr=>RunL.unSome hw ops hu hg (h rs hr)

def w32 (c : BitVec 32) : Int:=(c.toNat : Int)
theorem w32_not (c : BitVec 32) : bitsI .xor .u32 (if IntKind.u32.signed = true then -1 else IntKind.u32.max) (w32 c) = w32 (~~~c):=bits_not c
theorem w32_shr (c : BitVec 32) : (w32 c).fdiv (2 ^ min 1 IntKind.u32.bits) = w32 c / 2∧(w32 c).fdiv (2 ^ min 8 IntKind.u32.bits) = w32 c / 256∧(w32 c).fdiv (2 ^ min 16 IntKind.u32.bits) = w32 c / 65536∧(w32 c).fdiv (2 ^ min 24 IntKind.u32.bits) = w32 c / 16777216:=by
 have h : 0≤w32 c:=by unfold w32;omega
 exact ⟨Int.fdiv_eq_ediv_of_nonneg _ (by decide),Int.fdiv_eq_ediv_of_nonneg _ (by decide),Int.fdiv_eq_ediv_of_nonneg _ (by decide),Int.fdiv_eq_ediv_of_nonneg _ (by decide)⟩
theorem w32_round (c : BitVec 32) : bitsI .xor .u32 ((w32 c).fdiv (2 ^ min 1 IntKind.u32.bits)) (IntKind.u32.wrap (2197175160 * bitsI .and .u32 (w32 c) 1)) = w32 (crcS c):=by rw [(w32_shr c).1];exact crc_round c
theorem w32_byte (c : BitVec 32) {x : Nat} (hx : x < 256) : bitsI .xor .u32 (w32 c) (x : Int) = w32 (c ^^^ BitVec.ofNat 32 x):=byte_xor c hx
theorem w32_zero : (0 : Int) = w32 0#32:=rfl
theorem w32_four (c : BitVec 32) : IntKind.u8.wrap (w32 c) = ((c.toNat % 256 : Nat) : Int)∧IntKind.u8.wrap (w32 c / 256) = ((c.toNat / 256 % 256 : Nat) : Int)∧IntKind.u8.wrap (w32 c / 65536) = ((c.toNat / 65536 % 256 : Nat) : Int)∧IntKind.u8.wrap (w32 c / 16777216) = ((c.toNat / 16777216 % 256 : Nat) : Int):=by
 unfold w32
 generalize c.toNat = n
 simp only [IntKind.wrap_u8]
 omega
theorem crcN_snoc : ∀ (n : Nat) (c : BitVec 32),crcN (n + 1) c = crcS (crcN n c)
 | 0,_=>rfl
 | n + 1,c=>crcN_snoc n (crcS c)
theorem crcB_snoc (c : BitVec 32) (l : List Nat) (x : Nat) : crcB c (l ++ [x]) = crcN 8 (crcB c l ^^^ BitVec.ofNat 32 x):=by simp [crcB,List.foldl_append,crcY]
theorem crc_More_con (c : BitVec 32) (l : List Nat) (h8 : ∀ x ∈ l,x < 256) (hl : l.length≤140737488355328) :
  Con Try.prog 40 [.c (.v (.int .u32 (w32 c))),.c (.sl (l.map brow))] [] (.c (.v (.int .u32 (w32 (crcM c l))))) []:=by
 refine C_crc_More nl nl ?_
 simp only [cz,A_crc_More,argL,objL,List.length_nil,Nat.zero_add,zX]
 refine aR 16 ?_
 refine aS 64 (fun Q hQ=>by simp (disch:=intros;contradiction) only [zS,w32_not,simprocAttr];exact hQ) ?_
 refine aS 144 (fun Q hQ=>by simp (disch:=intros;contradiction) only [zS,zW,simprocAttr];exact hQ) ?_
 refine aw_loopK (X:={ i : Nat // i≤l.length }) [10,11] (fun i=>[(0,.c (.v (.int .u32 (w32 (crcB (~~~c) (l.take i.1)))))),(12,I i.1)]) [] (fun i=>[]) (fun i=>l.length - i.1) (⟨0,by omega⟩) ?_ ?_
 ·skip
  simp only [keepS,keepE,lk_cons,List.cons_append,List.nil_append,simprocAttr]
  refine Le.lit [] [] _ _ ?_ ?_ ?_ ?_
  ·simp only [zL,simprocAttr]
   all_goals (try ((repeat' (rfl))))
  ·simp only [zL,simprocAttr]
  ·simp [rlook]
  ·(simp;done)
 rintro ⟨i,hi⟩
 simp only [keepS,keepE,lk_cons,List.cons_append,List.nil_append,simprocAttr]
 simp only [zX]
 refine aR 224 ?_
 refine aw_cond _ rfl trivial (fun ht=>?_) (fun hf=>?_)
 ·skip
  try simp at ht
  simp only [zX]
  have hi' : i < l.length:=by omega
  obtain ⟨x,hx⟩ : ∃ x,l[i] = x:=⟨_,rfl⟩
  have hx8:=h8 x (by rw [← hx];exact List.getElem_mem hi')
  have hnx : crcB (~~~c) (l.take (i + 1)) = crcN 8 (crcB (~~~c) (l.take i) ^^^ BitVec.ofNat 32 x):=by rw [take_one _ _ hi',crcB_snoc,hx]
  have hnx0:=hnx
  generalize hcb : crcB (~~~c) (l.take i) = cb at hnx
  have hb1:=w32_byte cb hx8
  have hb2 : IntKind.u32.wrap (x : Int) = x:=by rw [wrap_u32'];omega
  refine aS 272 (fun Q hQ=>by simp (disch:=first | (intros;contradiction) | omega | (simp only [zN];omega)) only [zS,zW,hx,brow,simprocAttr];repeat refine ⟨by (omega),?_⟩;exact hQ) ?_
  refine aS 352 (fun Q hQ=>by simp (disch:=intros;contradiction) only [zS,hb1,hb2,simprocAttr];exact hQ) ?_
  refine aR 464 ?_
  refine aw_loopK (X:={ k : Nat // k≤8 }) [10,11,12] (fun k=>[(0,.c (.v (.int .u32 (w32 (crcN k.1 (cb ^^^ BitVec.ofNat 32 x)))))),(20,I k.1)]) [] (fun k=>[]) (fun k=>8 - k.1) (⟨0,by omega⟩) ?_ ?_
  ·skip
   simp only [keepS,keepE,lk_cons,List.cons_append,List.nil_append,simprocAttr]
   refine Le.lit [] [] _ _ ?_ ?_ ?_ ?_
   ·simp only [zL,simprocAttr]
    all_goals (try ((repeat' (rfl))))
   ·simp only [zL,simprocAttr]
   ·simp [rlook]
   ·(simp;done)
  rintro ⟨k,hk⟩
  simp only [keepS,keepE,lk_cons,List.cons_append,List.nil_append,simprocAttr]
  simp only [zX]
  refine aR 512 ?_
  refine aw_cond _ rfl trivial (fun ht=>?_) (fun hf=>?_)
  ·skip
   try simp at ht
   simp only [zX]
   have hk' : k + 1≤8:=by omega
   have hs:=crcN_snoc k (cb ^^^ BitVec.ofNat 32 x)
   generalize hcn : crcN k (cb ^^^ BitVec.ofNat 32 x) = cn at hs
   have hr:=w32_round cn
   refine aR 560 ?_
   refine aS 640 (fun Q hQ=>by simp (disch:=intros;contradiction) only [zS,hr,simprocAttr];exact hQ) ?_
   refine aS 768 (fun Q hQ=>by simp (disch:=first | (intros;contradiction) | omega | (simp only [zN];omega)) only [zS,zW,simprocAttr];exact hQ) ?_
   refine ⟨⟨k + 1,hk'⟩,?_,by first | omega | (simp only;omega)⟩
   refine Le.lit [] [] _ _ ?_ ?_ ?_ ?_
   ·simp only [zL,simprocAttr]
    all_goals (rw [hs];(repeat' ((simp;done))))
   ·simp only [zL,simprocAttr]
   ·simp [rlook]
   ·(simp;done)
  try simp at hf
  simp only [zX,↓reduceIte]
  obtain rfl : k = 8:=by omega
  refine aS 832 (fun Q hQ=>by simp (disch:=first | (intros;contradiction) | omega | (simp only [zN];omega)) only [zS,zW,simprocAttr];exact hQ) ?_
  refine ⟨⟨i + 1,hi'⟩,?_,by first | omega | (simp only;omega)⟩
  refine Le.lit [] [] _ _ ?_ ?_ ?_ ?_
  ·simp only [zL,simprocAttr]
   all_goals (rw [hnx];(repeat' ((simp;done))))
  ·simp only [zL,simprocAttr]
  ·simp [rlook]
  ·(simp;done)
 try simp at hf
 simp only [zX,↓reduceIte]
 obtain rfl : i = l.length:=by omega
 refine aS 896 (fun Q hQ=>by simp (disch:=intros;contradiction) only [zS,zW,w32_not,w32_not,simprocAttr];exact hQ) ?_
 exact Fin.scalar (.inr rfl) rfl trivial rfl trivial

theorem crc_Sum_con (l : List Nat) (h8 : ∀ x ∈ l,x < 256) (hl : l.length≤140737488355328) :
  Con Try.prog 28 [.c (.sl [[.sl (l.map brow)]])] [] (.c (.v (.int .u32 (w32 (crcM 0#32 l))))) []:=by
 have cM:=crc_More_con 0#32 l h8 hl
 rw [← w32_zero] at cM
 refine C_crc_Sum nl nl ?_
 simp only [cz,A_crc_Sum,argL,objL,List.length_nil,zX]
 refine aR 16 ?_
 refine aR 64 ?_
 refine aR 112 ?_
 refine aw_loopK (X:={ i : Nat // i≤1 }) [6,7] (fun i=>[(3,.c (.v (.int .u32 (if i.1 = 0 then 0 else w32 (crcM 0#32 l))))),(8,I i.1)]) [] (fun i=>[]) (fun i=>1 - i.1) (⟨0,by omega⟩) ?_ ?_
 ·skip
  simp only [keepS,keepE,lk_cons,List.cons_append,List.nil_append,simprocAttr]
  refine Le.lit [] [] _ _ ?_ ?_ ?_ ?_
  ·simp only [zL,simprocAttr]
  ·simp only [zL,simprocAttr]
  ·simp [rlook]
  ·(simp;done)
 rintro ⟨i,hi⟩
 simp only [keepS,keepE,lk_cons,List.cons_append,List.nil_append,simprocAttr]
 simp only [zX]
 refine aR 192 ?_
 refine aw_cond _ rfl trivial (fun ht=>?_) (fun hf=>?_)
 ·skip
  try simp at ht
  simp only [zX]
  obtain rfl : i = 0:=by omega
  refine aR 240 ?_
  refine aB 320 ?_
  refine rC [] (cM) ?_
  refine aE ?_
  refine aS 416 (fun Q hQ=>by simp (disch:=first | (intros;contradiction) | omega | (simp only [zN];omega)) only [zS,zW,simprocAttr];exact hQ) ?_
  refine ⟨⟨1,by omega⟩,?_,by first | omega | (simp only;omega)⟩
  refine Le.lit [] [] _ _ ?_ ?_ ?_ ?_
  ·simp only [zL,simprocAttr]
  ·simp only [zL,simprocAttr]
  ·simp [rlook]
  ·(simp;done)
 try simp at hf
 simp only [zX,↓reduceIte]
 obtain rfl : i = 1:=by omega
 refine aR 480 ?_
 exact Fin.scalar (.inr rfl) rfl trivial rfl trivial

theorem crc_Four_con (c : BitVec 32) : Con Try.prog 27 [.c (.v (.int .u32 (w32 c)))] [] (.c (.osl 0)) [.arr 5 1 ((fourB c).map brow) false]:=by
 have hs:=w32_shr c
 have h0:=(w32_four c).1
 have h1:=(w32_four c).2.1
 have h2:=(w32_four c).2.2.1
 have h3:=(w32_four c).2.2.2
 have g1:=hs.2.1
 have g2:=hs.2.2.1
 have g3:=hs.2.2.2
 have hf : (fourB c).map brow = [[.v (.int .u8 ((c.toNat % 256 : Nat) : Int))],[.v (.int .u8 ((c.toNat / 256 % 256 : Nat) : Int))],[.v (.int .u8 ((c.toNat / 65536 % 256 : Nat) : Int))],[.v (.int .u8 ((c.toNat / 16777216 % 256 : Nat) : Int))]]:=rfl
 rw [hf]
 refine C_crc_Four nl nl ?_
 simp only [cz,A_crc_Four,argL,objL,List.length_nil,zX]
 refine aR 16 ?_
 refine aS 64 (fun Q hQ=>by simp (disch:=intros;contradiction) only [zS,g1,g2,g3,h0,h1,h2,h3,simprocAttr];exact hQ) ?_
 refine Fin.objs [] [(0,240)] (.inr rfl) rfl (by exact trivial) ?_ ?_ (by simp [objL,rlook]) (by (simp [objL,rlook];done))
 ·simp only [zL,simprocAttr]
 ·simp only [zL,simprocAttr]
  all_goals (try ((repeat' (((simp [C.isD];done))))))

theorem crc_Seal_con (l : List Nat) (h8 : ∀ x ∈ l,x < 256) (hl : l.length≤1000000000000) :
  Con Try.prog 14 [.c (.sl (l.map brow))] [] (.c (.osl 0)) [.arr 5 1 ((sealB l).map brow) false]:=by
 have cS:=crc_Sum_con l h8 (by omega)
 have cF:=crc_Four_con (crcM 0#32 l)
 refine C_crc_Seal nl nl ?_
 simp only [cz,A_crc_Seal,argL,objL,List.length_nil,zX]
 refine aR 16 ?_
 refine aBs 64 (fun Q hQ=>by simp (disch:=intros;contradiction) only [zS,zW,simprocAttr];repeat refine ⟨by (exact ⟨by (intro q hq;obtain ⟨_,_,rfl⟩:=List.mem_map.1 hq;rfl),by omega⟩),?_⟩;exact hQ) ?_
 refine rO [] [112] (cS) ?_
 refine aM ?_
 refine rO [] [] (cF) ?_
 refine RG.go fun Q hQ=>?_
 simp (disch:=intros;contradiction) only [zS,zW,simprocAttr]
 refine ⟨⟨brow_len _,by rw [fourB_len];omega⟩,hQ (RG.nil ?_)⟩
 simp only [zX]
 refine Fin.objs [] [(0,160)] (.inr rfl) rfl (by exact trivial) ?_ ?_ (by simp [objL,rlook]) (by (simp [objL,rlook];done))
 ·simp only [zL,simprocAttr]
 ·simp only [zL,simprocAttr]
  all_goals (simp only [sealB,List.map_append];(repeat' (first | (first | (simp [brow,C.isD];done) | (rw [← List.map_append];first | exact drows_brow _ | exact drows_nrow _ | exact drows_irow _ | exact drows_wrow _)) | refine ⟨?_,?_⟩)))

theorem crc_Open_con (l : List Nat) (h8 : ∀ x ∈ l,x < 256) (hl : l.length≤1000000000000) :
  Con Try.prog 17 [.c (.sl (l.map brow))] [] (.tup [.c (.sl ((openB l).1.map brow)),B (openB l).2]) []:=by
 by_cases h : l.length < 4
 ·have hd : decide ((l.length : Int) - 4 < 0) = true:=by simp;omega
  have ho : openB l = ([],false):=by unfold openB;rw [if_neg (by omega)]
  rw [ho]
  refine C_crc_Open nl nl ?_
  simp only [cz,A_crc_Open,argL,objL,List.length_nil,zX]
  refine aR 16 ?_
  refine aS 80 (fun Q hQ=>by simp (disch:=first | (intros;contradiction) | omega | (simp only [zN];omega)) only [zS,zW,simprocAttr];exact hQ) ?_
  refine aBDs 176 (fun Q hQ=>by simp (disch:=intros;contradiction) only [zS,zW,hd,simprocAttr];exact hQ) ?_
  refine RG.callg (res:=B true) _ _ [] rfl (fun hg=>by simp at hg) ?_
  refine aM ?_
  refine RG.callg (res:=B true) _ _ [] rfl (fun hg=>by simp at hg) ?_
  refine aM ?_
  refine RG.callg (res:=B true) _ _ [] rfl (fun hg=>by simp at hg) ?_
  refine aED ?_
  refine aT ?_
  refine aR 448 ?_
  refine Fin.data [] (.inr rfl) rfl (by (exact trivial)) ?_
  simp only [zL,simprocAttr]
  all_goals (simp)

 ·have hd : decide ((l.length : Int) - 4 < 0) = false:=by simp;omega
  have hn : ((l.length : Int) - 4).toNat = l.length - 4:=by omega
  have h8a : ∀ x ∈ l.take (l.length - 4),x < 256:=fun x hx=>h8 x (List.mem_of_mem_take hx)
  have h8b : ∀ x ∈ l.drop (l.length - 4),x < 256:=fun x hx=>h8 x (List.mem_of_mem_drop hx)
  have cS:=crc_Sum_con (l.take (l.length - 4)) h8a (by simp;omega)
  have cF:=crc_Four_con (crcM 0#32 (l.take (l.length - 4)))
  have cE:=bytes_Equal_con (l.drop (l.length - 4)) (fourB (crcM 0#32 (l.take (l.length - 4)))) h8b (fourB_by _)
  refine C_crc_Open nl nl ?_
  simp only [cz,A_crc_Open,argL,objL,List.length_nil,zX]
  refine aR 16 ?_
  refine aS 80 (fun Q hQ=>by simp (disch:=first | (intros;contradiction) | omega | (simp only [zN];omega)) only [zS,zW,simprocAttr];exact hQ) ?_
  refine aw_draw 176 (RG.cutGo 3 fun Q hQ=>?_)
  simp only [List.take_succ_cons,List.take_zero]
  simp (disch:=intros;contradiction) only [zS,hd,simprocAttr]
  refine hQ ?_
  simp only [List.nil_append,List.drop_succ_cons,List.drop_zero]
  refine RG.unAll (gs:=10) (want:=false) (g:=true) (t:=false) rfl rfl (by simp (disch:=first | (intros;contradiction) | omega) only [lk_cons,gval,simprocAttr]) ?_
  simp only [List.map_cons,List.map_nil]
  refine RG.go fun Q hQ=>?_
  simp (disch:=intros;contradiction) only [zS,zW,hn,simprocAttr]
  repeat refine ⟨by ((refine ⟨?_,?_⟩ <;> (repeat' (first | omega | (intro q hq;obtain ⟨_,_,rfl⟩:=List.mem_map.1 hq;rfl) | refine ⟨?_,?_⟩)))),?_⟩
  refine hQ ?_
  refine rO [] [320] (cS) ?_
  refine aM ?_
  refine rO [] [] (cF) ?_
  refine aM ?_
  refine rC [352] (cE) ?_
  refine aED ?_
  refine aw_cond _ rfl trivial (fun ht=>?_) (fun hf=>?_)
  ·skip
   try simp at ht
   simp only [zX]
   have ho : openB l = ([],false):=by unfold openB;rw [if_neg (by intro h2;simp [h2.2] at ht)]
   rw [ho]
   refine aR 448 ?_
   refine Fin.data [] (.inr rfl) rfl (by (exact trivial)) ?_
   simp only [zL,simprocAttr]
   all_goals (simp)
  try simp at hf
  simp only [zX]
  have ho : openB l = (l.take (l.length - 4),true):=by unfold openB;rw [if_pos ⟨by omega,by simpa using hf⟩]
  rw [ho]
  refine aw_reg 512 (RG.go fun Q hQ=>?_)
  simp (disch:=intros;contradiction) only [zS,zW,hn,simprocAttr]
  repeat refine ⟨by (first | exact ⟨by (intro q hq;obtain ⟨_,_,rfl⟩:=List.mem_map.1 hq;rfl),by omega⟩ | (refine ⟨?_,?_⟩ <;> (repeat' (first | omega | (intro q hq;obtain ⟨_,_,rfl⟩:=List.mem_map.1 hq;rfl) | refine ⟨?_,?_⟩)))),?_⟩
  refine hQ (RG.nil ?_)
  simp only [zX]
  refine Fin.data [560] (.inr rfl) rfl (by (exact trivial)) ?_
  simp only [zL,simprocAttr]
  all_goals ((repeat' (first | (first | exact drows_brow _ | (simp [C.isD];done)) | refine ⟨?_,?_⟩)))

end Go.Abs

namespace Go.Abs
open Go Go.Proofs
set_option maxRecDepth 100000
set_option linter.unusedSimpArgs false
set_option maxHeartbeats 8000000

structure MG where
 kind : Int
 grp : Int
 frm : Int
 to : Int
 term : Int
 idx : Int
 lterm : Int
 com : Int
 ok : Bool
 es : List EN
 bi : Int
 bt : Int
 bc : List Int
 bd : List Nat
 d : List Nat
 vol : Int
 chk : Int
 mark : Int
 floor : Int
def msgC (m : MG) : List C:=[.v (.int .i64 m.kind),.v (.int .i64 m.grp),.v (.int .i64 m.frm),.v (.int .i64 m.to),.v (.int .i64 m.term),.v (.int .i64 m.idx),.v (.int .i64 m.lterm),.v (.int .i64 m.com),.v (.bool m.ok),.sl (m.es.map erow),.v (.int .i64 m.bi),.v (.int .i64 m.bt),.sl (m.bc.map nrow),.sl (m.bd.map brow),.sl (m.d.map brow),.v (.int .i64 m.vol),.v (.int .i64 m.chk),.v (.int .i64 m.mark),.v (.int .i64 m.floor)]
def zeroM : MG:=⟨0,0,0,0,0,0,0,0,false,[],0,0,[],[],[],0,0,0,0⟩
def baseM (m : MG) : MG:=⟨m.kind,m.grp,m.frm,m.to,0,0,0,0,false,[],0,0,[],[],[],0,0,0,0⟩
def hasL (k : Int) : List Nat :=
 if k = 1∨k = 3 then [116,105] else if k = 2∨k = 4 then [116,111] else if k = 5 then [116,105,99,101] else if k = 6 then [116,111,120] else if k = 7 then [116,98] else if k = 8 then [100] else if k = 9 then [109] else []
def setF (m o : MG) (c : Nat) : MG :=
 if c = 116 then { o with term:=m.term }
 else if c = 105 then { o with idx:=m.idx,lterm:=m.lterm }
 else if c = 120 then { o with idx:=m.idx }
 else if c = 99 then { o with com:=m.com }
 else if c = 111 then { o with ok:=m.ok }
 else if c = 101 then { o with es:=m.es }
 else if c = 98 then { o with bi:=m.bi,bt:=m.bt,bc:=m.bc,bd:=m.bd }
 else if c = 100 then { o with d:=m.d }
 else { o with vol:=m.vol,chk:=m.chk,mark:=m.mark,floor:=m.floor }
def onlyM (m : MG) : MG:=(hasL m.kind).foldl (setF m) (baseM m)
theorem mg_eq {a b : MG} : a = b ↔ a.kind = b.kind∧a.grp = b.grp∧a.frm = b.frm∧a.to = b.to∧a.term = b.term∧a.idx = b.idx∧a.lterm = b.lterm∧a.com = b.com∧a.ok = b.ok∧a.es = b.es∧a.bi = b.bi∧a.bt = b.bt∧a.bc = b.bc∧a.bd = b.bd∧a.d = b.d∧a.vol = b.vol∧a.chk = b.chk∧a.mark = b.mark∧a.floor = b.floor:=by cases a;cases b;simp
theorem en_eq {a b : EN} : a = b ↔ a.i = b.i∧a.t = b.t∧a.k = b.k∧a.d = b.d:=by cases a;cases b;simp
instance : DecidableEq EN:=fun _ _=>decidable_of_iff _ en_eq.symm
instance : DecidableEq MG:=fun _ _=>decidable_of_iff _ mg_eq.symm
def entP (l : List EN) (j : Nat) : Prop:=∀ h : j < l.length,entryRight l[j].i l[j].t l[j].k l[j].d = true∧(0 < j→l[j].i = (l[j - 1]'(by omega)).i + 1)
instance (l : List EN) (j : Nat) : Decidable (entP l j):=by unfold entP;infer_instance
def entsR (l : List EN) : Bool:=decide (∀ j,j < l.length→entP l j)
def rightM (m : MG) : Bool :=
 decide (1≤m.kind) && decide (m.kind≤9) && decide (m = onlyM m) && decide (0≤m.grp) && decide (m.grp≤7) && decide (0≤m.frm) && decide (m.frm≤6) && decide (0≤m.to) && decide (m.to≤6)
 && timeS m.term && timeS m.idx && timeS m.lterm && timeS m.com && timeS m.mark && timeS m.floor && entsR m.es && decide (m.es.length≤4) && (decide (m.kind≠7) || baseRight m.bi m.bt m.bc m.bd) && decide (m.d.length≤65535)
 && decide (0≤m.vol) && decide (m.vol≤7) && decide (0≤m.chk) && decide (m.chk≤255)
def eB (e : EN) : List Nat:=putE e.i e.t e.k e.d
def esB (l : List EN) : List Nat:=l.flatMap eB
theorem esB_succ (l : List EN) (i : Nat) (h : i < l.length) : esB (l.take (i + 1)) = esB (l.take i) ++ eB l[i]:=by
 unfold esB;rw [take_one l i h,List.flatMap_append];simp
def headM (m : MG) : List Nat:=putS [m.kind.toNat,m.grp.toNat,m.frm.toNat,m.to.toNat,m.term.toNat,m.idx.toNat,m.lterm.toNat,m.com.toNat,(if m.ok then 1 else 0),m.es.length]
def midM (m : MG) : List Nat:=if m.kind = 7 then 1 :: putB m.bi m.bt m.bc m.bd else [0]
def tailM (m : MG) : List Nat:=putS [m.vol.toNat,m.chk.toNat,m.mark.toNat,m.floor.toNat]
def bodyM (m : MG) : List Nat:=headM m ++ (esB m.es ++ (midM m ++ (num7 m.d.length ++ m.d ++ tailM m)))
def putM (m : MG) : List Nat × Int:=if rightM m = true then (sealB (bodyM m),0) else ([],23)
def byM (m : MG) : Prop:=(∀ e ∈ m.es,∀ c ∈ e.d,c < 256)∧(∀ c ∈ m.bd,c < 256)∧(∀ c ∈ m.d,c < 256)
structure Mok (m : MG) : Prop where
 es : m.es.length≤1000000
 bc : m.bc.length≤12
 bd : m.bd.length≤1000000
 d : m.d.length≤1000000
 by' : byM m

structure MFacts (m : MG) : Prop where
 k1 : 1≤m.kind
 k9 : m.kind≤9
 only : m = onlyM m
 g0 : 0≤m.grp
 g7 : m.grp≤7
 f0 : 0≤m.frm
 f6 : m.frm≤6
 t0 : 0≤m.to
 t6 : m.to≤6
 term : 0≤m.term∧m.term≤1099511627776
 idx : 0≤m.idx∧m.idx≤1099511627776
 lterm : 0≤m.lterm∧m.lterm≤1099511627776
 com : 0≤m.com∧m.com≤1099511627776
 mark : 0≤m.mark∧m.mark≤1099511627776
 floor : 0≤m.floor∧m.floor≤1099511627776
 es : entsR m.es = true
 es4 : m.es.length≤4
 base : m.kind≠7∨baseRight m.bi m.bt m.bc m.bd = true
 d : m.d.length≤65535
 v0 : 0≤m.vol
 v7 : m.vol≤7
 c0 : 0≤m.chk
 c255 : m.chk≤255
theorem rightM_facts {m : MG} (h : rightM m = true) : MFacts m:=by
 unfold rightM timeS at h
 simp only [Bool.and_eq_true,Bool.or_eq_true,decide_eq_true_eq] at h
 obtain ⟨⟨⟨⟨⟨⟨⟨⟨⟨⟨⟨⟨⟨⟨⟨⟨⟨⟨⟨⟨⟨⟨h1,h2⟩,h3⟩,h4⟩,h5⟩,h6⟩,h7⟩,h8⟩,h9⟩,h10⟩,h11⟩,h12⟩,h13⟩,h14⟩,h15⟩,h16⟩,h17⟩,h18⟩,h19⟩,h20⟩,h21⟩,h22⟩,h23⟩:=h
 exact ⟨h1,h2,h3,h4,h5,h6,h7,h8,h9,h10,h11,h12,h13,h14,h15,h16,h17,h18,h19,h20,h21,h22,h23⟩
theorem rightM_of {m : MG} (h : MFacts m) : rightM m = true:=by
 obtain ⟨h1,h2,h3,h4,h5,h6,h7,h8,h9,h10,h11,h12,h13,h14,h15,h16,h17,h18,h19,h20,h21,h22,h23⟩:=h
 unfold rightM timeS
 simp only [Bool.and_eq_true,Bool.or_eq_true,decide_eq_true_eq]
 exact ⟨⟨⟨⟨⟨⟨⟨⟨⟨⟨⟨⟨⟨⟨⟨⟨⟨⟨⟨⟨⟨⟨h1,h2⟩,h3⟩,h4⟩,h5⟩,h6⟩,h7⟩,h8⟩,h9⟩,h10⟩,h11⟩,h12⟩,h13⟩,h14⟩,h15⟩,h16⟩,h17⟩,h18⟩,h19⟩,h20⟩,h21⟩,h22⟩,h23⟩
theorem entsR_each {l : List EN} (h : entsR l = true) : ∀ e ∈ l,entryRight e.i e.t e.k e.d = true:=by
 intro e he
 obtain ⟨j,hj,rfl⟩:=List.getElem_of_mem he
 unfold entsR at h
 exact ((of_decide_eq_true h) j hj hj).1
theorem only_base {m : MG} (h : m = onlyM m) (hk : m.kind≠7) : m.bi = 0∧m.bt = 0∧m.bc = []∧m.bd = []:=by
 rw [h]
 unfold onlyM hasL
 rw [if_neg hk]
 repeat' split
 all_goals exact ⟨rfl,rfl,rfl,rfl⟩

abbrev NR:=Nat × List Nat × Nat
def enOf (r : ReadE) : EN:=⟨(r.i : Int),(r.t : Int),(r.k : Int),r.d⟩
def jE : Nat→List EN→List Nat→Nat→List EN × List Nat × Nat
 | 0,acc,l,e=>(acc,l,e)
 | k + 1,acc,l,e=>jE k (acc ++ [enOf (readE l e)]) (readE l e).l (readE l e).e
theorem jE_put : ∀ (es acc : List EN) (more : List Nat),(∀ e ∈ es,entryRight e.i e.t e.k e.d = true)→jE es.length acc (esB es ++ more) 0 = (acc ++ es,more,0)
 | [],acc,more,_=>by simp [jE,esB]
 | x :: es,acc,more,h=>by
  have hx:=h x (by simp)
  obtain ⟨h1,h2,h3,h4,h5,h6,h7⟩:=entryRight_facts hx
  have e1 : esB (x :: es) ++ more = putE x.i x.t x.k x.d ++ (esB es ++ more):=by simp [esB,eB]
  rw [e1,List.length_cons]
  unfold jE
  rw [readE_putE hx]
  have e2 : enOf ⟨x.i.toNat,x.t.toNat,x.k.toNat,x.d,true,esB es ++ more,0⟩ = x:=by
   unfold enOf
   simp only
   rw [Int.toNat_of_nonneg (by omega),Int.toNat_of_nonneg h3,Int.toNat_of_nonneg h5]
  rw [e2]
  show jE es.length (acc ++ [x]) (esB es ++ more) 0 = _
  rw [jE_put es (acc ++ [x]) more fun e he=>h e (by simp [he])]
  simp

def jFin (a1 a2 a3 a4 a5 a6 a7 a8 a9 : Nat) (es : List EN) (bi bt : Nat) (bc : List Int) (bd d : List Nat) (v c k : Nat) (q : NR) : MG × Nat:=(⟨a1,a2,a3,a4,a5,a6,a7,a8,decide (a9 = 1),es,bi,bt,bc,bd,d,v,c,k,q.1⟩,q.2.2)
def jm17 (B : Nat→Nat) (a1 a2 a3 a4 a5 a6 a7 a8 a9 : Nat) (es : List EN) (bi bt : Nat) (bc : List Int) (bd d : List Nat) (v c : Nat) (q : NR) : MG × Nat:=jFin a1 a2 a3 a4 a5 a6 a7 a8 a9 es bi bt bc bd d v c q.1 (numR (B 14) q.2.1 q.2.2)
def jm16 (B : Nat→Nat) (a1 a2 a3 a4 a5 a6 a7 a8 a9 : Nat) (es : List EN) (bi bt : Nat) (bc : List Int) (bd d : List Nat) (v : Nat) (q : NR) : MG × Nat:=jm17 B a1 a2 a3 a4 a5 a6 a7 a8 a9 es bi bt bc bd d v q.1 (numR (B 13) q.2.1 q.2.2)
def jm15 (B : Nat→Nat) (a1 a2 a3 a4 a5 a6 a7 a8 a9 : Nat) (es : List EN) (bi bt : Nat) (bc : List Int) (bd d : List Nat) (q : NR) : MG × Nat:=jm16 B a1 a2 a3 a4 a5 a6 a7 a8 a9 es bi bt bc bd d q.1 (numR (B 12) q.2.1 q.2.2)
def jm14 (B : Nat→Nat) (a1 a2 a3 a4 a5 a6 a7 a8 a9 : Nat) (es : List EN) (bi bt : Nat) (bc : List Int) (bd : List Nat) (q : List Nat × List Nat × Nat) : MG × Nat:=jm15 B a1 a2 a3 a4 a5 a6 a7 a8 a9 es bi bt bc bd q.1 (numR (B 11) q.2.1 q.2.2)
def jm13 (B : Nat→Nat) (a1 a2 a3 a4 a5 a6 a7 a8 a9 : Nat) (es : List EN) (r : ReadB) : MG × Nat:=jm14 B a1 a2 a3 a4 a5 a6 a7 a8 a9 es r.i r.t r.c r.d (lumpR 65535 r.l r.e)
def jm12 (B : Nat→Nat) (a1 a2 a3 a4 a5 a6 a7 a8 a9 : Nat) (es : List EN) (q : NR) : MG × Nat:=jm13 B a1 a2 a3 a4 a5 a6 a7 a8 a9 es (if q.1 = 1 then readB (B 15) q.2.1 q.2.2 else ⟨0,0,[],[],false,q.2.1,q.2.2⟩)
def jm11 (B : Nat→Nat) (a1 a2 a3 a4 a5 a6 a7 a8 a9 : Nat) (q : List EN × List Nat × Nat) : MG × Nat:=jm12 B a1 a2 a3 a4 a5 a6 a7 a8 a9 q.1 (numR (B 10) q.2.1 q.2.2)
def jm10 (B : Nat→Nat) (a1 a2 a3 a4 a5 a6 a7 a8 a9 : Nat) (q : NR) : MG × Nat:=jm11 B a1 a2 a3 a4 a5 a6 a7 a8 a9 (jE q.1 [] q.2.1 q.2.2)
def jm9 (B : Nat→Nat) (a1 a2 a3 a4 a5 a6 a7 a8 : Nat) (q : NR) : MG × Nat:=jm10 B a1 a2 a3 a4 a5 a6 a7 a8 q.1 (numR (B 9) q.2.1 q.2.2)
def jm8 (B : Nat→Nat) (a1 a2 a3 a4 a5 a6 a7 : Nat) (q : NR) : MG × Nat:=jm9 B a1 a2 a3 a4 a5 a6 a7 q.1 (numR (B 8) q.2.1 q.2.2)
def jm7 (B : Nat→Nat) (a1 a2 a3 a4 a5 a6 : Nat) (q : NR) : MG × Nat:=jm8 B a1 a2 a3 a4 a5 a6 q.1 (numR (B 7) q.2.1 q.2.2)
def jm6 (B : Nat→Nat) (a1 a2 a3 a4 a5 : Nat) (q : NR) : MG × Nat:=jm7 B a1 a2 a3 a4 a5 q.1 (numR (B 6) q.2.1 q.2.2)
def jm5 (B : Nat→Nat) (a1 a2 a3 a4 : Nat) (q : NR) : MG × Nat:=jm6 B a1 a2 a3 a4 q.1 (numR (B 5) q.2.1 q.2.2)
def jm4 (B : Nat→Nat) (a1 a2 a3 : Nat) (q : NR) : MG × Nat:=jm5 B a1 a2 a3 q.1 (numR (B 4) q.2.1 q.2.2)
def jm3 (B : Nat→Nat) (a1 a2 : Nat) (q : NR) : MG × Nat:=jm4 B a1 a2 q.1 (numR (B 3) q.2.1 q.2.2)
def jm2 (B : Nat→Nat) (a1 : Nat) (q : NR) : MG × Nat:=jm3 B a1 q.1 (numR (B 2) q.2.1 q.2.2)
def jm1 (B : Nat→Nat) (q : NR) : MG × Nat:=jm2 B q.1 (numR (B 1) q.2.1 q.2.2)
def jM (B : Nat→Nat) (l : List Nat) : MG × Nat:=jm1 B (numR (B 0) l 0)
def wideB (B : Nat→Nat) : Prop:=9≤B 0∧7≤B 1∧6≤B 2∧6≤B 3∧1099511627776≤B 4∧1099511627776≤B 5∧1099511627776≤B 6∧1099511627776≤B 7∧1≤B 8∧4≤B 9∧1≤B 10∧7≤B 11∧255≤B 12∧1099511627776≤B 13∧1099511627776≤B 14∧7≤B 15
theorem jM_put {B : Nat→Nat} (hB : wideB B) {m : MG} (h : rightM m = true) : jM B (bodyM m) = (m,0):=by
 have F:=rightM_facts h
 obtain ⟨b0,b1,b2,b3,b4,b5,b6,b7,b8,b9,b10,b11,b12,b13,b14,b15⟩:=hB
 have k1:=F.k1;have k9:=F.k9;have g0:=F.g0;have g7:=F.g7;have f0:=F.f0;have f6:=F.f6;have t0:=F.t0;have t6:=F.t6
 have te:=F.term;have ix:=F.idx;have lt:=F.lterm;have co:=F.com;have ma:=F.mark;have fl:=F.floor;have e4:=F.es4;have dl:=F.d
 have v0:=F.v0;have v7:=F.v7;have c0:=F.c0;have c255:=F.c255
 have hok : (if m.ok then 1 else 0 : Nat)≤1:=by split <;> omega
 have e : bodyM m = num7 m.kind.toNat ++ (num7 m.grp.toNat ++ (num7 m.frm.toNat ++ (num7 m.to.toNat ++ (num7 m.term.toNat ++ (num7 m.idx.toNat ++ (num7 m.lterm.toNat ++ (num7 m.com.toNat ++ (num7 (if m.ok then 1 else 0) ++ (num7 m.es.length ++ (esB m.es ++ (midM m ++ (num7 m.d.length ++ m.d ++ tailM m)))))))))))):=by
  unfold bodyM headM putS
  simp only [List.flatMap_cons,List.flatMap_nil,List.append_assoc,List.append_nil]
 rw [e]
 unfold jM
 rw [numR_num7 _ (by omega) (by omega)];unfold jm1;simp only
 rw [numR_num7 _ (by omega) (by omega)];unfold jm2;simp only
 rw [numR_num7 _ (by omega) (by omega)];unfold jm3;simp only
 rw [numR_num7 _ (by omega) (by omega)];unfold jm4;simp only
 rw [numR_num7 _ (by omega) (by omega)];unfold jm5;simp only
 rw [numR_num7 _ (by omega) (by omega)];unfold jm6;simp only
 rw [numR_num7 _ (by omega) (by omega)];unfold jm7;simp only
 rw [numR_num7 _ (by omega) (by omega)];unfold jm8;simp only
 rw [numR_num7 _ (by omega) (by omega)];unfold jm9;simp only
 rw [numR_num7 _ (by omega) (by omega)];unfold jm10;simp only
 rw [jE_put m.es [] _ (entsR_each F.es)];unfold jm11;simp only
 have hmid : jm12 B m.kind.toNat m.grp.toNat m.frm.toNat m.to.toNat m.term.toNat m.idx.toNat m.lterm.toNat m.com.toNat (if m.ok then 1 else 0) ([] ++ m.es) (numR (B 10) (midM m ++ (num7 m.d.length ++ m.d ++ tailM m)) 0)
   = jm14 B m.kind.toNat m.grp.toNat m.frm.toNat m.to.toNat m.term.toNat m.idx.toNat m.lterm.toNat m.com.toNat (if m.ok then 1 else 0) ([] ++ m.es) m.bi.toNat m.bt.toNat m.bc m.bd (lumpR 65535 (num7 m.d.length ++ m.d ++ tailM m) 0):=by
  by_cases hk : m.kind = 7
  ·have hb : baseRight m.bi m.bt m.bc m.bd = true:=F.base.resolve_left (by simp [hk])
   have e1 : midM m ++ (num7 m.d.length ++ m.d ++ tailM m) = num7 1 ++ (putB m.bi m.bt m.bc m.bd ++ (num7 m.d.length ++ m.d ++ tailM m)):=by
    unfold midM;rw [if_pos hk,show num7 1 = [1] by rw [num7,if_pos (by decide)]];rfl
   rw [e1,numR_num7 _ (by omega) (by omega)]
   unfold jm12 jm13
   simp only [if_true]
   rw [readB_putB b15 hb]
  ·obtain ⟨z1,z2,z3,z4⟩:=only_base F.only hk
   have e1 : midM m ++ (num7 m.d.length ++ m.d ++ tailM m) = num7 0 ++ (num7 m.d.length ++ m.d ++ tailM m):=by
    unfold midM;rw [if_neg hk,show num7 0 = [0] by rw [num7,if_pos (by decide)]]
   rw [e1,numR_num7 _ (by omega) (by omega)]
   unfold jm12 jm13
   simp only [show ((0 : Nat) = 1) = False by simp,if_false]
   rw [z1,z2,z3,z4]
   rfl
 rw [hmid]
 rw [lumpR_lump _ _ (by omega) (by omega)];unfold jm14;simp only
 have e2 : tailM m = num7 m.vol.toNat ++ (num7 m.chk.toNat ++ (num7 m.mark.toNat ++ (num7 m.floor.toNat ++ []))):=by
  unfold tailM putS
  simp only [List.flatMap_cons,List.flatMap_nil,List.append_nil]
 rw [e2]
 rw [numR_num7 _ (by omega) (by omega)];unfold jm15;simp only
 rw [numR_num7 _ (by omega) (by omega)];unfold jm16;simp only
 rw [numR_num7 _ (by omega) (by omega)];unfold jm17;simp only
 rw [numR_num7 _ (by omega) (by omega)];unfold jFin;simp only
 have hb0 : 0≤m.bi∧0≤m.bt:=by
  by_cases hk : m.kind = 7
  ·have hb : baseRight m.bi m.bt m.bc m.bd = true:=F.base.resolve_left (by simp [hk])
   obtain ⟨h1,h2,h3,h4,h5,h6⟩:=baseRight_facts hb
   exact ⟨h1,h3⟩
  ·obtain ⟨z1,z2,z3,z4⟩:=only_base F.only hk
   rw [z1,z2];exact ⟨Int.le_refl _,Int.le_refl _⟩
 rw [Int.toNat_of_nonneg (by omega),Int.toNat_of_nonneg g0,Int.toNat_of_nonneg f0,Int.toNat_of_nonneg t0,Int.toNat_of_nonneg te.1,Int.toNat_of_nonneg ix.1,Int.toNat_of_nonneg lt.1,Int.toNat_of_nonneg co.1,Int.toNat_of_nonneg hb0.1,Int.toNat_of_nonneg hb0.2,Int.toNat_of_nonneg v0,Int.toNat_of_nonneg c0,Int.toNat_of_nonneg ma.1,Int.toNat_of_nonneg fl.1]
 have hokd : decide ((if m.ok = true then 1 else 0 : Nat) = 1) = m.ok:=by cases m.ok <;> rfl
 rw [hokd,List.nil_append]
def readM (B : Nat→Nat) (l : List Nat) : MG × Int :=
 if (openB l).2 = false then (zeroM,24) else if rightM (jM B (openB l).1).1 = true∧sealB (bodyM (jM B (openB l).1).1) = l then ((jM B (openB l).1).1,0) else (zeroM,20)
theorem readM_ok {B : Nat→Nat} (hB : wideB B) {m : MG} (h : rightM m = true) : readM B (sealB (bodyM m)) = (m,0):=by
 unfold readM
 rw [open_seal]
 simp only [jM_put hB h]
 rw [if_neg (by simp),if_pos (by simp [h])]
end Go.Abs

namespace Go.Abs
open Go Go.Proofs
set_option maxRecDepth 100000
set_option linter.unusedSimpArgs false
set_option maxHeartbeats 8000000

def hasB (k : Int) : ByteArray :=
 if k = 1∨k = 3 then ⟨#[116,105]⟩ else if k = 2∨k = 4 then ⟨#[116,111]⟩ else if k = 5 then ⟨#[116,105,99,101]⟩ else if k = 6 then ⟨#[116,111,120]⟩ else if k = 7 then ⟨#[116,98]⟩ else if k = 8 then ⟨#[100]⟩ else if k = 9 then ⟨#[109]⟩ else ⟨#[]⟩
theorem hasB_at (k : Int) (i : Nat) : (hasB k).data[i]? = ((hasL k)[i]?).map UInt8.ofNat:=by
 unfold hasB hasL
 repeat' split
 all_goals (rcases i with _ | _ | _ | _ | i <;> simp)
theorem msg_has_con (k : Int) : Con Try.prog 37 [I k] [] (.c (.v (.string (hasB k)))) []:=by
 refine C_msg_has nl nl ?_
 simp only [cz,A_msg_has,argL,objL,List.length_nil,zX]
 refine aR 16 ?_
 refine aR 64 ?_
 refine aR 112 ?_
 refine aw_cond _ rfl trivial (fun ht=>?_) (fun hf=>?_)
 ·skip
  try simp at ht
  simp only [zX]
  have hh : hasB k = ⟨#[116,105]⟩:=by unfold hasB;simp [ht]
  rw [hh]
  refine aw_cond _ rfl trivial (fun ht=>?_) (fun hf=>by simp [ht] at hf)
  simp only [zX]
  refine aR 176 ?_
  exact Fin.scalar (.inr rfl) rfl trivial rfl trivial
 try simp at hf
 have n1:=hf
 refine aR 224 ?_
 refine aw_cond _ rfl trivial (fun ht=>?_) (fun hf=>?_)
 ·skip
  try simp at ht
  simp only [zX]
  have hh : hasB k = ⟨#[116,105]⟩:=by unfold hasB;simp [ht]
  rw [hh]
  refine aR 288 ?_
  exact Fin.scalar (.inr rfl) rfl trivial rfl trivial
 try simp at hf
 simp only [zX]
 have n3:=hf
 refine aR 336 ?_
 refine aw_cond _ rfl trivial (fun ht=>?_) (fun hf=>?_)
 ·skip
  try simp at ht
  simp only [zX]
  have hh : hasB k = ⟨#[116,111]⟩:=by unfold hasB;simp [ht]
  rw [hh]
  refine aw_cond _ rfl trivial (fun ht=>?_) (fun hf=>by simp [ht] at hf)
  simp only [zX]
  refine aR 400 ?_
  exact Fin.scalar (.inr rfl) rfl trivial rfl trivial
 try simp at hf
 have n2:=hf
 refine aR 448 ?_
 refine aw_cond _ rfl trivial (fun ht=>?_) (fun hf=>?_)
 ·skip
  try simp at ht
  simp only [zX]
  have hh : hasB k = ⟨#[116,111]⟩:=by unfold hasB;simp [ht]
  rw [hh]
  refine aR 512 ?_
  exact Fin.scalar (.inr rfl) rfl trivial rfl trivial
 try simp at hf
 simp only [zX]
 have n4:=hf
 refine aR 560 ?_
 refine aw_cond _ rfl trivial (fun ht=>?_) (fun hf=>?_)
 ·skip
  try simp at ht
  simp only [zX]
  have hh : hasB k = ⟨#[116,105,99,101]⟩:=by unfold hasB;simp [ht]
  rw [hh]
  refine aR 624 ?_
  exact Fin.scalar (.inr rfl) rfl trivial rfl trivial
 try simp at hf
 simp only [zX]
 have n5:=hf
 refine aR 672 ?_
 refine aw_cond _ rfl trivial (fun ht=>?_) (fun hf=>?_)
 ·skip
  try simp at ht
  simp only [zX]
  have hh : hasB k = ⟨#[116,111,120]⟩:=by unfold hasB;simp [ht]
  rw [hh]
  refine aR 736 ?_
  exact Fin.scalar (.inr rfl) rfl trivial rfl trivial
 try simp at hf
 simp only [zX]
 have n6:=hf
 refine aR 784 ?_
 refine aw_cond _ rfl trivial (fun ht=>?_) (fun hf=>?_)
 ·skip
  try simp at ht
  simp only [zX]
  have hh : hasB k = ⟨#[116,98]⟩:=by unfold hasB;simp [ht]
  rw [hh]
  refine aR 848 ?_
  exact Fin.scalar (.inr rfl) rfl trivial rfl trivial
 try simp at hf
 simp only [zX]
 have n7:=hf
 refine aR 896 ?_
 refine aw_cond _ rfl trivial (fun ht=>?_) (fun hf=>?_)
 ·skip
  try simp at ht
  simp only [zX]
  have hh : hasB k = ⟨#[100]⟩:=by unfold hasB;simp [ht]
  rw [hh]
  refine aR 960 ?_
  exact Fin.scalar (.inr rfl) rfl trivial rfl trivial
 try simp at hf
 simp only [zX]
 have n8:=hf
 refine aR 1008 ?_
 refine aw_cond _ rfl trivial (fun ht=>?_) (fun hf=>?_)
 ·skip
  try simp at ht
  simp only [zX]
  have hh : hasB k = ⟨#[109]⟩:=by unfold hasB;simp [ht]
  rw [hh]
  refine aR 1072 ?_
  exact Fin.scalar (.inr rfl) rfl trivial rfl trivial
 try simp at hf
 simp only [zX]
 have n9:=hf
 have hh : hasB k = ⟨#[]⟩:=by unfold hasB;simp [n1,n2,n3,n4,n5,n6,n7,n8,n9]
 rw [hh]
 refine aR 1120 ?_
 exact Fin.scalar (.inr rfl) rfl trivial rfl trivial

theorem msg_within_con (most : Int) (l : List Int) (hl : l.length≤1000000) : Con Try.prog 23 [I most,.c (.sl (l.map nrow))] [] (B (l.all fun n=>decide (0≤n) && decide (n≤most))) []:=by
 refine C_msg_within nl nl ?_
 simp only [cz,A_msg_within,argL,objL,List.length_nil,Nat.zero_add,zX]
 refine aR 16 ?_
 refine aS 64 (fun Q hQ=>by simp (disch:=intros;contradiction) only [zS,zW,simprocAttr];exact hQ) ?_
 refine aw_loopK (X:={ i : Nat // i≤l.length∧(l.take i).all (fun n=>decide (0≤n) && decide (n≤most)) = true }) [0,7,8] (fun i=>[(9,I i.1)]) [] (fun i=>[]) (fun i=>l.length - i.1) (⟨0,by omega,by simp⟩) ?_ ?_
 ·skip
  simp only [keepS,keepE,lk_cons,List.cons_append,List.nil_append,simprocAttr]
  refine Le.lit [] [] _ _ ?_ ?_ ?_ ?_
  ·simp only [zL,simprocAttr]
  ·simp only [zL,simprocAttr]
  ·simp [rlook]
  ·(simp;done)
 rintro ⟨i,hi,ha⟩
 simp only [keepS,keepE,lk_cons,List.cons_append,List.nil_append,simprocAttr]
 simp only [zX]
 refine aR 144 ?_
 refine aw_cond _ rfl trivial (fun ht=>?_) (fun hf=>?_)
 ·skip
  try simp at ht
  simp only [zX]
  have hi' : i < l.length:=by omega
  refine aS 192 (fun Q hQ=>by simp (disch:=first | (intros;contradiction) | omega | (simp only [zN];omega)) only [zS,zW,nrow,simprocAttr];repeat refine ⟨by (omega),?_⟩;exact hQ) ?_
  refine aS 272 (fun Q hQ=>by simp (disch:=intros;contradiction) only [zS,simprocAttr];repeat refine ⟨by ((simp;done)),?_⟩;exact hQ) ?_
  refine aw_cond _ rfl trivial (fun ht=>?_) (fun hf=>?_)
  ·skip
   try simp at ht
   simp only [zX]
   refine aR 416 ?_
   refine Fin.b (.inr rfl) rfl trivial ?_
   symm;rw [List.all_eq_false]
   exact ⟨l[i],List.getElem_mem hi',by simp;omega⟩
  try simp at hf
  simp only [zX]
  have ha' : (l.take (i + 1)).all (fun n=>decide (0≤n) && decide (n≤most)) = true:=by
   rw [take_one _ _ hi',List.all_append,ha];simp;omega
  refine aS 464 (fun Q hQ=>by simp (disch:=first | (intros;contradiction) | omega | (simp only [zN];omega)) only [zS,zW,simprocAttr];exact hQ) ?_
  refine ⟨⟨i + 1,by omega,ha'⟩,?_,by first | omega | (simp only;omega)⟩
  refine Le.lit [] [] _ _ ?_ ?_ ?_ ?_
  ·simp only [zL,simprocAttr]
   all_goals (try ((repeat' (rfl))))
  ·simp only [zL,simprocAttr]
  ·simp [rlook]
  ·(simp;done)
 try simp at hf
 simp only [zX,↓reduceIte]
 obtain rfl : i = l.length:=by omega
 rw [List.take_length] at ha
 rw [ha]
 refine aR 528 ?_
 exact Fin.scalar (.inr rfl) rfl trivial rfl trivial

theorem msg_entries_con (l : List EN) (hl : l.length≤1000000) : Con Try.prog 24 [.c (.sl (l.map erow))] [] (B (entsR l && decide (l.length≤4))) []:=by
 refine C_msg_entries nl nl ?_
 simp only [cz,A_msg_entries,argL,objL,List.length_nil,zX]
 refine aR 16 ?_
 refine aS 64 (fun Q hQ=>by simp (disch:=intros;contradiction) only [zS,zW,simprocAttr];exact hQ) ?_
 refine aw_loopK (X:={ i : Nat // i≤l.length∧∀ j,j < i→entP l j }) [0,5,6] (fun i=>[(7,I i.1)]) [] (fun i=>[]) (fun i=>l.length - i.1) (⟨0,by omega,by omega⟩) ?_ ?_
 ·skip
  simp only [keepS,keepE,lk_cons,List.cons_append,List.nil_append,simprocAttr]
  refine Le.lit [] [] _ _ ?_ ?_ ?_ ?_
  ·simp only [zL,simprocAttr]
  ·simp only [zL,simprocAttr]
  ·simp [rlook]
  ·(simp;done)
 rintro ⟨i,hi,ha⟩
 simp only [keepS,keepE,lk_cons,List.cons_append,List.nil_append,simprocAttr]
 simp only [zX]
 refine aR 144 ?_
 refine aw_cond _ rfl trivial (fun ht=>?_) (fun hf=>?_)
 ·skip
  try simp at ht
  simp only [zX]
  have hi' : i < l.length:=by omega
  have hno : ¬ entP l i→(entsR l && decide (l.length≤4)) = false:=by
   intro h
   have : entsR l = false:=by unfold entsR;exact decide_eq_false fun hh=>h (hh i hi')
   rw [this];rfl
  obtain ⟨w,hw⟩ : ∃ w,l[i] = w:=⟨_,rfl⟩
  have cR:=entry_Right_con w.i w.t w.k w.d
  have hnext : entP l i→∀ j,j < i + 1→entP l j:=fun h j hj=>by
   rcases Nat.lt_succ_iff_lt_or_eq.1 hj with h1 | rfl
   ·exact ha j h1
   ·exact h
  refine aS 192 (fun Q hQ=>by simp (disch:=first | (intros;contradiction) | omega | (simp only [zN];omega)) only [zS,zW,erow,hw,simprocAttr];repeat refine ⟨by (omega),?_⟩;exact hQ) ?_
  by_cases h0 : i = 0
  ·skip
   subst h0
   refine aBD 320 ?_
   refine rC [] (cR) ?_
   refine RG.go fun Q hQ=>?_
   simp (disch:=first | (intros;contradiction) | omega | (simp only [zN];omega)) only [zS,zW,erow,simprocAttr]
   repeat refine ⟨by ((simp;done)),?_⟩
   refine hQ (RG.nil ⟨by decide +kernel,?_⟩)
   simp only [zX]
   refine aw_cond _ rfl trivial (fun ht=>?_) (fun hf=>?_)
   ·skip
    try simp at ht
    simp only [zX]
    rw [hno (fun h=>by have:=(h hi').1;rw [hw] at this;simp [this] at ht)]
    refine aR 656 ?_
    exact Fin.scalar (.inr rfl) rfl trivial rfl trivial
   try simp at hf
   simp only [zX]
   refine aS 704 (fun Q hQ=>by simp (disch:=first | (intros;contradiction) | omega | (simp only [zN];omega)) only [zS,zW,simprocAttr];exact hQ) ?_
   refine ⟨⟨1,by omega,hnext fun _=>⟨by rw [hw];simpa using hf,by omega⟩⟩,?_,by first | omega | (simp only;omega)⟩
   refine Le.lit [] [] _ _ ?_ ?_ ?_ ?_
   ·simp only [zL,simprocAttr]
   ·simp only [zL]
   ·simp [rlook]
   ·(simp;done)
  have hd0 : decide ((i : Int) > 0) = true:=by simp;omega
  have hi1 : i - 1 < l.length:=by omega
  have hii : (i : Int) - 1 = ((i - 1 : Nat) : Int):=by omega
  have hP:=(ha (i - 1) (by omega) hi1).1
  obtain ⟨u,hu⟩ : ∃ u,l[i - 1] = u:=⟨_,rfl⟩
  rw [hu] at hP
  obtain ⟨p1,p2,p3,p4,p5,p6,p7⟩:=entryRight_facts hP
  have hwr : IntKind.i64.wrap (u.i + 1) = u.i + 1:=w64 _ (by omega) (by omega)
  cases hr : entryRight w.i w.t w.k w.d
  ·skip
   rw [hr] at cR
   refine aBD 768 ?_
   refine rC [] (cR) ?_
   refine aEDs (fun Q hQ=>by simp (disch:=first | (intros;contradiction) | omega | (simp only [zN];omega)) only [zS,zW,erow,hd0,hii,hu,hwr,simprocAttr];exact hQ) ?_
   refine aT ?_
   rw [hno (fun h=>by have:=(h hi').1;rw [hw] at this;simp [this] at hr)]
   refine aR 1104 ?_
   exact Fin.scalar (.inr rfl) rfl trivial rfl trivial
  rw [hr] at cR
  refine aBD 1152 ?_
  refine rC [] (cR) ?_
  refine RG.go fun Q hQ=>?_
  simp (disch:=first | (intros;contradiction) | omega | (simp only [zN];omega)) only [zS,zW,erow,hd0,hii,hu,hwr,simprocAttr]
  refine ⟨⟨by omega,by omega⟩,hQ (RG.nil ⟨by decide +kernel,?_⟩)⟩
  simp only [zX]
  refine aw_cond _ rfl trivial (fun ht=>?_) (fun hf=>?_)
  ·skip
   try simp at ht
   simp only [zX]
   rw [hno (fun h=>by have:=(h hi').2 (by omega);rw [hw,hu] at this;exact absurd this (by simpa using ht))]
   refine aR 1488 ?_
   exact Fin.scalar (.inr rfl) rfl trivial rfl trivial
  try simp at hf
  simp only [zX]
  refine aS 1536 (fun Q hQ=>by simp (disch:=first | (intros;contradiction) | omega | (simp only [zN];omega)) only [zS,zW,simprocAttr];exact hQ) ?_
  refine ⟨⟨i + 1,by omega,hnext fun _=>⟨by rw [hw];exact hr,fun _=>by rw [hw,hu];simpa using hf⟩⟩,?_,by first | omega | (simp only;omega)⟩
  refine Le.lit [] [] _ _ ?_ ?_ ?_ ?_
  ·simp only [zL,simprocAttr]
   all_goals (try ((repeat' (rfl))))
  ·simp only [zL]
  ·simp [rlook]
  ·(simp;done)
 try simp at hf
 simp only [zX,↓reduceIte]
 obtain rfl : i = l.length:=by omega
 have hE : entsR l = true:=by unfold entsR;exact decide_eq_true ha
 rw [hE]
 refine aw_reg 1600 (RG.go fun Q hQ=>?_)
 simp (disch:=intros;contradiction) only [zS,zW,simprocAttr]
 refine hQ (RG.nil ?_)
 simp only [zX]
 refine Fin.b (.inr rfl) rfl trivial ?_
 simp;omega

theorem msg_Same_con (a b : MG) (ha : Mok a) (hb : Mok b) : Con Try.prog 7 [.agg (msgC a),.agg (msgC b)] [] (B (decide (a = b))) []:=by
 obtain ⟨k,g,f,o,t,x,lt,c,ok,es,bi,bt,bc,bd,d,v,ch,mk,fl⟩:=a
 obtain ⟨k',g',f',o',t',x',lt',c',ok',es',bi',bt',bc',bd',d',v',ch',mk',fl'⟩:=b
 obtain ⟨a1,a2,a3,a4,a5,a6,a7⟩:=ha
 obtain ⟨b1,b2,b3,b4,b5,b6,b7⟩:=hb
 simp only at a1 a2 a3 a4 a5 a6 a7 b1 b2 b3 b4 b5 b6 b7
 refine C_msg_Same nl nl ?_
 simp only [cz,A_msg_Same,argL,objL,List.length_nil,Nat.zero_add,zX]
 refine aS 16 (fun Q hQ=>by simp (disch:=intros;contradiction) only [zS,msgC,simprocAttr];exact hQ) ?_
 refine aw_reg 96 (RG.go fun Q hQ=>?_)
 simp (disch:=intros;contradiction) only [zS,zW,simprocAttr]
 repeat refine ⟨by ((simp;done)),?_⟩
 refine hQ (RG.nil ?_)
 simp only [zX]
 refine aw_cond _ rfl trivial (fun ht=>?_) (fun hf=>?_)
 ·skip
  try simp at ht
  simp only [zX]
  refine aR 1248 ?_
  refine Fin.b (.inr rfl) rfl trivial ?_
  symm;apply decide_eq_false;intro h;cases h;simp at ht
 try simp at hf
 simp only [zX]
 obtain ⟨⟨⟨⟨⟨⟨⟨⟨⟨rfl,rfl⟩,rfl⟩,rfl⟩,rfl⟩,rfl⟩,rfl⟩,rfl⟩,rfl⟩,hlen⟩:=hf
 have hlen : es.length = es'.length:=by omega
 refine aS 1296 (fun Q hQ=>by simp (disch:=intros;contradiction) only [zS,zW,simprocAttr];exact hQ) ?_
 refine aw_loopK (X:={ i : Nat // i≤es.length∧es.take i = es'.take i }) [2,3,78,79] (fun i=>[(80,I i.1)]) [16,32] (fun i=>[]) (fun i=>es.length - i.1) (⟨0,by omega,by simp⟩) ?_ ?_
 ·skip
  simp only [keepS,keepE,Option.getD_some,lk_cons,lkE_cons,List.cons_append,List.nil_append,simprocAttr]
  refine Le.lit [] [] _ _ ?_ ?_ ?_ ?_
  ·simp only [zL,simprocAttr]
  ·simp only [zL,simprocAttr]
  ·simp [rlook]
  ·(simp;done)
 rintro ⟨i,hi,hs⟩
 simp only [keepS,keepE,Option.getD_some,lk_cons,lkE_cons,List.cons_append,List.nil_append,simprocAttr]
 simp only [zX]
 refine aR 1392 ?_
 refine aw_cond _ rfl trivial (fun ht=>?_) (fun hf=>?_)
 ·skip
  try simp at ht
  simp only [zX]
  have hi' : i < es.length:=by omega
  have hi2 : i < es'.length:=by omega
  obtain ⟨w,hw⟩ : ∃ w,es[i] = w:=⟨_,rfl⟩
  obtain ⟨u,hu⟩ : ∃ u,es'[i] = u:=⟨_,rfl⟩
  have cS:=entry_Same_con w.i w.t w.k w.d u.i u.t u.k u.d (by rw [← hw];exact a5 _ (List.getElem_mem hi')) (by rw [← hu];exact b5 _ (List.getElem_mem hi2))
  refine aS 1440 (fun Q hQ=>by simp (disch:=first | (intros;contradiction) | omega | (simp only [zN];omega)) only [zS,zW,erow,hw,simprocAttr];repeat refine ⟨by (omega),?_⟩;exact hQ) ?_
  refine aBDs 1568 (fun Q hQ=>by simp (disch:=first | (intros;contradiction) | omega | (simp only [zN];omega)) only [zS,zW,erow,hu,simprocAttr];repeat refine ⟨by (omega),?_⟩;exact hQ) ?_
  refine rC [] (cS) ?_
  refine aED ?_
  refine aw_cond _ rfl trivial (fun ht=>?_) (fun hf=>?_)
  ·skip
   try simp at ht
   simp only [zX]
   have hne : es≠es':=fun h=>by
    subst h
    have hwu : w = u:=hw.symm.trans hu
    subst hwu
    simp [sameE] at ht
   refine aR 1728 ?_
   refine Fin.b (.inr rfl) rfl trivial ?_
   symm;apply decide_eq_false;intro h;injection h;contradiction
  try simp at hf
  simp only [zX]
  have hwu : w = u:=by
   rw [en_eq]
   unfold sameE at hf
   simp at hf
   exact ⟨hf.1.1.1,hf.1.1.2,hf.1.2,hf.2⟩
  have hs' : es.take (i + 1) = es'.take (i + 1):=by rw [take_one _ _ hi',take_one _ _ hi2,hs,hw,hu,hwu]
  refine aS 1776 (fun Q hQ=>by simp (disch:=first | (intros;contradiction) | omega | (simp only [zN];omega)) only [zS,zW,simprocAttr];exact hQ) ?_
  refine ⟨⟨i + 1,by omega,hs'⟩,?_,by first | omega | (simp only;omega)⟩
  refine Le.lit [] [] _ _ ?_ ?_ ?_ ?_
  ·simp only [zL,simprocAttr]
   all_goals (try ((repeat' (rfl))))
  ·simp only [zL,simprocAttr]
  ·simp [rlook]
  ·(simp;done)
 try simp at hf
 simp only [zX,↓reduceIte]
 obtain rfl : i = es.length:=by omega
 rw [List.take_length,hlen,List.take_length] at hs
 subst hs
 have cB:=entry_SameBase_con bi bt bc bd bi' bt' bc' bd' (by omega) a6 b6
 have cE:=bytes_Equal_con d d' a7 b7
 refine aB 1840 ?_
 refine rC [] (cB) ?_
 refine aM ?_
 refine rG _ _ (cE) ?_
 refine aE ?_
 refine Fin.b (.inr rfl) rfl trivial ?_
 unfold sameB
 rw [Bool.eq_iff_iff]
 simp [and_assoc]

end Go.Abs

namespace Go.Abs
open Go Go.Proofs
set_option maxRecDepth 100000
set_option linter.unusedSimpArgs false
set_option maxHeartbeats 8000000

theorem hasL_mem {k : Int} {c : Nat} (h : c ∈ hasL k) : c = 116∨c = 105∨c = 120∨c = 99∨c = 111∨c = 101∨c = 98∨c = 100∨c = 109:=by
 unfold hasL at h
 repeat' split at h
 all_goals (simp at h <;> omega)
theorem hasL_len (k : Int) : (hasL k).length≤4:=by
 unfold hasL
 repeat' split
 all_goals simp
def partM (m : MG) (i : Nat) : MG:=((hasL m.kind).take i).foldl (setF m) (baseM m)
theorem partM_succ (m : MG) (i : Nat) (h : i < (hasL m.kind).length) : partM m (i + 1) = setF m (partM m i) (hasL m.kind)[i]:=by
 unfold partM;rw [take_one _ _ h,List.foldl_append];rfl
theorem msg_only_con (m : MG) : Con Try.prog 22 [.agg (msgC m)] [] (.agg (msgC (onlyM m))) []:=by
 have cH:=msg_has_con m.kind
 have hat:=hasB_at m.kind
 have hln:=hasL_len m.kind
 refine C_msg_only nl nl ?_
 simp only [cz,A_msg_only,argL,objL,List.length_nil,zX]
 refine aS 16 (fun Q hQ=>by simp (disch:=intros;contradiction) only [zS,msgC,simprocAttr];exact hQ) ?_
 refine aR 80 ?_
 refine aB 288 ?_
 refine rC [] (cH) ?_
 refine aE ?_
 refine aw_loopK (X:={ p : Nat × MG // p.1≤(hasL m.kind).length∧p.2 = partM m p.1 }) [1,2,3,18] (fun p=>[]) [16,32] (fun p=>[(336,.it (hasB m.kind) p.1.1),(224,.box [.v (.int .i64 p.1.2.kind),.v (.int .i64 p.1.2.grp),.v (.int .i64 p.1.2.frm),.v (.int .i64 p.1.2.to),.v (.int .i64 p.1.2.term),.v (.int .i64 p.1.2.idx),.v (.int .i64 p.1.2.lterm),.v (.int .i64 p.1.2.com),.v (.bool p.1.2.ok),.sl (p.1.2.es.map erow),.v (.int .i64 p.1.2.bi),.v (.int .i64 p.1.2.bt),.sl (p.1.2.bc.map nrow),.sl (p.1.2.bd.map brow),.sl (p.1.2.d.map brow),.v (.int .i64 p.1.2.vol),.v (.int .i64 p.1.2.chk),.v (.int .i64 p.1.2.mark),.v (.int .i64 p.1.2.floor)])]) (fun p=>(hasL m.kind).length - p.1.1) (⟨(0,baseM m),by simp only;omega,rfl⟩) ?_ ?_
 ·skip
  simp only [keepS,keepE,Option.getD_some,lk_cons,lkE_cons,List.cons_append,List.nil_append,simprocAttr]
  refine Le.lit [] [] _ _ ?_ ?_ ?_ ?_
  ·simp only [zL,simprocAttr]
  ·simp only [zL,simprocAttr]
   all_goals (try ((repeat' (first | rfl | refine ⟨?_,?_⟩))))
  ·simp [rlook]
  ·(simp;done)
 rintro ⟨⟨i,q⟩,hi,hq⟩
 simp only [keepS,keepE,Option.getD_some,lk_cons,lkE_cons,List.cons_append,List.nil_append,simprocAttr]
 simp only [zX]
 simp only at hi hq
 have hai:=hat i
 by_cases hil : i < (hasL m.kind).length
 ·skip
  obtain ⟨c,hc⟩ : ∃ c,(hasL m.kind)[i] = c:=⟨_,rfl⟩
  have hcm : c ∈ hasL m.kind:=by rw [← hc];exact List.getElem_mem hil
  have hcs:=hasL_mem hcm
  have hsucc:=partM_succ m i hil
  rw [hc,← hq] at hsucc
  rw [List.getElem?_eq_getElem hil,hc] at hai
  simp only [Option.map_some] at hai
  obtain ⟨k,g,f,o,t,x,lt,c',ok,es,bi,bt,bc,bd,d,v,ch,mk,fl⟩:=q
  simp only
  have hcn : (UInt8.ofNat c).toNat = c:=by
   have hlt : c < 256:=by omega
   simp;omega
  refine aw_reg 384 (RG.go fun Q hQ=>?_)
  simp (disch:=intros;contradiction) only [zS,hai,hcn,simprocAttr]
  refine ⟨⟨by omega,by omega⟩,hQ (RG.nil ?_)⟩
  simp only [zX]
  refine aT ?_
  refine aR 448 ?_
  refine aR 512 ?_
  refine aR 560 ?_
  refine aw_cond _ rfl trivial (fun ht=>?_) (fun hf=>?_)
  ·skip
   try simp at ht
   have hce : c = 116:=by omega
   rw [hce] at hsucc
   refine aR 624 ?_
   refine ⟨⟨(i + 1,⟨k,g,f,o,m.term,x,lt,c',ok,es,bi,bt,bc,bd,d,v,ch,mk,fl⟩),by simp only;omega,hsucc.symm⟩,?_,by first | omega | (simp only;omega)⟩
   refine Le.lit [] [] _ _ ?_ ?_ ?_ ?_
   ·simp only [zL,simprocAttr]
   ·simp only [zL,simprocAttr]
   ·simp [rlook]
   ·(simp;done)
  try simp at hf
  simp only [zX]
  refine aR 720 ?_
  refine aw_cond _ rfl trivial (fun ht=>?_) (fun hf=>?_)
  ·skip
   try simp at ht
   have hce : c = 105:=by omega
   rw [hce] at hsucc
   refine aD 784 ?_
   refine ⟨⟨(i + 1,⟨k,g,f,o,t,m.idx,m.lterm,c',ok,es,bi,bt,bc,bd,d,v,ch,mk,fl⟩),by simp only;omega,hsucc.symm⟩,?_,by first | omega | (simp only;omega)⟩
   refine Le.lit [] [] _ _ ?_ ?_ ?_ ?_
   ·simp only [zL,simprocAttr]
   ·simp only [zL,simprocAttr]
   ·simp [rlook]
   ·(simp;done)
  try simp at hf
  simp only [zX]
  refine aR 944 ?_
  refine aw_cond _ rfl trivial (fun ht=>?_) (fun hf=>?_)
  ·skip
   try simp at ht
   have hce : c = 120:=by omega
   rw [hce] at hsucc
   refine aR 1008 ?_
   refine ⟨⟨(i + 1,⟨k,g,f,o,t,m.idx,lt,c',ok,es,bi,bt,bc,bd,d,v,ch,mk,fl⟩),by simp only;omega,hsucc.symm⟩,?_,by first | omega | (simp only;omega)⟩
   refine Le.lit [] [] _ _ ?_ ?_ ?_ ?_
   ·simp only [zL,simprocAttr]
   ·simp only [zL,simprocAttr]
   ·simp [rlook]
   ·(simp;done)
  try simp at hf
  simp only [zX]
  refine aR 1104 ?_
  refine aw_cond _ rfl trivial (fun ht=>?_) (fun hf=>?_)
  ·skip
   try simp at ht
   have hce : c = 99:=by omega
   rw [hce] at hsucc
   refine aR 1168 ?_
   refine ⟨⟨(i + 1,⟨k,g,f,o,t,x,lt,m.com,ok,es,bi,bt,bc,bd,d,v,ch,mk,fl⟩),by simp only;omega,hsucc.symm⟩,?_,by first | omega | (simp only;omega)⟩
   refine Le.lit [] [] _ _ ?_ ?_ ?_ ?_
   ·simp only [zL,simprocAttr]
   ·simp only [zL,simprocAttr]
   ·simp [rlook]
   ·(simp;done)
  try simp at hf
  simp only [zX]
  refine aR 1264 ?_
  refine aw_cond _ rfl trivial (fun ht=>?_) (fun hf=>?_)
  ·skip
   try simp at ht
   have hce : c = 111:=by omega
   rw [hce] at hsucc
   refine aR 1328 ?_
   refine ⟨⟨(i + 1,⟨k,g,f,o,t,x,lt,c',m.ok,es,bi,bt,bc,bd,d,v,ch,mk,fl⟩),by simp only;omega,hsucc.symm⟩,?_,by first | omega | (simp only;omega)⟩
   refine Le.lit [] [] _ _ ?_ ?_ ?_ ?_
   ·simp only [zL,simprocAttr]
   ·simp only [zL,simprocAttr]
   ·simp [rlook]
   ·(simp;done)
  try simp at hf
  simp only [zX]
  refine aR 1424 ?_
  refine aw_cond _ rfl trivial (fun ht=>?_) (fun hf=>?_)
  ·skip
   try simp at ht
   have hce : c = 101:=by omega
   rw [hce] at hsucc
   refine aR 1488 ?_
   refine ⟨⟨(i + 1,⟨k,g,f,o,t,x,lt,c',ok,m.es,bi,bt,bc,bd,d,v,ch,mk,fl⟩),by simp only;omega,hsucc.symm⟩,?_,by first | omega | (simp only;omega)⟩
   refine Le.lit [] [] _ _ ?_ ?_ ?_ ?_
   ·simp only [zL,simprocAttr]
   ·simp only [zL,simprocAttr]
   ·simp [rlook]
   ·(simp;done)
  try simp at hf
  simp only [zX]
  refine aR 1584 ?_
  refine aw_cond _ rfl trivial (fun ht=>?_) (fun hf=>?_)
  ·skip
   try simp at ht
   have hce : c = 98:=by omega
   rw [hce] at hsucc
   refine aR 1648 ?_
   refine ⟨⟨(i + 1,⟨k,g,f,o,t,x,lt,c',ok,es,m.bi,m.bt,m.bc,m.bd,d,v,ch,mk,fl⟩),by simp only;omega,hsucc.symm⟩,?_,by first | omega | (simp only;omega)⟩
   refine Le.lit [] [] _ _ ?_ ?_ ?_ ?_
   ·simp only [zL,simprocAttr]
   ·simp only [zL,simprocAttr]
   ·simp [rlook]
   ·(simp;done)
  try simp at hf
  simp only [zX]
  refine aR 1744 ?_
  refine aw_cond _ rfl trivial (fun ht=>?_) (fun hf=>?_)
  ·skip
   try simp at ht
   have hce : c = 100:=by omega
   rw [hce] at hsucc
   refine aR 1808 ?_
   refine ⟨⟨(i + 1,⟨k,g,f,o,t,x,lt,c',ok,es,bi,bt,bc,bd,m.d,v,ch,mk,fl⟩),by simp only;omega,hsucc.symm⟩,?_,by first | omega | (simp only;omega)⟩
   refine Le.lit [] [] _ _ ?_ ?_ ?_ ?_
   ·simp only [zL,simprocAttr]
   ·simp only [zL,simprocAttr]
   ·simp [rlook]
   ·(simp;done)
  try simp at hf
  have hce : c = 109:=by omega
  rw [hce] at hsucc
  refine aD 1904 ?_
  refine ⟨⟨(i + 1,⟨k,g,f,o,t,x,lt,c',ok,es,bi,bt,bc,bd,d,m.vol,m.chk,m.mark,m.floor⟩),by simp only;omega,hsucc.symm⟩,?_,by first | omega | (simp only;omega)⟩
  refine Le.lit [] [] _ _ ?_ ?_ ?_ ?_
  ·simp only [zL,simprocAttr]
  ·simp only [zL,simprocAttr]
  ·simp [rlook]
  ·(simp;done)
 have hno : (hasL m.kind)[i]? = none:=List.getElem?_eq_none (by omega)
 rw [hno] at hai
 simp only [Option.map_none] at hai
 refine aS 2192 (fun Q hQ=>by simp (disch:=intros;contradiction) only [zS,hai,simprocAttr];exact hQ) ?_
 refine aw_cond _ rfl trivial (fun ht=>by cases ht) (fun hf=>?_)
 simp only [zX,↓reduceIte]
 have ho : onlyM m = q:=by
  rw [hq];unfold partM;rw [List.take_of_length_le (by omega)];rfl
 rw [ho]
 refine aR 2256 ?_
 refine Fin.data [] (.inr rfl) rfl (by (exact ⟨trivial,trivial⟩)) ?_
 simp only [zL]
 all_goals ((repeat' (first | exact trivial | rfl | refine ⟨?_,?_⟩)))

end Go.Abs

namespace Go.Abs
open Go Go.Proofs
set_option maxRecDepth 100000
set_option linter.unusedSimpArgs false
set_option maxHeartbeats 8000000

theorem onlyM_ok {m : MG} (h : Mok m) : Mok (onlyM m):=by
 obtain ⟨h1,h2,h3,h4,h5,h6,h7⟩:=h
 unfold onlyM hasL
 repeat' split
 all_goals
  constructor
  all_goals
   simp only [List.foldl_cons,List.foldl_nil,setF,baseM,byM]
   simp
   try assumption
 all_goals (try exact ⟨h5,by simp,by simp⟩)
theorem msgC_pure (m : MG) : (SV.agg (msgC m)).pureD:=by
 intro c hc
 simp only [msgC,List.mem_cons,List.not_mem_nil,or_false] at hc
 rcases hc with rfl | rfl | rfl | rfl | rfl | rfl | rfl | rfl | rfl | rfl | rfl | rfl | rfl | rfl | rfl | rfl | rfl | rfl | rfl <;> rfl
theorem not_right {m : MG} (h : MFacts m→False) : rightM m = false:=by
 cases hr : rightM m
 ·rfl
 ·exact (h (rightM_facts hr)).elim
theorem msg_Right_con (m : MG) (hm : Mok m) : Con Try.prog 8 [.agg (msgC m)] [] (B (rightM m)) []:=by
 have cO:=msg_only_con m
 have cS:=msg_Same_con m (onlyM m) hm (onlyM_ok hm)
 refine C_msg_Right nl nl ?_
 simp only [cz,A_msg_Right,argL,objL,List.length_nil,zX]
 refine aS 16 (fun Q hQ=>by simp (disch:=intros;contradiction) only [zS,msgC,simprocAttr];exact hQ) ?_
 by_cases hk : m.kind < 1
 ·skip
  have hd : decide (m.kind < 1) = true:=decide_eq_true hk
  rw [not_right (m:=m) (fun F=>by have:=F.k1;omega)]
  refine aBDs 80 (fun Q hQ=>by simp (disch:=intros;contradiction) only [zS,hd,simprocAttr];exact hQ) ?_
  refine RG.callg (res:=(.agg (msgC m))) _ _ [] rfl (fun hg=>by simp at hg) ?_
  refine aMs (fun Q hQ=>by simp (disch:=intros;contradiction) only [zS,msgC,simprocAttr];exact hQ) ?_
  refine RG.callg (res:=B true) _ _ [] rfl (fun hg=>by simp at hg) ?_
  refine aED ?_
  refine aT ?_
  refine aR 368 ?_
  exact Fin.scalar (.inr rfl) rfl trivial rfl trivial
 have hd : decide (m.kind < 1) = false:=decide_eq_false hk
 by_cases hk9 : 9 < m.kind
 ·skip
  have hd9 : decide (m.kind > 9) = true:=decide_eq_true hk9
  rw [not_right (m:=m) (fun F=>by have:=F.k9;omega)]
  refine aBDs 416 (fun Q hQ=>by simp (disch:=intros;contradiction) only [zS,hd,hd9,simprocAttr];exact hQ) ?_
  refine RG.callg (res:=(.agg (msgC m))) _ _ [] rfl (fun hg=>by simp at hg) ?_
  refine aMs (fun Q hQ=>by simp (disch:=intros;contradiction) only [zS,msgC,simprocAttr];exact hQ) ?_
  refine RG.callg (res:=B true) _ _ [] rfl (fun hg=>by simp at hg) ?_
  refine aED ?_
  refine aT ?_
  refine aR 704 ?_
  exact Fin.scalar (.inr rfl) rfl trivial rfl trivial
 have hd9 : decide (m.kind > 9) = false:=decide_eq_false hk9
 refine aw_draw 752 ?_
 refine RG.cutGo 9 fun Q hQ=>?_
 simp only [List.take_succ_cons,List.take_zero]
 simp (disch:=intros;contradiction) only [zS,hd,hd9,simprocAttr]
 refine hQ ?_
 simp only [List.nil_append,List.drop_succ_cons,List.drop_zero]
 refine RG.unSome (gs:=12) (want:=false) (g:=true) (t:=false) rfl rfl (by simp (disch:=first | (intros;contradiction) | omega) only [lk_cons,gval,simprocAttr]) ?_
 simp only [List.map_cons,List.map_nil,ug,and_self,↓reduceIte]
 refine aM ?_
 refine rC [] (cO) ?_ (hs:=(by exact .inr ⟨msgC_pure _,trivial⟩))
 refine aMs (fun Q hQ=>by simp (disch:=intros;contradiction) only [zS,msgC,simprocAttr];exact hQ) ?_
 refine rC [] (cS) ?_
 refine aED ?_
 refine aw_cond _ rfl trivial (fun ht=>?_) (fun hf=>?_)
 ·skip
  try simp at ht
  simp only [zX]
  rw [not_right (m:=m) (fun F=>ht F.only)]
  refine aR 1040 ?_
  exact Fin.scalar (.inr rfl) rfl trivial rfl trivial
 try simp at hf
 simp only [zX]
 have hon:=hf
 have cG:=msg_within_con 7 [m.grp] (by simp)
 have cF:=msg_within_con 6 [m.frm,m.to] (by simp)
 have cT:=msg_within_con 1099511627776 [m.term,m.idx,m.lterm,m.com,m.mark,m.floor] (by simp)
 simp only [List.map_cons,List.map_nil,nrow] at cG cF cT
 cases hg : ([m.grp].all fun n=>decide (0≤n) && decide (n≤7))
 ·skip
  rw [hg] at cG
  rw [not_right (m:=m) (fun F=>by simp [F.g0,F.g7] at hg)]
  refine aB 1088 ?_
  refine rO [] [1120] (cG) ?_
  refine aM ?_
  refine RG.callg (res:=B true) _ _ [] rfl (fun hg=>by simp at hg) ?_
  refine aM ?_
  refine RG.callg (res:=B true) _ _ [] rfl (fun hg=>by simp at hg) ?_
  refine aE ?_
  refine aT ?_
  refine aR 1632 ?_
  exact Fin.scalar (.inr rfl) rfl trivial rfl trivial
 rw [hg] at cG
 simp at hg
 cases hft : ([m.frm,m.to].all fun n=>decide (0≤n) && decide (n≤6))
 ·skip
  rw [hft] at cF
  rw [not_right (m:=m) (fun F=>by simp [F.f0,F.f6,F.t0,F.t6] at hft)]
  refine aw_reg 1680 ?_
  refine aM ?_
  refine rO [] [1712] (cG) ?_
  refine RG.cutGo 2 fun Q hQ=>?_
  simp only [List.take_succ_cons,List.take_zero]
  simp (disch:=intros;contradiction) only [zS,simprocAttr]
  refine hQ ?_
  simp only [List.nil_append,List.drop_succ_cons,List.drop_zero]
  refine RG.unSome (gs:=25) (want:=false) (g:=true) (t:=false) rfl rfl (by simp (disch:=first | (intros;contradiction) | omega) only [lk_cons,gval,simprocAttr]) ?_
  simp only [List.map_cons,List.map_nil,ug,and_self,and_true,simprocAttr]
  refine aM ?_
  refine rO [] [1840] (cF) ?_
  refine aM ?_
  refine RG.callg (res:=B true) _ _ [] rfl (fun hg=>by simp at hg) ?_
  refine aE ?_
  refine aT ?_
  refine aR 2224 ?_
  exact Fin.scalar (.inr rfl) rfl trivial rfl trivial
 rw [hft] at cF
 simp at hft
 cases hti : ([m.term,m.idx,m.lterm,m.com,m.mark,m.floor].all fun n=>decide (0≤n) && decide (n≤1099511627776))
 ·skip
  rw [hti] at cT
  rw [not_right (m:=m) (fun F=>by simp [F.term,F.idx,F.lterm,F.com,F.mark,F.floor] at hti)]
  refine aw_reg 2272 ?_
  refine aM ?_
  refine rO [] [2304] (cG) ?_
  refine RG.cutGo 2 fun Q hQ=>?_
  simp only [List.take_succ_cons,List.take_zero]
  simp (disch:=intros;contradiction) only [zS,simprocAttr]
  refine hQ ?_
  simp only [List.nil_append,List.drop_succ_cons,List.drop_zero]
  refine RG.unSome (gs:=25) (want:=false) (g:=true) (t:=false) rfl rfl (by simp (disch:=first | (intros;contradiction) | omega) only [lk_cons,gval,simprocAttr]) ?_
  simp only [List.map_cons,List.map_nil,ug,and_self,and_true,simprocAttr]
  refine aM ?_
  refine rO [] [2432] (cF) ?_
  refine RG.cutGo 3 fun Q hQ=>?_
  simp only [List.take_succ_cons,List.take_zero]
  simp (disch:=intros;contradiction) only [zS,simprocAttr]
  refine hQ ?_
  simp only [List.nil_append,List.drop_succ_cons,List.drop_zero]
  refine RG.unSome (gs:=34) (want:=false) (g:=true) (t:=false) rfl rfl (by simp (disch:=first | (intros;contradiction) | omega) only [lk_cons,gval,simprocAttr]) ?_
  simp only [List.map_cons,List.map_nil,ug,and_self,↓reduceIte]
  refine aM ?_
  refine rO [] [2704] (cT) ?_
  refine aE ?_
  refine aT ?_
  refine aR 2816 ?_
  exact Fin.scalar (.inr rfl) rfl trivial rfl trivial
 rw [hti] at cT
 simp at hti
 refine aw_reg 2864 ?_
 refine aM ?_
 refine rO [] [2896] (cG) ?_
 refine RG.cutGo 2 fun Q hQ=>?_
 simp only [List.take_succ_cons,List.take_zero]
 simp (disch:=intros;contradiction) only [zS,simprocAttr]
 refine hQ ?_
 simp only [List.nil_append,List.drop_succ_cons,List.drop_zero]
 refine RG.unSome (gs:=25) (want:=false) (g:=true) (t:=false) rfl rfl (by simp (disch:=first | (intros;contradiction) | omega) only [lk_cons,gval,simprocAttr]) ?_
 simp only [List.map_cons,List.map_nil,ug,and_self,and_true,simprocAttr]
 refine aM ?_
 refine rO [] [3024] (cF) ?_
 refine RG.cutGo 3 fun Q hQ=>?_
 simp only [List.take_succ_cons,List.take_zero]
 simp (disch:=intros;contradiction) only [zS,simprocAttr]
 refine hQ ?_
 simp only [List.nil_append,List.drop_succ_cons,List.drop_zero]
 refine RG.unSome (gs:=34) (want:=false) (g:=true) (t:=false) rfl rfl (by simp (disch:=first | (intros;contradiction) | omega) only [lk_cons,gval,simprocAttr]) ?_
 simp only [List.map_cons,List.map_nil,ug,and_self,↓reduceIte]
 refine aM ?_
 refine rO [] [3296] (cT) ?_
 refine aE ?_
 refine aF ?_
 have cN:=msg_entries_con m.es hm.es
 have cB:=entry_BaseRight_con m.bi m.bt m.bc m.bd hm.bc
 cases he : (entsR m.es && decide (m.es.length≤4))
 ·skip
  rw [he] at cN
  rw [not_right (m:=m) (fun F=>by simp [F.es,F.es4] at he)]
  refine aB 3408 ?_
  refine rC [] (cN) ?_
  refine aM ?_
  refine RG.callg (res:=B true) _ _ [] rfl (fun hg=>by simp at hg) ?_
  refine aEs (fun Q hQ=>by simp (disch:=intros;contradiction) only [zS,zW,simprocAttr];exact hQ) ?_
  refine aT ?_
  refine aR 3792 ?_
  exact Fin.scalar (.inr rfl) rfl trivial rfl trivial
 rw [he] at cN
 simp at he
 have hw1 : ((m.kind≠7∨baseRight m.bi m.bt m.bc m.bd = true)∧m.d.length≤65535→False)→MFacts m→False:=fun h F=>h ⟨F.base,F.d⟩
 refine aB 3840 ?_
 refine rC [] (cN) ?_
 refine aM ?_
 refine rG _ _ (cB) ?_
 refine RG.go fun Q hQ=>?_
 simp (disch:=intros;contradiction) only [zS,zW,simprocAttr]
 refine ⟨fun h=>by rw [h];rfl,hQ (RG.nil ?_)⟩
 simp only [zX]
 refine aw_cond _ rfl trivial (fun ht=>?_) (fun hf=>?_)
 ·skip
  try simp at ht
  simp only [zX]
  rw [not_right (m:=m) (hw1 fun h=>by
   rcases ht with ⟨h1,h2⟩ | h1
   ·rcases h.1 with h3 | h3
    ·exact h3 h1
    ·rw [h2] at h3;cases h3
   ·have:=h.2;omega)]
  refine aR 4224 ?_
  exact Fin.scalar (.inr rfl) rfl trivial rfl trivial
 try simp at hf
 simp only [zX]
 have hbd : (m.kind≠7∨baseRight m.bi m.bt m.bc m.bd = true)∧m.d.length≤65535:=by
  refine ⟨?_,by have:=hf.2;omega⟩
  rcases Decidable.em (m.kind = 7) with h | h
  ·exact .inr (hf.1 h)
  ·exact .inl h
 have cV:=msg_within_con 7 [m.vol] (by simp)
 have cC:=msg_within_con 255 [m.chk] (by simp)
 simp only [List.map_cons,List.map_nil,nrow] at cV cC
 cases hv : ([m.vol].all fun n=>decide (0≤n) && decide (n≤7))
 ·skip
  rw [hv] at cV
  rw [not_right (m:=m) (fun F=>by simp [F.v0,F.v7] at hv)]
  refine aB 4272 ?_
  refine rO [] [4304] (cV) ?_
  refine aM ?_
  refine RG.callg (res:=B true) _ _ [] rfl (fun hg=>by simp at hg) ?_
  refine aE ?_
  exact Fin.scalar (.inr rfl) rfl trivial rfl trivial
 rw [hv] at cV
 simp at hv
 refine aw_reg 4480 ?_
 refine aM ?_
 refine rO [] [4512] (cV) ?_
 refine RG.cutGo 1 fun Q hQ=>?_
 simp only [List.take_succ_cons,List.take_zero]
 simp (disch:=intros;contradiction) only [zS,simprocAttr]
 refine hQ ?_
 simp only [List.nil_append,List.drop_succ_cons,List.drop_zero]
 refine RG.unSome (gs:=77) (want:=true) (g:=true) (t:=true) rfl rfl (by simp (disch:=first | (intros;contradiction) | omega) only [lk_cons,gval,simprocAttr]) ?_
 simp only [List.map_cons,List.map_nil,ug,and_self,↓reduceIte]
 refine aM ?_
 refine rO [] [4592] (cC) ?_
 refine aE ?_
 refine Fin.b (.inr rfl) rfl trivial ?_
 rw [Bool.eq_iff_iff]
 constructor
 ·intro h
  simp at h
  simp at hd hd9
  exact (rightM_of ⟨by omega,by omega,hon,by omega,by omega,by omega,by omega,by omega,by omega,by omega,by omega,by omega,by omega,by omega,by omega,he.1,he.2,hbd.1,hbd.2,by omega,by omega,by omega,by omega⟩)
 ·intro h
  have F:=rightM_facts h
  simp [F.c0,F.c255]

end Go.Abs

namespace Go.Abs
open Go Go.Proofs
set_option maxRecDepth 100000
set_option linter.unusedSimpArgs false
set_option maxHeartbeats 8000000

theorem awp_pre {P : Program} {n : Nat} {ops : List AO} {d : Bool} {Q : Exit→St→Prop} {l : SL} {es : EL} (l' : SL) (es' : EL) (h : Le n (mkSt l es) (mkSt l' es')) (h2 : awp P n (.region ops d) Q (mkSt l' es')) : awp P n (.region ops d) Q (mkSt l es):=by
 obtain ⟨s0,h3,h4⟩:=h2
 exact ⟨s0,h.trans h3,h4⟩

theorem msg_flag_con (b : Bool) : Con Try.prog 11 [B b] [] (.c (.v (.int .u64 ((if b then 1 else 0 : Nat) : Int)))) []:=by
 refine C_msg_flag nl nl ?_
 simp only [cz,A_msg_flag,argL,objL,List.length_nil,zX]
 refine aR 16 ?_
 refine aR 64 ?_
 refine aw_cond _ rfl trivial (fun ht=>?_) (fun hf=>?_)
 ·skip
  try simp at ht
  simp only [zX]
  rw [ht]
  refine aw_reg 112 (RG.go fun Q hQ=>?_)
  simp (disch:=intros;contradiction) only [zS,simprocAttr]
  refine hQ (RG.nil ?_)
  simp only [zX,↓reduceIte]
  exact Fin.scalar (.inr rfl) rfl trivial rfl trivial
 try simp at hf
 simp only [zX]
 rw [hf]
 refine aw_reg 160 (RG.go fun Q hQ=>?_)
 simp (disch:=intros;contradiction) only [zS,simprocAttr]
 refine hQ (RG.nil ?_)
 simp only [zX,simprocAttr]
 exact Fin.scalar (.inr rfl) rfl trivial rfl trivial

theorem msg_Put_1_con (n : Int) (h0 : 0≤n) (h1 : n≤1099511627776) : Con Try.prog 9 [I n] [] (.c (.v (.int .u64 n))) []:=by
 have hw : IntKind.u64.wrap n = n:=by rw [w_u64];omega
 refine C_msg_Put_1 nl nl ?_
 simp only [cz,A_msg_Put_1,argL,objL,List.length_nil,zX]
 refine aR 16 ?_
 refine aS 64 (fun Q hQ=>by simp (disch:=intros;contradiction) only [zS,hw,simprocAttr];exact hQ) ?_
 exact Fin.scalar (.inr rfl) rfl trivial rfl trivial

theorem headM_len {m : MG} (F : MFacts m) : (headM m).length≤100:=by
 unfold headM
 have:=putS_len [m.kind.toNat,m.grp.toNat,m.frm.toNat,m.to.toNat,m.term.toNat,m.idx.toNat,m.lterm.toNat,m.com.toNat,(if m.ok then 1 else 0),m.es.length] (by
  have k9:=F.k9;have g7:=F.g7;have f6:=F.f6;have t6:=F.t6;have te:=F.term;have ix:=F.idx;have lt:=F.lterm;have co:=F.com;have e4:=F.es4
  intro n hn
  simp only [List.mem_cons,List.not_mem_nil,or_false] at hn
  have hok : (if m.ok then 1 else 0 : Nat)≤1:=by split <;> omega
  omega)
 simpa using this
theorem tailM_len {m : MG} (F : MFacts m) : (tailM m).length≤40:=by
 unfold tailM
 have:=putS_len [m.vol.toNat,m.chk.toNat,m.mark.toNat,m.floor.toNat] (by
  have v7:=F.v7;have c5:=F.c255;have ma:=F.mark;have fl:=F.floor
  intro n hn
  simp only [List.mem_cons,List.not_mem_nil,or_false] at hn
  omega)
 simpa using this
theorem esB_len (l : List EN) : (esB l).length≤l.length * 40000:=by
 induction l with
 | nil=>simp [esB]
 | cons e l ih =>
  have h1 : esB (e :: l) = eB e ++ esB l:=by simp [esB]
  have h2 : (eB e).length≤40000:=putE_len
  rw [h1,List.length_append,List.length_cons];omega
theorem midM_len (m : MG) : (midM m).length≤40001:=by
 unfold midM
 have:=putB_len (i:=m.bi) (t:=m.bt) (c:=m.bc) (d:=m.bd)
 split
 ·simp;omega
 ·simp
theorem headM_by (m : MG) : ∀ c ∈ headM m,c < 256:=putS_mem _
theorem tailM_by (m : MG) : ∀ c ∈ tailM m,c < 256:=putS_mem _
theorem esB_by {l : List EN} (h : ∀ e ∈ l,∀ c ∈ e.d,c < 256) : ∀ c ∈ esB l,c < 256:=by
 intro c hc
 obtain ⟨e,he,hc⟩:=List.mem_flatMap.1 hc
 exact putE_mem (h e he) c hc
theorem midM_by {m : MG} (h : byM m) : ∀ c ∈ midM m,c < 256:=by
 intro c hc
 unfold midM at hc
 split at hc
 ·rcases List.mem_cons.1 hc with rfl | hc
  ·decide
  ·exact putB_mem h.2.1 c hc
 ·simp at hc;omega
theorem bodyM_by {m : MG} (h : byM m) : ∀ c ∈ bodyM m,c < 256:=by
 intro c hc
 unfold bodyM at hc
 simp only [List.mem_append] at hc
 rcases hc with hc | hc | hc | (hc | hc) | hc
 ·exact headM_by m c hc
 ·exact esB_by h.1 c hc
 ·exact midM_by h c hc
 ·exact num7_mem _ c hc
 ·exact h.2.2 c hc
 ·exact tailM_by m c hc
theorem bodyM_len {m : MG} (F : MFacts m) : (bodyM m).length≤1000000:=by
 have h1:=headM_len F
 have h2:=tailM_len F
 have h3:=esB_len m.es
 have h4:=midM_len m
 have h5:=F.es4
 have h6:=F.d
 have h7:=num7_len m.d.length (by omega)
 unfold bodyM
 simp only [List.length_append];omega

theorem msg_Put_con (m : MG) (hm : Mok m) : Con Try.prog 5 [.agg (msgC m)] [] (.tup [.c (.sl ((putM m).1.map brow)),I (putM m).2]) []:=by
 have cR:=msg_Right_con m hm
 refine C_msg_Put nl nl ?_
 simp only [cz,A_msg_Put,argL,objL,List.length_nil,zX]
 refine aS 16 (fun Q hQ=>by simp (disch:=intros;contradiction) only [zS,msgC,simprocAttr];exact hQ) ?_
 refine aB 96 ?_
 refine rC [] (cR) ?_
 refine aE ?_
 refine aw_cond _ rfl trivial (fun ht=>?_) (fun hf=>?_)
 ·skip
  try simp at ht
  simp only [zX]
  rw [show putM m = ([],23) by unfold putM;rw [if_neg (by simp [ht])]]
  refine aR 176 ?_
  refine Fin.data [] (.inr rfl) rfl (by (exact trivial)) ?_
  simp only [zL,simprocAttr]
  all_goals (simp)
 try simp at hf
 simp only [zX]
 have hpr : rightM m = true:=by simpa using hf
 have F:=rightM_facts hpr
 have k1:=F.k1;have k9:=F.k9;have g0:=F.g0;have g7:=F.g7;have f0:=F.f0;have f6:=F.f6;have t0:=F.t0;have t6:=F.t6
 have te:=F.term;have ix:=F.idx;have lt:=F.lterm;have co:=F.com;have ma:=F.mark;have fl:=F.floor;have e4:=F.es4;have dl:=F.d
 have v0:=F.v0;have v7:=F.v7;have c0:=F.c0;have c255:=F.c255
 have hH:=headM_len F
 rw [show putM m = (sealB (bodyM m),0) by unfold putM;rw [if_pos hpr]]
 have hok : (if m.ok then 1 else 0 : Nat)≤1:=by split <;> omega
 have cP:=pack_Put_con [m.kind.toNat,m.grp.toNat,m.frm.toNat,m.to.toNat,m.term.toNat,m.idx.toNat,m.lterm.toNat,m.com.toNat,(if m.ok then 1 else 0),m.es.length] (by simp) (by
  intro n hn
  simp only [List.mem_cons,List.not_mem_nil,or_false] at hn
  omega)
 rw [show putS [m.kind.toNat,m.grp.toNat,m.frm.toNat,m.to.toNat,m.term.toNat,m.idx.toNat,m.lterm.toNat,m.com.toNat,(if m.ok then 1 else 0),m.es.length] = headM m from rfl] at cP
 simp only [List.map_cons,List.map_nil,urow,Int.toNat_of_nonneg (show 0≤m.kind by omega),Int.toNat_of_nonneg g0,Int.toNat_of_nonneg f0,Int.toNat_of_nonneg t0,Int.toNat_of_nonneg te.1,Int.toNat_of_nonneg ix.1,Int.toNat_of_nonneg lt.1,Int.toNat_of_nonneg co.1] at cP
 refine aR 240 ?_
 refine aBD 288 ?_
 refine RG.callv [] rfl trivial (msg_Put_1_con m.kind (by omega) (by omega)) (by (repeat' (first | exact tr_nil | refine tr_cons ?_ ?_ | exact tr_v))) trivial (by (exact .inl trivial)) ?_
 refine aM ?_
 refine RG.callv [] rfl trivial (msg_Put_1_con m.grp (by omega) (by omega)) (by (repeat' (first | exact tr_nil | refine tr_cons ?_ ?_ | exact tr_v))) trivial (by (exact .inl trivial)) ?_
 refine aM ?_
 refine RG.callv [] rfl trivial (msg_Put_1_con m.frm (by omega) (by omega)) (by (repeat' (first | exact tr_nil | refine tr_cons ?_ ?_ | exact tr_v))) trivial (by (exact .inl trivial)) ?_
 refine aM ?_
 refine RG.callv [] rfl trivial (msg_Put_1_con m.to (by omega) (by omega)) (by (repeat' (first | exact tr_nil | refine tr_cons ?_ ?_ | exact tr_v))) trivial (by (exact .inl trivial)) ?_
 refine aM ?_
 refine RG.callv [] rfl trivial (msg_Put_1_con m.term (by omega) (by omega)) (by (repeat' (first | exact tr_nil | refine tr_cons ?_ ?_ | exact tr_v))) trivial (by (exact .inl trivial)) ?_
 refine aM ?_
 refine RG.callv [] rfl trivial (msg_Put_1_con m.idx (by omega) (by omega)) (by (repeat' (first | exact tr_nil | refine tr_cons ?_ ?_ | exact tr_v))) trivial (by (exact .inl trivial)) ?_
 refine aM ?_
 refine RG.callv [] rfl trivial (msg_Put_1_con m.lterm (by omega) (by omega)) (by (repeat' (first | exact tr_nil | refine tr_cons ?_ ?_ | exact tr_v))) trivial (by (exact .inl trivial)) ?_
 refine aM ?_
 refine RG.callv [] rfl trivial (msg_Put_1_con m.com (by omega) (by omega)) (by (repeat' (first | exact tr_nil | refine tr_cons ?_ ?_ | exact tr_v))) trivial (by (exact .inl trivial)) ?_
 refine aM ?_
 refine rC [] (msg_flag_con m.ok) ?_
 refine aMs (fun Q hQ=>by simp (disch:=intros;contradiction) only [zS,zW,simprocAttr];exact hQ) ?_
 refine RG.callv [] rfl trivial (msg_Put_1_con m.es.length (by omega) (by omega)) (by (repeat' (first | exact tr_nil | refine tr_cons ?_ ?_ | exact tr_v))) trivial (by (exact .inl trivial)) ?_
 refine aM ?_
 refine rO [] [928] (cP) ?_
 refine aED ?_
 refine aS 1008 (fun Q hQ=>by simp (disch:=intros;contradiction) only [zS,zW,simprocAttr];exact hQ) ?_
 refine aw_loopK (X:={ i : Nat // i≤m.es.length }) [1,4,54,55] (fun i=>[(5,.c (.osl 5000)),(56,I i.1)]) [16] (fun i=>[(5000,.arr 5 1 ((headM m ++ esB (m.es.take i.1)).map brow) false)]) (fun i=>m.es.length - i.1) (⟨0,by omega⟩) ?_ ?_
 ·skip
  simp only [keepS,keepE,Option.getD_some,lk_cons,lkE_cons,List.cons_append,List.nil_append,simprocAttr]
  refine Le.lit [] [(5000,944)] _ _ ?_ ?_ ?_ ?_
  ·simp only [zL,simprocAttr]
  ·simp only [zL,simprocAttr]
   all_goals (simp [esB];(repeat' (((simp [brow,C.isD];done)))))
  ·simp [rlook]
  ·(simp;done)
 rintro ⟨i,hi⟩
 simp only [keepS,keepE,Option.getD_some,lk_cons,lkE_cons,List.cons_append,List.nil_append,simprocAttr]
 simp only [zX]
 refine aR 1104 ?_
 refine aw_cond _ rfl trivial (fun ht=>?_) (fun hf=>?_)
 ·skip
  try simp at ht
  simp only [zX]
  have hi' : i < m.es.length:=by omega
  obtain ⟨w,hw⟩ : ∃ w,m.es[i] = w:=⟨_,rfl⟩
  have cW:=entry_Put_con w.i w.t w.k w.d
  have hsucc:=esB_succ m.es i hi'
  rw [hw] at hsucc
  have e1:=esB_len (m.es.take i)
  simp only [List.length_take] at e1
  have e2 : (headM m ++ esB (m.es.take i)).map brow ++ (putE w.i w.t w.k w.d).map brow = (headM m ++ esB (m.es.take (i + 1))).map brow:=by rw [← List.map_append,hsucc,List.append_assoc];rfl
  have e3:=putE_len (i:=w.i) (t:=w.t) (k:=w.k) (d:=w.d)
  refine aS 1152 (fun Q hQ=>by simp (disch:=first | (intros;contradiction) | omega | (simp only [zN];omega)) only [zS,zW,erow,hw,simprocAttr];repeat refine ⟨by (omega),?_⟩;exact hQ) ?_
  refine aB 1248 ?_
  refine rC [] (cW) ?_ (hs:=(by exact .inr ⟨rfl,trivial⟩))
  refine RG.go fun Q hQ=>?_
  simp (disch:=intros;contradiction) only [zS,zW,e2,simprocAttr]
  refine ⟨⟨brow_len _,by omega⟩,hQ (RG.nil ?_)⟩
  simp only [zX]
  refine aS 1360 (fun Q hQ=>by simp (disch:=first | (intros;contradiction) | omega | (simp only [zN];omega)) only [zS,zW,simprocAttr];exact hQ) ?_
  refine ⟨⟨i + 1,hi'⟩,?_,by first | omega | (simp only;omega)⟩
  refine Le.lit [] [(5000,1296)] _ _ ?_ ?_ ?_ ?_
  ·simp only [zL,simprocAttr]
   all_goals (try ((repeat' (rfl))))
  ·simp only [zL,simprocAttr]
   all_goals (try ((repeat' ((exact drows_brow _)))))
  ·simp [rlook]
  ·(simp;done)
 try simp at hf
 simp only [zX,↓reduceIte]
 obtain rfl : i = m.es.length:=by omega
 rw [List.take_length]
 have e1:=esB_len m.es
 have hmi:=midM_len m
 obtain ⟨A,hA⟩ : ∃ A,A = headM m ++ esB m.es ++ midM m:=⟨_,rfl⟩
 have hAl : A.length≤1000000:=by rw [hA];simp only [List.length_append];omega
 have cT:=pack_Put_con [m.vol.toNat,m.chk.toNat,m.mark.toNat,m.floor.toNat] (by simp) (by
  intro n hn
  simp only [List.mem_cons,List.not_mem_nil,or_false] at hn
  omega)
 rw [show putS [m.vol.toNat,m.chk.toNat,m.mark.toNat,m.floor.toNat] = tailM m from rfl] at cT
 simp only [List.map_cons,List.map_nil,urow,Int.toNat_of_nonneg v0,Int.toNat_of_nonneg c0,Int.toNat_of_nonneg ma.1,Int.toNat_of_nonneg fl.1] at cT
 have hwm : IntKind.u64.wrap m.mark = m.mark:=by rw [w_u64];omega
 have hwf : IntKind.u64.wrap m.floor = m.floor:=by rw [w_u64];omega
 have htl:=tailM_len F
 have hd7:=num7_len m.d.length (by omega)
 have hbA : bodyM m = [A,num7 m.d.length ++ m.d,tailM m].flatten:=by rw [hA];unfold bodyM;simp
 have cJ:=pack_Join_con [A,num7 m.d.length ++ m.d,tailM m] (by simp;omega) (by simp)
 rw [← hbA] at cJ
 simp only [List.map_cons,List.map_nil,prow] at cJ
 by_cases hk : m.kind = 7
 ·skip
  have hbk : (m.kind == 7) = true:=by rw [hk];rfl
  have cO:=pack_Put_con [1] (by simp) (by simp)
  simp only [List.map_cons,List.map_nil,urow] at cO
  have h1 : putS [1] = [1]:=by unfold putS;simp;rw [num7,if_pos (by decide)]
  have hm1 : midM m = [1] ++ putB m.bi m.bt m.bc m.bd:=by unfold midM;rw [if_pos hk];rfl
  rw [h1] at cO
  have cF:=msg_flag_con true
  have cB:=entry_PutBase_con m.bi m.bt m.bc m.bd hm.bc
  have hq1 : (headM m ++ esB m.es).map brow ++ [brow 1] = (headM m ++ esB m.es ++ [1]).map brow:=by simp
  have hpb:=putB_len (i:=m.bi) (t:=m.bt) (c:=m.bc) (d:=m.bd)
  have hq2 : (headM m ++ esB m.es ++ [1]).map brow ++ (putB m.bi m.bt m.bc m.bd).map brow = A.map brow:=by rw [← List.map_append,hA,hm1];simp
  refine aBs 1424 (fun Q hQ=>by simp (disch:=intros;contradiction) only [zS,hbk,simprocAttr];exact hQ) ?_
  refine rC [] (cF) ?_
  refine aM ?_
  refine rO [] [1504] (cO) ?_
  refine RG.go fun Q hQ=>?_
  simp (disch:=intros;contradiction) only [zS,zW,hq1,simprocAttr]
  refine ⟨⟨by simp [brow],by simp;omega⟩,hQ (RG.nil ?_)⟩
  simp only [zX]
  refine aS 1600 (fun Q hQ=>by simp (disch:=intros;contradiction) only [zS,hbk,simprocAttr];exact hQ) ?_
  refine aw_cond _ rfl trivial (fun ht=>?_) (fun hf=>by cases hf)
  refine aB 1680 ?_
  refine rC [] (cB) ?_ (hs:=(by exact .inr ⟨rfl,trivial⟩))
  refine RG.go fun Q hQ=>?_
  simp (disch:=intros;contradiction) only [zS,zW,hq2,simprocAttr]
  refine ⟨⟨brow_len _,by omega⟩,hQ (RG.nil ?_)⟩
  simp only [zX]
  refine awp_pre [(1,.c (.bp 16 0)),(4,.c (.fn 9 [])),(5,.c (.sl (A.map brow)))] [(16,.box [.v (.int .i64 m.kind),.v (.int .i64 m.grp),.v (.int .i64 m.frm),.v (.int .i64 m.to),.v (.int .i64 m.term),.v (.int .i64 m.idx),.v (.int .i64 m.lterm),.v (.int .i64 m.com),.v (.bool m.ok),.sl (m.es.map erow),.v (.int .i64 m.bi),.v (.int .i64 m.bt),.sl (m.bc.map nrow),.sl (m.bd.map brow),.sl (m.d.map brow),.v (.int .i64 m.vol),.v (.int .i64 m.chk),.v (.int .i64 m.mark),.v (.int .i64 m.floor)])] ?_ ?_
  ·skip
   refine Le.lit [1744] [] _ _ ?_ ?_ ?_ ?_
   ·simp only [zL,simprocAttr]
    all_goals (exact ⟨⟨_,_,rfl⟩,drows_brow _⟩;skip)
   ·simp only [zL,simprocAttr]
   ·simp [rlook]
   ·(simp;done)
  refine aBD 1808 ?_
  refine rO [] [] ((pack_Lump_con m.d (by omega)).rows (drows_brow _)) ?_
  refine aM ?_
  refine RG.callv [] rfl trivial (msg_Put_1_con m.vol (by omega) (by omega)) (by (repeat' (first | exact tr_nil | refine tr_cons ?_ ?_ | exact tr_v))) trivial (by (exact .inl trivial)) ?_
  refine aM ?_
  refine RG.callv [] rfl trivial (msg_Put_1_con m.chk (by omega) (by omega)) (by (repeat' (first | exact tr_nil | refine tr_cons ?_ ?_ | exact tr_v))) trivial (by (exact .inl trivial)) ?_
  refine aMs (fun Q hQ=>by simp (disch:=intros;contradiction) only [zS,hwm,hwf,simprocAttr];exact hQ) ?_
  refine rO [] [2096] (cT.rows (drows_brow _)) ?_
  refine aM ?_
  refine rO [] [2128] (cJ) ?_
  refine aM ?_
  refine rO [] [2144] (crc_Seal_con (bodyM m) (bodyM_by hm.by') (by have:=bodyM_len F;omega)) ?_
  refine aED ?_
  refine Fin.data [2160] (.inr rfl) rfl (by (exact trivial)) ?_
  simp only [zL,simprocAttr]
  all_goals (exact ⟨⟨_,_,rfl⟩,drows_brow _⟩)
 have hbk : (m.kind == 7) = false:=by simpa using hk
 have cO:=pack_Put_con [0] (by simp) (by simp)
 simp only [List.map_cons,List.map_nil,urow] at cO
 have h1 : putS [0] = [0]:=by unfold putS;simp;rw [num7,if_pos (by decide)]
 have hm1 : midM m = [0]:=by unfold midM;rw [if_neg hk]
 rw [h1] at cO
 have cF:=msg_flag_con false
 have hq1 : (headM m ++ esB m.es).map brow ++ [brow 0] = A.map brow:=by rw [hA,hm1];simp
 refine aBs 2240 (fun Q hQ=>by simp (disch:=intros;contradiction) only [zS,hbk,simprocAttr];exact hQ) ?_
 refine rC [] (cF) ?_
 refine aM ?_
 refine rO [] [2320] (cO) ?_
 refine RG.go fun Q hQ=>?_
 simp (disch:=intros;contradiction) only [zS,zW,hq1,simprocAttr]
 refine ⟨⟨by simp [brow],by simp;omega⟩,hQ (RG.nil ?_)⟩
 simp only [zX]
 refine aS 2416 (fun Q hQ=>by simp (disch:=intros;contradiction) only [zS,hbk,simprocAttr];exact hQ) ?_
 refine aF ?_
 refine awp_pre [(1,.c (.bp 16 0)),(4,.c (.fn 9 [])),(5,.c (.sl (A.map brow)))] [(16,.box [.v (.int .i64 m.kind),.v (.int .i64 m.grp),.v (.int .i64 m.frm),.v (.int .i64 m.to),.v (.int .i64 m.term),.v (.int .i64 m.idx),.v (.int .i64 m.lterm),.v (.int .i64 m.com),.v (.bool m.ok),.sl (m.es.map erow),.v (.int .i64 m.bi),.v (.int .i64 m.bt),.sl (m.bc.map nrow),.sl (m.bd.map brow),.sl (m.d.map brow),.v (.int .i64 m.vol),.v (.int .i64 m.chk),.v (.int .i64 m.mark),.v (.int .i64 m.floor)])] ?_ ?_
 ·skip
  refine Le.lit [2352] [] _ _ ?_ ?_ ?_ ?_
  ·simp only [zL,simprocAttr]
   all_goals (exact ⟨⟨_,_,rfl⟩,drows_brow _⟩;skip)
  ·simp only [zL,simprocAttr]
  ·simp [rlook]
  ·(simp;done)
 refine aBD 2496 ?_
 refine rO [] [] ((pack_Lump_con m.d (by omega)).rows (drows_brow _)) ?_
 refine aM ?_
 refine RG.callv [] rfl trivial (msg_Put_1_con m.vol (by omega) (by omega)) (by (repeat' (first | exact tr_nil | refine tr_cons ?_ ?_ | exact tr_v))) trivial (by (exact .inl trivial)) ?_
 refine aM ?_
 refine RG.callv [] rfl trivial (msg_Put_1_con m.chk (by omega) (by omega)) (by (repeat' (first | exact tr_nil | refine tr_cons ?_ ?_ | exact tr_v))) trivial (by (exact .inl trivial)) ?_
 refine aMs (fun Q hQ=>by simp (disch:=intros;contradiction) only [zS,hwm,hwf,simprocAttr];exact hQ) ?_
 refine rO [] [2784] (cT.rows (drows_brow _)) ?_
 refine aM ?_
 refine rO [] [2816] (cJ) ?_
 refine aM ?_
 refine rO [] [2832] (crc_Seal_con (bodyM m) (bodyM_by hm.by') (by have:=bodyM_len F;omega)) ?_
 refine aED ?_
 refine Fin.data [2848] (.inr rfl) rfl (by (exact trivial)) ?_
 simp only [zL,simprocAttr]
 all_goals (exact ⟨⟨_,_,rfl⟩,drows_brow _⟩)

end Go.Abs

namespace Go.Abs
open Go Go.Proofs
set_option maxRecDepth 100000
set_option linter.unusedSimpArgs false
set_option maxHeartbeats 8000000

structure RestOk (n : Nat) (l : List Nat) : Prop where
 b8 : ∀ c ∈ l,c < 256
 len : l.length≤n
theorem RestOk.num {n : Nat} {l : List Nat} (h : RestOk n l) (most e : Nat) : RestOk n (numR most l e).2.1 :=
 ⟨numR_mem h.b8,by have:=numR_len (most:=most) (l:=l) (e:=e);have:=h.len;omega⟩
theorem RestOk.lump {n : Nat} {l : List Nat} (h : RestOk n l) (most e : Nat) : RestOk n (lumpR most l e).2.1 :=
 ⟨(lumpR_mem h.b8).2,by have:=(lumpR_len (most:=most) (l:=l) (e:=e)).2;have:=h.len;omega⟩
theorem RestOk.ent {n : Nat} {l : List Nat} (h : RestOk n l) (e : Nat) : RestOk n (readE l e).l∧(∀ c ∈ (readE l e).d,c < 256)∧(readE l e).i≤1099511627776∧(readE l e).t≤1099511627776∧(readE l e).k≤2:=by
 have g1:=h.num 1099511627776 e
 have k1:=numR_le (most:=1099511627776) (l:=l) (e:=e)
 unfold readE
 generalize numR 1099511627776 l e = q at g1 k1
 obtain ⟨a1,l1,e1⟩:=q
 simp only at g1 k1 ⊢
 have g2:=g1.num 1099511627776 e1
 have k2:=numR_le (most:=1099511627776) (l:=l1) (e:=e1)
 generalize numR 1099511627776 l1 e1 = q at g2 k2
 obtain ⟨a2,l2,e2⟩:=q
 simp only at g2 k2 ⊢
 have g3:=g2.num 2 e2
 have k3:=numR_le (most:=2) (l:=l2) (e:=e2)
 generalize numR 2 l2 e2 = q at g3 k3
 obtain ⟨a3,l3,e3⟩:=q
 simp only at g3 k3 ⊢
 have g4:=g3.lump 32767 e3
 have k4:=(lumpR_mem (most:=32767) (e:=e3) g3.b8).1
 generalize lumpR 32767 l3 e3 = q at g4 k4
 obtain ⟨d,l4,e4⟩:=q
 simp only at g4 k4 ⊢
 split
 ·exact ⟨g4,k4,k1,k2,k3⟩
 ·exact ⟨g4,by simp,by simp,by simp,by simp⟩
theorem msg_parsed_1_con (l : List Nat) (e : Nat) (hl : ∀ c ∈ l,c < 256) (hb : l.length≤140737488355328) :
  Con Try.prog 31 [.c (.bp 0 0)] [.box [.bp 1 0],Rd l e] (I (numR 9223372036854775807 l e).1) [.box [.bp 1 0],Rd (numR 9223372036854775807 l e).2.1 (numR 9223372036854775807 l e).2.2]:=by
 have hm : (numR 9223372036854775807 l e).1≤9223372036854775807:=numR_le
 have cN:=pack_Reader_Num_con l e 9223372036854775807 hl hb
 generalize numR 9223372036854775807 l e = q at hm cN
 obtain ⟨v,l1,e1⟩:=q
 simp only at hm cN
 have hw:=w_nat hm
 refine C_msg_parsed_1 nl nl ?_
 simp only [cz,A_msg_parsed_1,argL,objL,List.length_nil,List.length_cons,Nat.zero_add,zX,simprocAttr]
 refine aR 16 ?_
 refine aB 64 ?_
 refine rO [1] [] (cN) ?_
 refine aEs (fun Q hQ=>by simp (disch:=intros;contradiction) only [zS,hw,simprocAttr];exact hQ) ?_
 refine Fin.objs [] [] (.inr rfl) rfl (by exact trivial) ?_ ?_ (by simp [objL,rlook]) (by (intro k hk;simp [objL,rlook];omega))
 ·simp only [zL,simprocAttr]
 ·simp only [zL,simprocAttr]

def bP (i : Nat) : Nat:=if i = 9 then 4 else 9223372036854775807
theorem bP_wide : wideB bP:=by unfold wideB bP;simp
theorem bP_at {i : Nat} (h : i≠9) : bP i = 9223372036854775807:=by unfold bP;rw [if_neg h]
def GE (k : Nat) (l : List EN) : Prop:=l.length≤k∧∀ e ∈ l,∀ c ∈ e.d,c < 256
theorem GE.snoc {k : Nat} {l : List EN} {x : EN} (h : GE k l) (h1 : ∀ c ∈ x.d,c < 256) : GE (k + 1) (l ++ [x]) :=
 ⟨by simp;exact h.1,fun y hy=>by rcases List.mem_append.1 hy with hy | hy;exact h.2 y hy;simp only [List.mem_singleton] at hy;subst hy;exact h1⟩
theorem msg_parsed_con (l : List Nat) (h8 : ∀ c ∈ l,c < 256) (hn : l.length≤1000000) :
  Con Try.prog 18 [.c (.sl (l.map brow))] [] (.agg (msgC (jM bP l).1)) []:=by
 have hr : RestOk 1000000 l:=⟨h8,hn⟩
 obtain ⟨R,hR⟩ : ∃ R,R = jM bP l:=⟨_,rfl⟩
 rw [← hR]
 unfold jM at hR
 rw [bP_at (by decide)] at hR
 have c1:=msg_parsed_1_con l 0 hr.b8 (by have:=hr.len;omega)
 have g1:=hr.num 9223372036854775807 0
 have k1 : (numR 9223372036854775807 l 0).1≤9223372036854775807:=numR_le
 generalize numR 9223372036854775807 l 0 = q at hR c1 g1 k1
 obtain ⟨a1,l1,e1⟩:=q
 simp only at c1 g1 k1
 unfold jm1 at hR
 simp only at hR
 rw [bP_at (by decide)] at hR
 have c2:=msg_parsed_1_con l1 e1 g1.b8 (by have:=g1.len;omega)
 have g2:=g1.num 9223372036854775807 e1
 have k2 : (numR 9223372036854775807 l1 e1).1≤9223372036854775807:=numR_le
 generalize numR 9223372036854775807 l1 e1 = q at hR c2 g2 k2
 obtain ⟨a2,l2,e2⟩:=q
 simp only at c2 g2 k2
 unfold jm2 at hR
 simp only at hR
 rw [bP_at (by decide)] at hR
 have c3:=msg_parsed_1_con l2 e2 g2.b8 (by have:=g2.len;omega)
 have g3:=g2.num 9223372036854775807 e2
 have k3 : (numR 9223372036854775807 l2 e2).1≤9223372036854775807:=numR_le
 generalize numR 9223372036854775807 l2 e2 = q at hR c3 g3 k3
 obtain ⟨a3,l3,e3⟩:=q
 simp only at c3 g3 k3
 unfold jm3 at hR
 simp only at hR
 rw [bP_at (by decide)] at hR
 have c4:=msg_parsed_1_con l3 e3 g3.b8 (by have:=g3.len;omega)
 have g4:=g3.num 9223372036854775807 e3
 have k4 : (numR 9223372036854775807 l3 e3).1≤9223372036854775807:=numR_le
 generalize numR 9223372036854775807 l3 e3 = q at hR c4 g4 k4
 obtain ⟨a4,l4,e4⟩:=q
 simp only at c4 g4 k4
 unfold jm4 at hR
 simp only at hR
 rw [bP_at (by decide)] at hR
 have c5:=msg_parsed_1_con l4 e4 g4.b8 (by have:=g4.len;omega)
 have g5:=g4.num 9223372036854775807 e4
 have k5 : (numR 9223372036854775807 l4 e4).1≤9223372036854775807:=numR_le
 generalize numR 9223372036854775807 l4 e4 = q at hR c5 g5 k5
 obtain ⟨a5,l5,e5⟩:=q
 simp only at c5 g5 k5
 unfold jm5 at hR
 simp only at hR
 rw [bP_at (by decide)] at hR
 have c6:=msg_parsed_1_con l5 e5 g5.b8 (by have:=g5.len;omega)
 have g6:=g5.num 9223372036854775807 e5
 have k6 : (numR 9223372036854775807 l5 e5).1≤9223372036854775807:=numR_le
 generalize numR 9223372036854775807 l5 e5 = q at hR c6 g6 k6
 obtain ⟨a6,l6,e6⟩:=q
 simp only at c6 g6 k6
 unfold jm6 at hR
 simp only at hR
 rw [bP_at (by decide)] at hR
 have c7:=msg_parsed_1_con l6 e6 g6.b8 (by have:=g6.len;omega)
 have g7:=g6.num 9223372036854775807 e6
 have k7 : (numR 9223372036854775807 l6 e6).1≤9223372036854775807:=numR_le
 generalize numR 9223372036854775807 l6 e6 = q at hR c7 g7 k7
 obtain ⟨a7,l7,e7⟩:=q
 simp only at c7 g7 k7
 unfold jm7 at hR
 simp only at hR
 rw [bP_at (by decide)] at hR
 have c8:=msg_parsed_1_con l7 e7 g7.b8 (by have:=g7.len;omega)
 have g8:=g7.num 9223372036854775807 e7
 have k8 : (numR 9223372036854775807 l7 e7).1≤9223372036854775807:=numR_le
 generalize numR 9223372036854775807 l7 e7 = q at hR c8 g8 k8
 obtain ⟨a8,l8,e8⟩:=q
 simp only at c8 g8 k8
 unfold jm8 at hR
 simp only at hR
 rw [bP_at (by decide)] at hR
 have c9:=msg_parsed_1_con l8 e8 g8.b8 (by have:=g8.len;omega)
 have g9:=g8.num 9223372036854775807 e8
 have k9 : (numR 9223372036854775807 l8 e8).1≤9223372036854775807:=numR_le
 generalize numR 9223372036854775807 l8 e8 = q at hR c9 g9 k9
 obtain ⟨a9,l9,e9⟩:=q
 simp only at c9 g9 k9
 unfold jm9 at hR
 simp only at hR
 have hb9 : bP 9 = 4:=rfl
 rw [hb9] at hR
 have c10:=pack_Reader_Num_con l9 e9 4 g9.b8 (by have:=g9.len;omega)
 have g10:=g9.num 4 e9
 have k10 : (numR 4 l9 e9).1≤4:=numR_le
 generalize numR 4 l9 e9 = q at hR c10 g10 k10
 obtain ⟨m,l10,e10⟩:=q
 simp only at c10 g10 k10
 unfold jm10 at hR
 simp only at hR
 obtain ⟨RE,hRE⟩ : ∃ x,x = jE m [] l10 e10:=⟨_,rfl⟩
 rw [← hRE] at hR
 have hok : ((a9 : Int) == 1) = decide (a9 = 1):=by rw [Bool.eq_iff_iff];simp;omega
 refine C_msg_parsed nl nl ?_
 simp only [cz,A_msg_parsed,argL,objL,List.length_nil,zX]
 refine aR 16 ?_
 refine aB 64 ?_
 refine rO [] [] (pack_New_con (l.map brow) (drows_brow l) (brow_len l) (by simp;omega)) ?_
 refine aE ?_
 refine aS 160 (fun Q hQ=>by simp (disch:=intros;contradiction) only [zS,simprocAttr];repeat refine ⟨by ((simp;done)),?_⟩;exact hQ) ?_
 refine aB 224 ?_
 refine RG.callvo [96,80] [] rfl trivial (c1) (.mk (by (repeat' (first | exact tr_nil | refine tr_cons ?_ ?_ | exact tr_bp rfl))) (by (simp only [zT,simprocAttr];done)) (by simp) (by simp) (trivial) (by (simp [lkE_cons,lkE_nil];done)) (by (simp [Ent.pure];done)) (by simp) (by simp)) ?_
 refine aM ?_
 refine RG.callvo [96,80] [] rfl trivial (c2) (.mk (by (repeat' (first | exact tr_nil | refine tr_cons ?_ ?_ | exact tr_bp rfl))) (by (simp only [zT,simprocAttr];done)) (by simp) (by simp) (trivial) (by (simp [lkE_cons,lkE_nil];done)) (by (simp [Ent.pure];done)) (by simp) (by simp)) ?_
 refine aM ?_
 refine RG.callvo [96,80] [] rfl trivial (c3) (.mk (by (repeat' (first | exact tr_nil | refine tr_cons ?_ ?_ | exact tr_bp rfl))) (by (simp only [zT,simprocAttr];done)) (by simp) (by simp) (trivial) (by (simp [lkE_cons,lkE_nil];done)) (by (simp [Ent.pure];done)) (by simp) (by simp)) ?_
 refine aM ?_
 refine RG.callvo [96,80] [] rfl trivial (c4) (.mk (by (repeat' (first | exact tr_nil | refine tr_cons ?_ ?_ | exact tr_bp rfl))) (by (simp only [zT,simprocAttr];done)) (by simp) (by simp) (trivial) (by (simp [lkE_cons,lkE_nil];done)) (by (simp [Ent.pure];done)) (by simp) (by simp)) ?_
 refine aM ?_
 refine RG.callvo [96,80] [] rfl trivial (c5) (.mk (by (repeat' (first | exact tr_nil | refine tr_cons ?_ ?_ | exact tr_bp rfl))) (by (simp only [zT,simprocAttr];done)) (by simp) (by simp) (trivial) (by (simp [lkE_cons,lkE_nil];done)) (by (simp [Ent.pure];done)) (by simp) (by simp)) ?_
 refine aM ?_
 refine RG.callvo [96,80] [] rfl trivial (c6) (.mk (by (repeat' (first | exact tr_nil | refine tr_cons ?_ ?_ | exact tr_bp rfl))) (by (simp only [zT,simprocAttr];done)) (by simp) (by simp) (trivial) (by (simp [lkE_cons,lkE_nil];done)) (by (simp [Ent.pure];done)) (by simp) (by simp)) ?_
 refine aM ?_
 refine RG.callvo [96,80] [] rfl trivial (c7) (.mk (by (repeat' (first | exact tr_nil | refine tr_cons ?_ ?_ | exact tr_bp rfl))) (by (simp only [zT,simprocAttr];done)) (by simp) (by simp) (trivial) (by (simp [lkE_cons,lkE_nil];done)) (by (simp [Ent.pure];done)) (by simp) (by simp)) ?_
 refine aM ?_
 refine RG.callvo [96,80] [] rfl trivial (c8) (.mk (by (repeat' (first | exact tr_nil | refine tr_cons ?_ ?_ | exact tr_bp rfl))) (by (simp only [zT,simprocAttr];done)) (by simp) (by simp) (trivial) (by (simp [lkE_cons,lkE_nil];done)) (by (simp [Ent.pure];done)) (by simp) (by simp)) ?_
 refine aM ?_
 refine RG.callvo [96,80] [] rfl trivial (c9) (.mk (by (repeat' (first | exact tr_nil | refine tr_cons ?_ ?_ | exact tr_bp rfl))) (by (simp only [zT,simprocAttr];done)) (by simp) (by simp) (trivial) (by (simp [lkE_cons,lkE_nil];done)) (by (simp [Ent.pure];done)) (by simp) (by simp)) ?_
 refine aEs (fun Q hQ=>by simp (disch:=intros;contradiction) only [zS,hok,simprocAttr];exact hQ) ?_
 refine aB 608 ?_
 refine rO [80] [] (c10) ?_
 refine aE ?_
 refine aw_loopK (X:={ x : Nat × List EN × List Nat × Nat // x.1≤m∧GE x.1 x.2.1∧RestOk 1000000 x.2.2.1∧jE (m - x.1) x.2.1 x.2.2.1 x.2.2.2 = RE }) [2,3,4,5,32] (fun x=>[(33,.c (.v (.int .u64 x.1.1)))]) [16,96] (fun x=>[(80,Rd x.1.2.2.1 x.1.2.2.2),(544,.box [.v (.int .i64 a1),.v (.int .i64 a2),.v (.int .i64 a3),.v (.int .i64 a4),.v (.int .i64 a5),.v (.int .i64 a6),.v (.int .i64 a7),.v (.int .i64 a8),.v (.bool (decide (a9 = 1))),.osl 5000,.v (.int .i64 0),.v (.int .i64 0),.v (.slice none 0 0),.v (.slice none 0 0),.v (.slice none 0 0),.v (.int .i64 0),.v (.int .i64 0),.v (.int .i64 0),.v (.int .i64 0)]),(5000,.arr 44 4 (x.1.2.1.map erow) false)]) (fun x=>m - x.1.1) (⟨(0,[],l10,e10),by simp only;omega,⟨Nat.le_refl _,fun w hw=>by cases hw⟩,g10,hRE.symm⟩) ?_ ?_
 ·skip
  simp only [keepS,keepE,Option.getD_some,lk_cons,lkE_cons,List.cons_append,List.nil_append,simprocAttr]
  refine (Le.ownB 544 9 5000 _ 44 4 rfl rfl rfl (by decide)).trans ?_
  simp only [List.set_cons_succ,List.set_cons_zero,setE_cons,setE_nil,simprocAttr]
  refine Le.lit [] [] _ _ ?_ ?_ ?_ ?_
  ·simp only [zL,simprocAttr]
  ·simp only [zL,simprocAttr]
   all_goals (try ((repeat' (((simp [C.isD];done))))))
  ·simp [rlook]
  ·(simp;done)
 rintro ⟨⟨i,acc,la,ea⟩,u1,u2,u3,u4⟩
 simp only [keepS,keepE,Option.getD_some,lk_cons,lkE_cons,List.cons_append,List.nil_append,simprocAttr]
 simp only [zX]
 simp only at u1 u2 u3 u4
 refine aR 688 ?_
 refine aw_cond _ rfl trivial (fun ht=>?_) (fun hf=>?_)
 ·skip
  try simp at ht
  simp only [zX]
  obtain ⟨d,hd⟩ : ∃ d,m - i = d + 1:=⟨m - i - 1,by omega⟩
  rw [hd] at u4
  unfold jE at u4
  have v0:=u3.len
  have cE:=entry_Read_con la ea u3.b8 (by omega)
  have v1:=u3.ent ea
  generalize readE la ea = r at u4 cE v1
  obtain ⟨ri,rt,rk,rd,rok,rl,re⟩:=r
  obtain ⟨v2,v3,v4,v5,v6⟩:=v1
  simp only [enOf] at u4 cE v2 v3 v4 v5 v6
  have u2l:=u2.1
  have e2 : acc.map erow ++ [[.v (.int .i64 ri),.v (.int .i64 rt),.v (.int .i64 rk),.sl (rd.map brow)]] = (acc ++ [(⟨(ri : Int),(rt : Int),(rk : Int),rd⟩ : EN)]).map erow:=by rw [List.map_append];rfl
  refine aB 736 ?_
  refine rO [80] [] (cE) ?_
  refine aE ?_
  refine aS 896 (fun Q hQ=>by simp (disch:=intros;contradiction) only [zS,zW,e2,simprocAttr];repeat refine ⟨by ((simp;omega)),?_⟩;exact hQ) ?_
  refine aS 1040 (fun Q hQ=>by simp (disch:=first | (intros;contradiction) | omega | (simp only [zN];omega)) only [zS,zW,simprocAttr];exact hQ) ?_
  refine ⟨⟨(i + 1,acc ++ [(⟨(ri : Int),(rt : Int),(rk : Int),rd⟩ : EN)],rl,re),by simp only;omega,u2.snoc v3,v2,by simp only;rw [show m - (i + 1) = d by omega];exact u4⟩,?_,by first | omega | (simp only;omega)⟩
  refine Le.lit [] [(5000,960)] _ _ ?_ ?_ ?_ ?_
  ·simp only [zL,simprocAttr]
   all_goals (try ((repeat' (rfl))))
  ·simp only [zL,simprocAttr]
   all_goals (try ((repeat' ((exact erow_data _)))))
  ·simp [rlook]
  ·(simp;done)
 try simp at hf
 simp only [zX,↓reduceIte]
 have hi : i = m:=by omega
 subst hi
 rw [Nat.sub_self] at u4
 have u4 : (acc,la,ea) = RE:=u4
 subst u4
 unfold jm11 at hR
 simp only at hR
 rw [bP_at (by decide)] at hR
 have c11:=msg_parsed_1_con la ea u3.b8 (by have:=u3.len;omega)
 have g11:=u3.num 9223372036854775807 ea
 generalize numR 9223372036854775807 la ea = q at hR c11 g11
 obtain ⟨a10,l11,e11⟩:=q
 simp only at c11 g11
 unfold jm12 at hR
 simp only at hR
 rw [bP_at (by decide)] at hR
 by_cases h10 : a10 = 1
 ·skip
  have hd10 : ((a10 : Int) == 1) = true:=by rw [h10];rfl
  rw [if_pos h10] at hR
  have cB:=entry_ReadBase_con l11 e11 g11.b8 (by have:=g11.len;omega)
  have gB:=readB_mem (most:=9223372036854775807) (e:=e11) g11.b8
  generalize readB 9223372036854775807 l11 e11 = r at hR cB gB
  obtain ⟨bi,bt,bc,bd,bok,l12,e12⟩:=r
  simp only at cB gB
  have g12 : RestOk 1000000 l12:=⟨gB.2.1,by have:=gB.2.2.1;have:=g11.len;omega⟩
  unfold jm13 at hR
  simp only at hR
  have cL:=pack_Reader_Lump_con l12 e12 65535 g12.b8 (by have:=g12.len;omega) (by omega)
  have gL:=g12.lump 65535 e12
  have yL:=(lumpR_mem (most:=65535) (e:=e12) g12.b8).1
  have zL':=(lumpR_len (most:=65535) (l:=l12) (e:=e12)).1
  generalize lumpR 65535 l12 e12 = q at hR cL gL yL zL'
  obtain ⟨dd,l14,e14⟩:=q
  simp only at cL gL yL zL'
  unfold jm14 at hR
  simp only at hR
  rw [bP_at (by decide)] at hR
  have cv0:=msg_parsed_1_con l14 e14 gL.b8 (by have:=gL.len;omega)
  have gv0:=gL.num 9223372036854775807 e14
  generalize numR 9223372036854775807 l14 e14 = q at hR cv0 gv0
  obtain ⟨b0,m0,f0⟩:=q
  simp only at cv0 gv0
  unfold jm15 at hR
  simp only at hR
  rw [bP_at (by decide)] at hR
  have cv1:=msg_parsed_1_con m0 f0 gv0.b8 (by have:=gv0.len;omega)
  have gv1:=gv0.num 9223372036854775807 f0
  generalize numR 9223372036854775807 m0 f0 = q at hR cv1 gv1
  obtain ⟨b1,m1,f1⟩:=q
  simp only at cv1 gv1
  unfold jm16 at hR
  simp only at hR
  rw [bP_at (by decide)] at hR
  have cv2:=msg_parsed_1_con m1 f1 gv1.b8 (by have:=gv1.len;omega)
  have gv2:=gv1.num 9223372036854775807 f1
  generalize numR 9223372036854775807 m1 f1 = q at hR cv2 gv2
  obtain ⟨b2,m2,f2⟩:=q
  simp only at cv2 gv2
  unfold jm17 at hR
  simp only at hR
  rw [bP_at (by decide)] at hR
  have cv3:=msg_parsed_1_con m2 f2 gv2.b8 (by have:=gv2.len;omega)
  have gv3:=gv2.num 9223372036854775807 f2
  generalize numR 9223372036854775807 m2 f2 = q at hR cv3 gv3
  obtain ⟨b3,m3,f3⟩:=q
  simp only at cv3 gv3
  unfold jFin at hR
  simp only at hR
  rw [hR]
  refine aB 1104 ?_
  refine RG.callvo [96,80] [] rfl trivial (c11) (.mk (by (repeat' (first | exact tr_nil | refine tr_cons ?_ ?_ | exact tr_bp rfl))) (by (simp only [zT,simprocAttr];done)) (by simp) (by simp) (trivial) (by (simp [lkE_cons,lkE_nil];done)) (by (simp [Ent.pure];done)) (by simp) (by simp)) ?_
  refine aEs (fun Q hQ=>by simp (disch:=intros;contradiction) only [zS,hd10,simprocAttr];exact hQ) ?_
  refine aw_cond _ rfl trivial (fun ht=>?_) (fun hf=>by cases hf)
  refine aB 1184 ?_
  refine rO [80] [] (cB) ?_
  refine aE ?_
  refine aB 1328 ?_
  refine rO [80] [] (cL) ?_
  refine aE ?_
  refine aB 1424 ?_
  refine RG.callvo [96,80] [] rfl trivial (cv0) (.mk (by (repeat' (first | exact tr_nil | refine tr_cons ?_ ?_ | exact tr_bp rfl))) (by (simp only [zT,simprocAttr];done)) (by simp) (by simp) (trivial) (by (simp [lkE_cons,lkE_nil];done)) (by (simp [Ent.pure];done)) (by simp) (by simp)) ?_
  refine aM ?_
  refine RG.callvo [96,80] [] rfl trivial (cv1) (.mk (by (repeat' (first | exact tr_nil | refine tr_cons ?_ ?_ | exact tr_bp rfl))) (by (simp only [zT,simprocAttr];done)) (by simp) (by simp) (trivial) (by (simp [lkE_cons,lkE_nil];done)) (by (simp [Ent.pure];done)) (by simp) (by simp)) ?_
  refine aM ?_
  refine RG.callvo [96,80] [] rfl trivial (cv2) (.mk (by (repeat' (first | exact tr_nil | refine tr_cons ?_ ?_ | exact tr_bp rfl))) (by (simp only [zT,simprocAttr];done)) (by simp) (by simp) (trivial) (by (simp [lkE_cons,lkE_nil];done)) (by (simp [Ent.pure];done)) (by simp) (by simp)) ?_
  refine aM ?_
  refine RG.callvo [96,80] [] rfl trivial (cv3) (.mk (by (repeat' (first | exact tr_nil | refine tr_cons ?_ ?_ | exact tr_bp rfl))) (by (simp only [zT,simprocAttr];done)) (by simp) (by simp) (trivial) (by (simp [lkE_cons,lkE_nil];done)) (by (simp [Ent.pure];done)) (by simp) (by simp)) ?_
  refine aE ?_
  refine aR 1712 ?_
  refine Fin.data [5000] (.inr rfl) rfl (by (exact ⟨trivial,trivial⟩)) ?_
  simp only [zL,simprocAttr]
  all_goals ((repeat' (first | exact trivial | rfl | (refine ⟨⟨_,_,rfl⟩,?_⟩;(exact erow_data _)) | refine ⟨?_,?_⟩)))
 have hd10 : ((a10 : Int) == 1) = false:=by rw [Bool.eq_false_iff];simp;omega
 rw [if_neg h10] at hR
 unfold jm13 at hR
 simp only at hR
 have cL:=pack_Reader_Lump_con l11 e11 65535 g11.b8 (by have:=g11.len;omega) (by omega)
 have gL:=g11.lump 65535 e11
 have yL:=(lumpR_mem (most:=65535) (e:=e11) g11.b8).1
 have zL':=(lumpR_len (most:=65535) (l:=l11) (e:=e11)).1
 generalize lumpR 65535 l11 e11 = q at hR cL gL yL zL'
 obtain ⟨dd,l14,e14⟩:=q
 simp only at cL gL yL zL'
 unfold jm14 at hR
 simp only at hR
 rw [bP_at (by decide)] at hR
 have cv0:=msg_parsed_1_con l14 e14 gL.b8 (by have:=gL.len;omega)
 have gv0:=gL.num 9223372036854775807 e14
 generalize numR 9223372036854775807 l14 e14 = q at hR cv0 gv0
 obtain ⟨b0,m0,f0⟩:=q
 simp only at cv0 gv0
 unfold jm15 at hR
 simp only at hR
 rw [bP_at (by decide)] at hR
 have cv1:=msg_parsed_1_con m0 f0 gv0.b8 (by have:=gv0.len;omega)
 have gv1:=gv0.num 9223372036854775807 f0
 generalize numR 9223372036854775807 m0 f0 = q at hR cv1 gv1
 obtain ⟨b1,m1,f1⟩:=q
 simp only at cv1 gv1
 unfold jm16 at hR
 simp only at hR
 rw [bP_at (by decide)] at hR
 have cv2:=msg_parsed_1_con m1 f1 gv1.b8 (by have:=gv1.len;omega)
 have gv2:=gv1.num 9223372036854775807 f1
 generalize numR 9223372036854775807 m1 f1 = q at hR cv2 gv2
 obtain ⟨b2,m2,f2⟩:=q
 simp only at cv2 gv2
 unfold jm17 at hR
 simp only at hR
 rw [bP_at (by decide)] at hR
 have cv3:=msg_parsed_1_con m2 f2 gv2.b8 (by have:=gv2.len;omega)
 have gv3:=gv2.num 9223372036854775807 f2
 generalize numR 9223372036854775807 m2 f2 = q at hR cv3 gv3
 obtain ⟨b3,m3,f3⟩:=q
 simp only at cv3 gv3
 unfold jFin at hR
 simp only at hR
 rw [hR]
 refine aB 1776 ?_
 refine RG.callvo [96,80] [] rfl trivial (c11) (.mk (by (repeat' (first | exact tr_nil | refine tr_cons ?_ ?_ | exact tr_bp rfl))) (by (simp only [zT,simprocAttr];done)) (by simp) (by simp) (trivial) (by (simp [lkE_cons,lkE_nil];done)) (by (simp [Ent.pure];done)) (by simp) (by simp)) ?_
 refine aEs (fun Q hQ=>by simp (disch:=intros;contradiction) only [zS,hd10,simprocAttr];exact hQ) ?_
 refine aF ?_
 refine aB 1856 ?_
 refine rO [80] [] (cL) ?_
 refine aE ?_
 refine aB 1952 ?_
 refine RG.callvo [96,80] [] rfl trivial (cv0) (.mk (by (repeat' (first | exact tr_nil | refine tr_cons ?_ ?_ | exact tr_bp rfl))) (by (simp only [zT,simprocAttr];done)) (by simp) (by simp) (trivial) (by (simp [lkE_cons,lkE_nil];done)) (by (simp [Ent.pure];done)) (by simp) (by simp)) ?_
 refine aM ?_
 refine RG.callvo [96,80] [] rfl trivial (cv1) (.mk (by (repeat' (first | exact tr_nil | refine tr_cons ?_ ?_ | exact tr_bp rfl))) (by (simp only [zT,simprocAttr];done)) (by simp) (by simp) (trivial) (by (simp [lkE_cons,lkE_nil];done)) (by (simp [Ent.pure];done)) (by simp) (by simp)) ?_
 refine aM ?_
 refine RG.callvo [96,80] [] rfl trivial (cv2) (.mk (by (repeat' (first | exact tr_nil | refine tr_cons ?_ ?_ | exact tr_bp rfl))) (by (simp only [zT,simprocAttr];done)) (by simp) (by simp) (trivial) (by (simp [lkE_cons,lkE_nil];done)) (by (simp [Ent.pure];done)) (by simp) (by simp)) ?_
 refine aM ?_
 refine RG.callvo [96,80] [] rfl trivial (cv3) (.mk (by (repeat' (first | exact tr_nil | refine tr_cons ?_ ?_ | exact tr_bp rfl))) (by (simp only [zT,simprocAttr];done)) (by simp) (by simp) (trivial) (by (simp [lkE_cons,lkE_nil];done)) (by (simp [Ent.pure];done)) (by simp) (by simp)) ?_
 refine aE ?_
 refine aR 2240 ?_
 refine Fin.data [5000] (.inr rfl) rfl (by (exact ⟨trivial,trivial⟩)) ?_
 simp only [zL,simprocAttr]
 all_goals ((repeat' (first | exact trivial | rfl | (refine ⟨⟨_,_,rfl⟩,?_⟩;(exact erow_data _)) | refine ⟨?_,?_⟩)))

end Go.Abs

namespace Go.Abs
open Go Go.Proofs
set_option maxRecDepth 100000
set_option linter.unusedSimpArgs false
set_option maxHeartbeats 8000000

theorem pureTB {r : List (List C)} {b : Bool} : (SV.tup [.c (.sl r),B b]).pureD:=by
 intro s hs
 simp only [List.mem_cons,List.not_mem_nil,or_false] at hs
 rcases hs with rfl | rfl <;> rfl

theorem pureTA {cs : List C} {x : Value} (h : ∀ c ∈ cs,c.isD = true) : (SV.tup [.agg cs,.c (.v x)]).pureD:=by
 intro s hs
 simp only [List.mem_cons,List.not_mem_nil,or_false] at hs
 rcases hs with rfl | rfl
 ·exact h
 ·rfl
theorem pureTC {r : List (List C)} {x : Value} : (SV.tup [.c (.sl r),.c (.v x)]).pureD:=by
 intro s hs
 simp only [List.mem_cons,List.not_mem_nil,or_false] at hs
 rcases hs with rfl | rfl <;> rfl

theorem jE_ok {n : Nat} : ∀ (k j : Nat) (acc : List EN) (l : List Nat) (e : Nat),GE j acc→RestOk n l→GE (j + k) (jE k acc l e).1∧RestOk n (jE k acc l e).2.1
 | 0,j,acc,l,e,h1,h2=>⟨h1,h2⟩
 | k + 1,j,acc,l,e,h1,h2=>by
  have h3:=h2.ent e
  have:=jE_ok k (j + 1) (acc ++ [enOf (readE l e)]) (readE l e).l (readE l e).e (h1.snoc h3.2.1) h3.1
  rw [show j + (k + 1) = j + 1 + k by omega]
  exact this
theorem jM_ok {B : Nat→Nat} (hB : B 9≤1000000) {l : List Nat} (h : RestOk 1000000 l) : Mok (jM B l).1:=by
 have g0:=h.num (B 0) 0
 unfold jM jm1
 have g1:=g0.num (B 1) (numR (B 0) l 0).2.2
 unfold jm2
 have g2:=g1.num (B 2) (numR (B 1) (numR (B 0) l 0).2.1 (numR (B 0) l 0).2.2).2.2
 generalize numR (B 1) (numR (B 0) l 0).2.1 (numR (B 0) l 0).2.2 = q1 at g1 g2 ⊢
 generalize numR (B 0) l 0 = q0 at g0 ⊢
 unfold jm3
 have g3:=g2.num (B 3) (numR (B 2) q1.2.1 q1.2.2).2.2
 generalize numR (B 2) q1.2.1 q1.2.2 = q2 at g2 g3 ⊢
 unfold jm4
 have g4:=g3.num (B 4) (numR (B 3) q2.2.1 q2.2.2).2.2
 generalize numR (B 3) q2.2.1 q2.2.2 = q3 at g3 g4 ⊢
 unfold jm5
 have g5:=g4.num (B 5) (numR (B 4) q3.2.1 q3.2.2).2.2
 generalize numR (B 4) q3.2.1 q3.2.2 = q4 at g4 g5 ⊢
 unfold jm6
 have g6:=g5.num (B 6) (numR (B 5) q4.2.1 q4.2.2).2.2
 generalize numR (B 5) q4.2.1 q4.2.2 = q5 at g5 g6 ⊢
 unfold jm7
 have g7:=g6.num (B 7) (numR (B 6) q5.2.1 q5.2.2).2.2
 generalize numR (B 6) q5.2.1 q5.2.2 = q6 at g6 g7 ⊢
 unfold jm8
 have g8:=g7.num (B 8) (numR (B 7) q6.2.1 q6.2.2).2.2
 generalize numR (B 7) q6.2.1 q6.2.2 = q7 at g7 g8 ⊢
 unfold jm9
 have g9:=g8.num (B 9) (numR (B 8) q7.2.1 q7.2.2).2.2
 generalize numR (B 8) q7.2.1 q7.2.2 = q8 at g8 g9 ⊢
 unfold jm10
 have k9 : (numR (B 9) q8.2.1 q8.2.2).1≤B 9:=numR_le
 generalize numR (B 9) q8.2.1 q8.2.2 = q9 at g9 k9 ⊢
 unfold jm11
 have gE:=jE_ok q9.1 0 [] q9.2.1 q9.2.2 ⟨Nat.le_refl _,fun e he=>by cases he⟩ g9
 generalize jE q9.1 [] q9.2.1 q9.2.2 = r at gE ⊢
 unfold jm12
 have g10:=gE.2.num (B 10) r.2.2
 generalize numR (B 10) r.2.1 r.2.2 = q10 at g10 ⊢
 have gb : (∀ c ∈ (if q10.1 = 1 then readB (B 15) q10.2.1 q10.2.2 else ⟨0,0,[],[],false,q10.2.1,q10.2.2⟩ : ReadB).d,c < 256)∧RestOk 1000000 (if q10.1 = 1 then readB (B 15) q10.2.1 q10.2.2 else ⟨0,0,[],[],false,q10.2.1,q10.2.2⟩ : ReadB).l∧(if q10.1 = 1 then readB (B 15) q10.2.1 q10.2.2 else ⟨0,0,[],[],false,q10.2.1,q10.2.2⟩ : ReadB).c.length≤7∧(if q10.1 = 1 then readB (B 15) q10.2.1 q10.2.2 else ⟨0,0,[],[],false,q10.2.1,q10.2.2⟩ : ReadB).d.length≤1000000:=by
  split
  ·have h1:=readB_mem (most:=B 15) (e:=q10.2.2) g10.b8
   refine ⟨h1.1,⟨h1.2.1,by have:=h1.2.2.1;have:=g10.len;omega⟩,h1.2.2.2,?_⟩
   unfold readB
   simp only
   split
   ·rename_i hd
    obtain ⟨_,_,_,_,_,h6⟩:=baseRight_facts hd.2
    simp only;omega
   ·simp
  ·exact ⟨by simp,g10,by simp,by simp⟩
 generalize (if q10.1 = 1 then readB (B 15) q10.2.1 q10.2.2 else ⟨0,0,[],[],false,q10.2.1,q10.2.2⟩ : ReadB) = b at gb ⊢
 unfold jm13 jm14
 have yL:=(lumpR_mem (most:=65535) (e:=b.e) gb.2.1.b8).1
 have zL:=(lumpR_len (most:=65535) (l:=b.l) (e:=b.e)).1
 have zl:=gb.2.1.len
 generalize lumpR 65535 b.l b.e = d at yL zL ⊢
 unfold jm15 jm16 jm17 jFin
 exact ⟨by simp only;have:=gE.1.1;omega,by simp only;omega,gb.2.2.2,by simp only;omega,gE.1.2,gb.1,yL⟩

theorem putM_by {m : MG} (h : byM m) : ∀ c ∈ (putM m).1,c < 256:=by
 unfold putM
 split
 ·exact seal_by (bodyM_by h)
 ·intro c hc;cases hc
theorem open_rest {l : List Nat} {n : Nat} (h : RestOk n l) : RestOk n (openB l).1:=by
 unfold openB
 split
 ·exact ⟨fun c hc=>h.b8 c (List.mem_of_mem_take hc),by have:=h.len;simp;omega⟩
 ·exact ⟨by simp,by simp⟩
theorem msg_Read_con (l : List Nat) (hl : RestOk 1000000 l) : Con Try.prog 6 [.c (.sl (l.map brow))] [] (.tup [.agg (msgC (readM bP l).1),I (readM bP l).2]) []:=by
 have cO:=crc_Open_con l hl.b8 (by have:=hl.len;omega)
 have go:=open_rest hl
 have cP:=msg_parsed_con (openB l).1 go.b8 go.len
 have hok:=jM_ok (B:=bP) (by decide) go
 have cW:=msg_Put_con _ hok
 have hby:=putM_by hok.by'
 have cE:=bytes_Equal_con (putM (jM bP (openB l).1).1).1 l hby hl.b8
 have hrd : readM bP l = if (openB l).2 = false then (zeroM,24) else if rightM (jM bP (openB l).1).1 = true∧sealB (bodyM (jM bP (openB l).1).1) = l then ((jM bP (openB l).1).1,0) else (zeroM,20):=rfl
 generalize openB l = ob at cO cP cW cE hrd
 obtain ⟨x,is⟩:=ob
 simp only at cO cP cW cE hrd
 generalize (jM bP x).1 = m at cP cW cE hrd
 have hput : (rightM m = true∧sealB (bodyM m) = l) ↔ ((putM m).2 = 0∧(putM m).1 = l):=by
  unfold putM
  split
  ·rename_i h;simp [h]
  ·rename_i h;simp [h]
 generalize putM m = pm at cW cE hput
 obtain ⟨pb,pe⟩:=pm
 simp only at cW cE hput
 refine C_msg_Read nl nl ?_
 simp only [cz,A_msg_Read,argL,objL,List.length_nil,zX]
 refine aR 16 ?_
 refine aB 80 ?_
 refine rC [] (cO) ?_ (hs:=(by exact .inr ⟨pureTB,trivial⟩))
 refine aE ?_
 refine aR 224 ?_
 refine aw_cond _ rfl trivial (fun ht=>?_) (fun hf=>?_)
 ·skip
  try simp at ht
  simp only [zX]
  rw [hrd,if_pos ht]
  refine aR 288 ?_
  refine Fin.data [] (.inr rfl) rfl (by (exact ⟨trivial,trivial⟩)) ?_
  simp only [zL,simprocAttr]
  all_goals ((repeat' (first | exact trivial | rfl | refine ⟨?_,?_⟩)))
 try simp at hf
 simp only [zX]
 have his : is = true:=by simpa using hf
 rw [hrd,if_neg (by simp [his])]
 refine aB 368 ?_
 refine rC [] (cP) ?_ (hs:=(by exact .inr ⟨msgC_pure _,trivial⟩))
 refine aEs (fun Q hQ=>by simp (disch:=intros;contradiction) only [zS,msgC,simprocAttr];exact hQ) ?_
 refine aB 464 ?_
 refine rC [] (cW) ?_ (hs:=(by exact .inr ⟨pureTC,trivial⟩))
 refine aE ?_
 by_cases h0 : pe = 0
 ·skip
  have hb0 : (pe != 0) = false:=by rw [h0];rfl
  refine aBs 608 (fun Q hQ=>by simp (disch:=intros;contradiction) only [zS,hb0,simprocAttr];exact hQ) ?_
  refine rG _ _ (cE) ?_
  refine aE ?_
  refine aw_cond _ rfl trivial (fun ht=>?_) (fun hf=>?_)
  ·skip
   try simp at ht
   simp only [zX]
   have hno : ¬ (rightM m = true∧sealB (bodyM m) = l):=fun h=>ht (hput.1 h).2
   rw [if_neg hno]
   refine aR 768 ?_
   refine Fin.data [] (.inr rfl) rfl (by (exact ⟨trivial,trivial⟩)) ?_
   simp only [zL,simprocAttr]
   all_goals ((repeat' (first | exact trivial | rfl | refine ⟨?_,?_⟩)))
  try simp at hf
  simp only [zX]
  rw [if_pos (hput.2 ⟨h0,hf⟩)]
  refine aR 848 ?_
  refine Fin.data [] (.inr rfl) rfl (by (exact ⟨trivial,trivial⟩)) ?_
  simp only [zL,simprocAttr]
  all_goals ((repeat' (first | exact trivial | rfl | refine ⟨?_,?_⟩)))
 have hb0 : (pe != 0) = true:=by simpa using h0
 have hno : ¬ (rightM m = true∧sealB (bodyM m) = l):=fun h=>h0 (hput.1 h).1
 rw [if_neg hno]
 refine aBs 928 (fun Q hQ=>by simp (disch:=intros;contradiction) only [zS,hb0,simprocAttr];exact hQ) ?_
 refine RG.callg (res:=B true) _ _ [] rfl (fun hg=>by simp at hg) ?_
 refine aE ?_
 refine aT ?_
 refine aR 1088 ?_
 refine Fin.data [] (.inr rfl) rfl (by (exact ⟨trivial,trivial⟩)) ?_
 simp only [zL,simprocAttr]
 all_goals ((repeat' (first | exact trivial | rfl | refine ⟨?_,?_⟩)))

theorem msgT_pure (m : MG) (x : Value) : (SV.tup [.agg (msgC m),.c (.v x)]).pureD:=pureTA (msgC_pure m)

end Go.Abs

