/- What the functions that the law comes to do, part 1. No condition. -/
import Derived.Test.YtidooialknbgaaaGreatCode
set_option linter.unusedVariables false
set_option linter.unusedSimpArgs false
set_option linter.unnecessarySimpa false
namespace Go.Abs

def crcP : BitVec 32:=0x82f63b78#32
def crcS (c : BitVec 32) : BitVec 32:=(c >>> 1) ^^^ (if c.getLsbD 0 then crcP else 0#32)
theorem xor_lc (a b c : BitVec 32) : a ^^^ (b ^^^ c) = b ^^^ (a ^^^ c):=by rw [← BitVec.xor_assoc,BitVec.xor_comm a b,BitVec.xor_assoc]
theorem crcS_xor (a b : BitVec 32) : crcS (a ^^^ b) = crcS a ^^^ crcS b:=by
 unfold crcS
 rw [BitVec.ushiftRight_xor_distrib]
 have e : (a ^^^ b).getLsbD 0 = (a.getLsbD 0 ^^ b.getLsbD 0):=by simp
 rw [e]
 cases a.getLsbD 0 <;> cases b.getLsbD 0
 ·simp
 ·simp only [Bool.false_xor,if_true,Bool.false_eq_true,if_false,BitVec.xor_zero];rw [BitVec.xor_assoc]
 ·simp only [Bool.true_xor,Bool.not_false,if_true,Bool.false_eq_true,if_false,BitVec.xor_zero];rw [BitVec.xor_assoc,BitVec.xor_assoc,BitVec.xor_comm crcP]
 ·simp only [Bool.xor_self,Bool.false_eq_true,if_false,if_true,BitVec.xor_zero]
  rw [BitVec.xor_assoc,xor_lc crcP,BitVec.xor_self,BitVec.xor_zero]
theorem crcS_zero : crcS 0#32 = 0#32:=by decide
theorem crcS_inj {c : BitVec 32} (h : crcS c = 0#32) : c = 0#32:=by
 have h31 : (crcS c).getLsbD 31 = c.getLsbD 0:=by
  unfold crcS
  rw [BitVec.getLsbD_xor,BitVec.getLsbD_ushiftRight]
  have e1 : c.getLsbD (1 + 31) = false:=BitVec.getLsbD_of_ge _ _ (by decide)
  rw [e1]
  cases hc : c.getLsbD 0
  ·simp
  ·simp [crcP]
 rw [h] at h31
 have h0 : c.getLsbD 0 = false:=by rw [← h31];simp
 have h1 : c >>> 1 = 0#32:=by
  unfold crcS at h
  rw [h0] at h
  simpa using h
 apply BitVec.eq_of_getLsbD_eq
 intro i hi
 cases i with
 | zero=>rw [h0];simp
 | succ i =>
  have : (c >>> 1).getLsbD i = c.getLsbD (1 + i):=BitVec.getLsbD_ushiftRight ..
  rw [h1] at this
  rw [show i + 1 = 1 + i by omega,← this]
  simp
def crcN : Nat→BitVec 32→BitVec 32
 | 0,c=>c
 | n + 1,c=>crcN n (crcS c)
theorem crcN_inj : ∀ {n : Nat} {c : BitVec 32},crcN n c = 0#32→c = 0#32
 | 0,_,h=>h
 | _ + 1,_,h=>crcS_inj (crcN_inj h)
theorem crcN_xor : ∀ (n : Nat) (a b : BitVec 32),crcN n (a ^^^ b) = crcN n a ^^^ crcN n b
 | 0,_,_=>rfl
 | n + 1,a,b=>by
  show crcN n (crcS (a ^^^ b)) = crcN n (crcS a) ^^^ crcN n (crcS b)
  rw [crcS_xor,crcN_xor n]
theorem crcN_zero : ∀ n : Nat,crcN n 0#32 = 0#32
 | 0=>rfl
 | n + 1=>by show crcN n (crcS 0#32) = _;rw [crcS_zero,crcN_zero n]
def bit1 (e : Bool) : BitVec 32:=if e then 1#32 else 0#32
def crcF : BitVec 32→List Bool→BitVec 32
 | c,[]=>c
 | c,e :: l=>crcF (crcS (c ^^^ bit1 e)) l
theorem crcF_app : ∀ (a b : List Bool) (c : BitVec 32),crcF c (a ++ b) = crcF (crcF c a) b
 | [],_,_=>rfl
 | e :: a,b,c=>crcF_app a b (crcS (c ^^^ bit1 e))
theorem bit1_xor (a b : Bool) : bit1 a ^^^ bit1 b = bit1 (a ^^ b):=by cases a <;> cases b <;> decide
theorem crcF_xor : ∀ (a b : List Bool) (c d : BitVec 32),a.length = b.length→crcF c a ^^^ crcF d b = crcF (c ^^^ d) (List.zipWith xor a b)
 | [],[],_,_,_=>rfl
 | x :: a,y :: b,c,d,h=>by
  have ih:=crcF_xor a b (crcS (c ^^^ bit1 x)) (crcS (d ^^^ bit1 y)) (by simpa using h)
  show crcF (crcS (c ^^^ bit1 x)) a ^^^ crcF (crcS (d ^^^ bit1 y)) b = crcF (crcS ((c ^^^ d) ^^^ bit1 (x ^^ y))) (List.zipWith xor a b)
  rw [ih,← crcS_xor,← bit1_xor]
  congr 2
  rw [BitVec.xor_assoc,BitVec.xor_assoc,xor_lc (bit1 x)]
 | [],_ :: _,_,_,h=>by simp at h
 | _ :: _,[],_,_,h=>by simp at h
theorem crcF_none : ∀ (n : Nat) (c : BitVec 32),crcF c (List.replicate n false) = crcN n c
 | 0,_=>rfl
 | n + 1,c=>by
  show crcF (crcS (c ^^^ bit1 false)) (List.replicate n false) = crcN n (crcS c)
  rw [crcF_none n]
  simp [bit1]
def bitW : List Bool→BitVec 32
 | []=>0#32
 | e :: l=>bit1 e ^^^ (bitW l <<< 1)
theorem bitW_hi : ∀ (l : List Bool) (i : Nat),l.length≤i→(bitW l).getLsbD i = false
 | [],_,_=>by simp [bitW]
 | e :: l,i,h=>by
  have hi : 0 < i:=by simp at h;omega
  unfold bitW
  rw [BitVec.getLsbD_xor,BitVec.getLsbD_shiftLeft]
  have ih:=bitW_hi l (i - 1) (by simp at h;omega)
  have e1 : (bit1 e).getLsbD i = false:=by
   cases e
   ·simp [bit1]
   ·simp only [bit1,if_true]
    rw [BitVec.getLsbD_one]
    simp;omega
  rw [e1,ih]
  simp
theorem crcS_shl {w : BitVec 32} (h : w.getLsbD 31 = false) : crcS (w <<< 1) = w:=by
 unfold crcS
 have h0 : (w <<< 1).getLsbD 0 = false:=by simp
 rw [h0]
 apply BitVec.eq_of_getLsbD_eq
 intro i hi
 simp only [Bool.false_eq_true,if_false,BitVec.xor_zero]
 rw [BitVec.getLsbD_ushiftRight,BitVec.getLsbD_shiftLeft]
 by_cases h31 : i = 31
 ·subst h31;rw [h];simp
 ·have : 1 + i < 32:=by omega
  simp [this]
theorem crcF_word : ∀ (l : List Bool) (c : BitVec 32),l.length≤32→crcF c l = crcN l.length (c ^^^ bitW l)
 | [],c,_=>by simp [crcF,crcN,bitW]
 | e :: l,c,h=>by
  have hl : l.length≤31:=by simpa using h
  show crcF (crcS (c ^^^ bit1 e)) l = crcN l.length (crcS (c ^^^ (bit1 e ^^^ (bitW l <<< 1))))
  rw [crcF_word l _ (by omega),← BitVec.xor_assoc,crcS_xor (c ^^^ bit1 e),crcS_shl (bitW_hi l 31 hl)]
theorem bitW_ne : ∀ {l : List Bool},l.length≤32→true ∈ l→bitW l≠0#32
 | e :: l,h,ht=>by
  have hl : l.length≤31:=by simpa using h
  intro h0
  unfold bitW at h0
  cases e with
  | true =>
   have:=congrArg (fun w=>BitVec.getLsbD w 0) h0
   simp [bit1] at this
  | false =>
   have hm : true ∈ l:=by simpa using ht
   refine bitW_ne (by omega) hm ?_
   have h1 : bitW l <<< 1 = 0#32:=by simpa [bit1] using h0
   rw [← crcS_shl (bitW_hi l 31 hl),h1,crcS_zero]
theorem crc_burst {p q : Nat} {m : List Bool} (h : m.length≤32) (hm : true ∈ m) : crcF 0#32 (List.replicate p false ++ m ++ List.replicate q false)≠0#32:=by
 rw [crcF_app,crcF_app,crcF_none p,crcN_zero,crcF_none,crcF_word m _ h]
 intro h0
 have:=crcN_inj (crcN_inj h0)
 rw [BitVec.zero_xor] at this
 exact bitW_ne h hm this
theorem crc_turned {a b : List Bool} {c : BitVec 32} {p q : Nat} {m : List Bool} (hl : a.length = b.length) (h : m.length≤32) (hm : true ∈ m) (hx : List.zipWith xor a b = List.replicate p false ++ m ++ List.replicate q false) : crcF c a≠crcF c b:=by
 intro h0
 have h1:=crcF_xor a b c c hl
 rw [h0,BitVec.xor_self,BitVec.xor_self,hx] at h1
 exact crc_burst h hm h1.symm

end Go.Abs

namespace Go.Abs
open Go
theorem wrap_u32' (n : Int) : IntKind.u32.wrap n = n % 4294967296:=by rw [IntKind.wrap_u32]
theorem u32_wrap (a : BitVec 32) : IntKind.u32.wrap (a.toNat : Int) = a.toNat:=by
 have:=a.isLt
 rw [wrap_u32'];omega
theorem ofInt_nat (a : BitVec 32) : BitVec.ofInt 32 (a.toNat : Int) = a:=by
 apply BitVec.eq_of_toNat_eq
 rw [BitVec.toNat_ofInt]
 have:=a.isLt
 omega
theorem bits_xor (a b : BitVec 32) : bitsI .xor .u32 (a.toNat : Int) (b.toNat : Int) = ((a ^^^ b).toNat : Int):=by
 show IntKind.u32.wrap ((BitVec.ofInt 32 (a.toNat : Int) ^^^ BitVec.ofInt 32 (b.toNat : Int)).toNat) = _
 rw [ofInt_nat,ofInt_nat,u32_wrap]
theorem bits_one (a : BitVec 32) : bitsI .and .u32 (a.toNat : Int) 1 = if a.getLsbD 0 then 1 else 0:=by
 show IntKind.u32.wrap ((BitVec.ofInt 32 (a.toNat : Int) &&& BitVec.ofInt 32 1).toNat) = _
 rw [ofInt_nat,u32_wrap,BitVec.toNat_and]
 have e : (BitVec.ofInt 32 1).toNat = 1:=by decide
 rw [e,Nat.and_one_is_mod,show a.getLsbD 0 = a.toNat.testBit 0 from rfl,Nat.testBit_zero]
 split
 ·rename_i h;simp at h;omega
 ·rename_i h;simp at h;omega
theorem bits_not (a : BitVec 32) : bitsI .xor .u32 4294967295 (a.toNat : Int) = ((~~~a).toNat : Int):=by
 show IntKind.u32.wrap ((BitVec.ofInt 32 4294967295 ^^^ BitVec.ofInt 32 (a.toNat : Int)).toNat) = _
 rw [ofInt_nat,u32_wrap]
 have e : BitVec.ofInt 32 4294967295 = BitVec.allOnes 32:=by decide
 rw [e,BitVec.xor_comm,BitVec.xor_allOnes]
theorem crc_round (c : BitVec 32) : bitsI .xor .u32 ((c.toNat : Int) / 2) (IntKind.u32.wrap (2197175160 * bitsI .and .u32 (c.toNat : Int) 1)) = ((crcS c).toNat : Int):=by
 have e1 : ((c.toNat : Int) / (2 : Int)) = ((c >>> 1).toNat : Int):=by
  rw [BitVec.toNat_ushiftRight,Nat.shiftRight_eq_div_pow];omega
 have e2 : IntKind.u32.wrap (2197175160 * bitsI .and .u32 (c.toNat : Int) 1) = ((if c.getLsbD 0 then crcP else 0#32 : BitVec 32).toNat : Int):=by
  rw [bits_one,wrap_u32']
  split <;> simp [crcP]
 rw [e1,e2,bits_xor]
 rfl
def crcY (c : BitVec 32) (x : Nat) : BitVec 32:=crcN 8 (c ^^^ BitVec.ofNat 32 x)
def crcB (c : BitVec 32) (l : List Nat) : BitVec 32:=l.foldl crcY c
theorem byte_xor (c : BitVec 32) {x : Nat} (hx : x < 256) : bitsI .xor .u32 (c.toNat : Int) (x : Int) = ((c ^^^ BitVec.ofNat 32 x).toNat : Int):=by
 have e : (x : Int) = ((BitVec.ofNat 32 x).toNat : Int):=by rw [BitVec.toNat_ofNat];omega
 rw [e,bits_xor]
def bitsB (x : Nat) : List Bool:=(List.range 8).map x.testBit
theorem bitW_byte {x : Nat} (hx : x < 256) : bitW (bitsB x) = BitVec.ofNat 32 x:=by
 have h : ∀ y : Fin 256,bitW (bitsB y.1) = BitVec.ofNat 32 y.1:=by decide +kernel
 exact h ⟨x,hx⟩
theorem crcY_bits (c : BitVec 32) {x : Nat} (hx : x < 256) : crcY c x = crcF c (bitsB x):=by
 rw [crcF_word (bitsB x) c (by simp [bitsB]),bitW_byte hx]
 simp [bitsB,crcY]
theorem crcB_bits : ∀ (l : List Nat) (c : BitVec 32),(∀ x ∈ l,x < 256)→crcB c l = crcF c (l.flatMap bitsB)
 | [],_,_=>rfl
 | x :: l,c,h=>by
  show crcB (crcY c x) l = _
  rw [crcB_bits l _ fun y hy=>h y (by simp [hy]),crcY_bits c (h x (by simp)),List.flatMap_cons,crcF_app]
def crcM (c : BitVec 32) (l : List Nat) : BitVec 32:=(~~~crcB (~~~c) l)
end Go.Abs

namespace Go.Abs
open Go
theorem bitsB_len (x : Nat) : (bitsB x).length = 8:=by simp [bitsB]
theorem bits_len : ∀ l : List Nat,(l.flatMap bitsB).length = 8 * l.length
 | []=>rfl
 | x :: l=>by rw [List.flatMap_cons,List.length_append,bitsB_len,bits_len l,List.length_cons];omega
theorem bitsB_flip {x j : Nat} (hj : j < 8) : bitsB (x ^^^ (1 <<< j)) = (bitsB x).set j (!(x.testBit j)):=by
 apply List.ext_getElem
 ·simp [bitsB]
 ·intro i h1 h2
  have hi : i < 8:=by simpa [bitsB] using h1
  rw [List.getElem_set]
  simp only [bitsB,List.getElem_map,List.getElem_range,Nat.testBit_xor,Nat.one_shiftLeft,Nat.testBit_two_pow]
  by_cases h : j = i
  ·subst h;simp
  ·simp [h]
theorem bits_flip : ∀ (l : List Nat) (b : Nat) (hb : b / 8 < l.length),(l.set (b / 8) (l[b / 8] ^^^ (1 <<< (b % 8)))).flatMap bitsB = (l.flatMap bitsB).set b (!((l.flatMap bitsB)[b]'(by rw [bits_len];omega)))
 | [],b,hb=>by simp at hb
 | x :: l,b,hb=>by
  by_cases h : b < 8
  ·have e : b / 8 = 0:=by omega
   have e2 : b % 8 = b:=by omega
   simp only [e,e2,List.set_cons_zero,List.getElem_cons_zero,List.flatMap_cons]
   rw [bitsB_flip h,List.set_append_left _ _ (by rw [bitsB_len];exact h),List.getElem_append_left (by rw [bitsB_len];exact h)]
   congr 2
   simp [bitsB]
  ·obtain ⟨c,rfl⟩ : ∃ c,b = c + 8:=⟨b - 8,by omega⟩
   have e : (c + 8) / 8 = c / 8 + 1:=by omega
   have e2 : (c + 8) % 8 = c % 8:=by omega
   have hc : c / 8 < l.length:=by rw [e] at hb;simpa using hb
   have ih:=bits_flip l c hc
   simp only [e,e2,List.set_cons_succ,List.getElem_cons_succ,List.flatMap_cons]
   rw [ih,List.set_append_right _ _ (by rw [bitsB_len];omega),List.getElem_append_right (by rw [bitsB_len];omega)]
   simp only [bitsB_len,Nat.add_sub_cancel]
theorem xor_set {A B : List Bool} (hl : A.length = B.length) {i : Nat} (hi : i < B.length) : List.zipWith xor A (B.set i (!B[i])) = (List.zipWith xor A B).set i (!((List.zipWith xor A B)[i]'(by simp;omega))):=by
 apply List.ext_getElem
 ·simp
 ·intro k h1 h2
  rw [List.getElem_set]
  simp only [List.getElem_zipWith,List.getElem_set]
  by_cases h : i = k
  ·subst h;simp
  ·simp [h]
theorem win_flip (s r : Nat) (m : List Bool) : (List.replicate s false ++ m ++ List.replicate (r + 1) false).set (s + m.length) true = List.replicate s false ++ (m ++ [true]) ++ List.replicate r false:=by
 rw [List.set_append_right _ _ (by simp)]
 simp [List.replicate_succ]
theorem win_keep (s r : Nat) (m : List Bool) : List.replicate s false ++ m ++ List.replicate (r + 1) false = List.replicate s false ++ (m ++ [false]) ++ List.replicate r false:=by
 simp [List.replicate_succ]
theorem win_at (s r : Nat) (m : List Bool) (h : s + m.length < (List.replicate s false ++ m ++ List.replicate (r + 1) false).length) : (List.replicate s false ++ m ++ List.replicate (r + 1) false)[s + m.length] = false:=by
 rw [List.getElem_append_right (by simp)]
 simp
theorem xor_self_none (A : List Bool) : List.zipWith xor A A = List.replicate A.length false:=by
 induction A with
 | nil=>rfl
 | cons a A ih=>rw [List.zipWith_cons_cons,ih,Bool.xor_self,List.length_cons,List.replicate_succ]
theorem crcM_turned {a b : List Nat} {c : BitVec 32} (ha : ∀ x ∈ a,x < 256) (hb : ∀ x ∈ b,x < 256) (hl : a.length = b.length) {p q : Nat} {m : List Bool} (h : m.length≤32) (hm : true ∈ m)
  (hx : List.zipWith xor (a.flatMap bitsB) (b.flatMap bitsB) = List.replicate p false ++ m ++ List.replicate q false) : crcM c a≠crcM c b:=by
 intro h0
 unfold crcM at h0
 have h1 : crcB (~~~c) a = crcB (~~~c) b:=by
  have:=congrArg (fun w=>~~~w) h0
  simpa using this
 rw [crcB_bits a _ ha,crcB_bits b _ hb] at h1
 exact crc_turned (by rw [bits_len,bits_len,hl]) h hm hx h1

end Go.Abs

namespace Go.Abs
open Go
theorem crcS_even {w : BitVec 32} (h : w.getLsbD 0 = false) : crcS w = w >>> 1:=by
 unfold crcS
 rw [h]
 simp
theorem crcN_shr : ∀ (n : Nat) (w : BitVec 32),(∀ i,i < n→w.getLsbD i = false)→crcN n w = w >>> n
 | 0,w,_=>by simp [crcN]
 | n + 1,w,h=>by
  show crcN n (crcS w) = _
  rw [crcS_even (h 0 (by omega)),crcN_shr n _ fun i hi=>?_]
  ·apply BitVec.eq_of_getLsbD_eq
   intro i hi
   rw [BitVec.getLsbD_ushiftRight,BitVec.getLsbD_ushiftRight,BitVec.getLsbD_ushiftRight]
   congr 1;omega
  ·rw [BitVec.getLsbD_ushiftRight];exact h (1 + i) (by omega)
theorem low_high (c : BitVec 32) : c = (c &&& 255#32) ^^^ ((c >>> 8) <<< 8):=by
 apply BitVec.eq_of_getLsbD_eq
 intro i hi
 rw [BitVec.getLsbD_xor,BitVec.getLsbD_and,BitVec.getLsbD_shiftLeft,BitVec.getLsbD_ushiftRight]
 have h255 : (255#32).getLsbD i = decide (i < 8):=by
  have h : ∀ k : Fin 32,(255#32).getLsbD k.1 = decide (k.1 < 8):=by decide
  exact h ⟨i,hi⟩
 rw [h255]
 by_cases h : i < 8
 ·simp [h]
 ·have e8 : 8 + (i - 8) = i:=by omega
  simp only [h,decide_false,Bool.and_false,Bool.false_xor,hi,decide_true,Bool.not_false,Bool.true_and,e8]
theorem crc_row (c : BitVec 32) (x : BitVec 32) : crcN 8 (c ^^^ x) = crcN 8 ((c &&& 255#32) ^^^ x) ^^^ (c >>> 8):=by
 have e : c ^^^ x = ((c &&& 255#32) ^^^ x) ^^^ ((c >>> 8) <<< 8):=by
  have h1 : c ^^^ x = ((c &&& 255#32) ^^^ ((c >>> 8) <<< 8)) ^^^ x:=by rw [← low_high c]
  rw [h1,BitVec.xor_assoc,BitVec.xor_comm _ x,← BitVec.xor_assoc]
 have e2 : crcN 8 ((c >>> 8) <<< 8) = c >>> 8:=by
  rw [crcN_shr 8 _ fun i hi=>by rw [BitVec.getLsbD_shiftLeft];simp [hi]]
  apply BitVec.eq_of_getLsbD_eq
  intro i hi
  rw [BitVec.getLsbD_ushiftRight,BitVec.getLsbD_shiftLeft]
  by_cases h : 8 + i < 32
  ·simp [h]
  ·have : (c >>> 8).getLsbD i = false:=by rw [BitVec.getLsbD_ushiftRight];exact BitVec.getLsbD_of_ge _ _ (by omega)
   simp [h,this]
 rw [e,crcN_xor,e2]
def fourB (c : BitVec 32) : List Nat:=[c.toNat % 256,c.toNat / 256 % 256,c.toNat / 65536 % 256,c.toNat / 16777216 % 256]
theorem fourB_len (c : BitVec 32) : (fourB c).length = 4:=rfl
theorem fourB_by (c : BitVec 32) : ∀ x ∈ fourB c,x < 256:=by
 intro x hx
 simp only [fourB,List.mem_cons,List.not_mem_nil,or_false] at hx
 rcases hx with rfl | rfl | rfl | rfl <;> omega
theorem fourB_inj {a b : BitVec 32} (h : fourB a = fourB b) : a = b:=by
 simp only [fourB,List.cons.injEq,and_true] at h
 apply BitVec.eq_of_toNat_eq
 have:=a.isLt
 have:=b.isLt
 omega
def sealB (l : List Nat) : List Nat:=l ++ fourB (crcM 0#32 l)
def openB (l : List Nat) : List Nat × Bool:=if 4≤l.length∧l.drop (l.length - 4) = fourB (crcM 0#32 (l.take (l.length - 4))) then (l.take (l.length - 4),true) else ([],false)
theorem open_seal (l : List Nat) : openB (sealB l) = (l,true):=by
 have h1 : (sealB l).length = l.length + 4:=by simp [sealB,fourB_len]
 have h2 : (sealB l).take ((sealB l).length - 4) = l:=by rw [h1];simp [sealB]
 have h3 : (sealB l).drop ((sealB l).length - 4) = fourB (crcM 0#32 l):=by rw [h1];simp [sealB]
 unfold openB
 rw [h2,h3,if_pos ⟨by omega,rfl⟩]
theorem seal_by {l : List Nat} (h : ∀ x ∈ l,x < 256) : ∀ x ∈ sealB l,x < 256:=by
 intro x hx
 rcases List.mem_append.1 hx with hx | hx
 ·exact h x hx
 ·exact fourB_by _ x hx
theorem open_turned {l b : List Nat} (h8 : ∀ x ∈ l,x < 256) (hb8 : ∀ x ∈ b,x < 256) (hl : l.length = b.length) {p q : Nat} {m : List Bool} (h : m.length≤32) (hm : true ∈ m)
  (hx : List.zipWith xor (l.flatMap bitsB) (b.flatMap bitsB) = List.replicate p false ++ m ++ List.replicate q false) : openB (b ++ fourB (crcM 0#32 l)) = ([],false):=by
 have h1 : (b ++ fourB (crcM 0#32 l)).length = b.length + 4:=by simp [fourB_len]
 have h2 : (b ++ fourB (crcM 0#32 l)).take ((b ++ fourB (crcM 0#32 l)).length - 4) = b:=by rw [h1];simp
 have h3 : (b ++ fourB (crcM 0#32 l)).drop ((b ++ fourB (crcM 0#32 l)).length - 4) = fourB (crcM 0#32 l):=by rw [h1];simp
 unfold openB
 rw [h2,h3,if_neg]
 rintro ⟨_,h4⟩
 exact crcM_turned h8 hb8 hl h hm hx (fourB_inj h4)

-- the law's own turning of a bit
theorem byte_flip {x j : Nat} (hx : x < 256) (hj : j < 8) : bitsI .xor .u8 (x : Int) (((1 <<< j : Nat)) : Int) = ((x ^^^ (1 <<< j) : Nat) : Int)∧x ^^^ (1 <<< j) < 256:=by
 have h2 : x ^^^ (1 <<< j) < 2 ^ 8:=Nat.xor_lt_two_pow (by omega) (by rw [Nat.one_shiftLeft];exact Nat.pow_lt_pow_right (by omega) hj)
 refine ⟨?_,by omega⟩
 show IntKind.u8.wrap ((BitVec.ofInt 8 (x : Int) ^^^ BitVec.ofInt 8 ((1 <<< j : Nat) : Int)).toNat) = _
 have e1 : ∀ n : Nat,n < 256→BitVec.ofInt 8 (n : Int) = BitVec.ofNat 8 n:=fun n hn=>by
  apply BitVec.eq_of_toNat_eq
  rw [BitVec.toNat_ofInt,BitVec.toNat_ofNat];omega
 have hs : 1 <<< j < 256:=by rw [Nat.one_shiftLeft];exact Nat.pow_lt_pow_right (by omega) hj
 rw [e1 x hx,e1 _ hs,BitVec.toNat_xor,BitVec.toNat_ofNat,BitVec.toNat_ofNat,Nat.mod_eq_of_lt (by omega),Nat.mod_eq_of_lt (by omega),IntKind.wrap_u8]
 omega
end Go.Abs

namespace Go.Abs
open Go Go.Proofs
set_option maxRecDepth 100000
set_option linter.unusedSimpArgs false
set_option maxHeartbeats 8000000
theorem pack_Put_con (l : List Nat) (hb : l.length * 10≤140737488355328) (hl : ∀ n ∈ l,n < 18446744073709551616) : Con Tryz.prog 23 [.c (.sl (l.map urow))] [] (.c (.osl 0)) [.arr 5 1 ((putS l).map brow) false]:=by
 refine C_pack_Put nl nl ?_
 simp only [cz,A_pack_Put,argL,objL,List.length_nil,zX]
 refine aR 16 ?_
 refine aR 160 ?_
 refine aR 320 ?_
 refine aw_loop (X:={ i : Nat // i≤l.length }) (fun i=>mkSt [(3,.c (.osl 1000)),(6,.c (.sl (l.map urow))),(7,I l.length),(8,I i.1)] [(1000,.arr 5 1 ((putS (l.take i.1)).map brow) false)]) (fun i=>l.length - i.1) ⟨0,Nat.zero_le _⟩ ?_ ?_
 ·refine (Le.own 3 1000 5 1 rfl rfl (by decide)).trans (Le.lit [] [] _ _ ?_ ?_ ?_ ?_)
  ·skip
   simp only [zL,simprocAttr]
   simp
  ·skip
   simp only [zL,simprocAttr]
   simp [putS]
  ·simp
  ·simp
 rintro ⟨i,hi⟩
 simp only [zX]
 refine aR 480 ?_
 refine aw_cond _ rfl trivial (fun ht=>?_) (fun hf=>?_)
 rotate_left
 ·skip
  simp only [zX,↓reduceIte]
  refine aR 640 ?_
  have hi' : i = l.length:=by simp at hf;omega
  subst hi'
  refine Fin.objs [] [(0,1000)] (.inr rfl) rfl trivial ?_ ?_ ?_ ?_
  ·skip
   simp only [zL,simprocAttr]
  ·skip
   simp only [zL,simprocAttr]
   simp [brow,C.isD]
  ·simp [objL]
  ·simp
 have hi' : i < l.length:=by simpa using ht
 have hr : (List.map urow l)[(i : Int).toNat]?.getD [] = [.v (.int .u64 l[i])]:=by simp [hi',urow]
 simp only [zX]
 refine aw_reg 640 (RG.go fun Q hQ=>?_)
 simp only [zS,hr,simprocAttr]
 refine ⟨by simp;omega,hQ (RG.nil ?_)⟩
 simp only [zX]
 refine aw_loop (X:={ p : Nat × List Nat // p.2 ++ num7 p.1 = putS (l.take i) ++ num7 l[i]∧p.1 < 18446744073709551616 }) (fun p=>mkSt [(3,.c (.osl 1000)),(5,.c (.v (.int .u64 p.1.1))),(6,.c (.sl (l.map urow))),(7,I l.length),(8,I i)] [(1000,.arr 5 1 (p.1.2.map brow) false)]) (fun p=>p.1.1) ⟨(l[i],putS (l.take i)),rfl,hl _ (List.getElem_mem hi')⟩ ?_ ?_
 ·refine Le.lit [] [] _ _ ?_ ?_ ?_ ?_
  ·skip
   simp only [zL,simprocAttr]
  ·skip
   simp only [zL,simprocAttr]
   simp [brow,C.isD]
  ·simp
  ·simp
 rintro ⟨⟨n,acc⟩,hp,hn⟩
 simp only [zX]
 refine aR 800 ?_
 refine aw_cond _ rfl trivial (fun ht=>?_) (fun hf=>?_)
 ·have hn' : 128≤n:=by simp at ht;omega
  have hlen : acc.length + (num7 n).length≤l.length * 10:=by
   have h0:=putS_len (l.take (i + 1)) fun m hm=>hl m (List.mem_of_mem_take hm)
   rw [putS_take l i hi',← hp] at h0
   simp at h0
   omega
  have hpos:=num7_pos n
  simp only [zX]
  refine aw_reg 1200 (RG.go fun Q hQ=>?_)
  simp only [zS,simprocAttr]
  refine ⟨⟨by simp,by simp;omega⟩,hQ (RG.nil ?_)⟩
  simp only [zX]
  refine aR 1400 ?_
  refine ⟨⟨(n / 128,acc ++ [n % 128 + 128]),?_,by simp only;omega⟩,?_,by simp only;omega⟩
  ·have h7 : num7 n = (n % 128 + 128) :: num7 (n / 128):=by rw [num7,if_neg (by omega)]
   rw [← hp,h7]
   simp
  refine Le.lit [] [(1000,1280)] _ _ ?_ ?_ ?_ ?_
  ·skip
   simp only [zL,simprocAttr]
   rw [shr7]
  ·skip
   simp only [zL,simprocAttr]
   refine ⟨by simp [or128,brow],drows_brow _⟩
  ·simp
  ·simp
 have hn' : n < 128:=by simp at hf;omega
 have hlen : acc.length + (num7 n).length≤l.length * 10:=by
  have h0:=putS_len (l.take (i + 1)) fun m hm=>hl m (List.mem_of_mem_take hm)
  rw [putS_take l i hi',← hp] at h0
  simp at h0
  omega
 have hpos:=num7_pos n
 simp only [zX,↓reduceIte]
 refine aw_reg 1200 (RG.go fun Q hQ=>?_)
 simp only [zS,simprocAttr]
 refine ⟨⟨by simp,by simp;omega⟩,hQ (RG.nil ?_)⟩
 simp only [zX]
 refine aR 1400 ?_
 refine ⟨⟨i + 1,hi'⟩,?_,by simp;omega⟩
 refine Le.lit [] [(1000,1264)] _ _ ?_ ?_ ?_ ?_
 ·skip
  simp only [zL,simprocAttr]
  rw [w64 _ (by omega) (by omega)];rfl
 ·skip
  simp only [zL,simprocAttr]
  refine ⟨?_,drows_brow _⟩
  rw [putS_take l i hi',← hp,num7,if_pos hn',u8wrap n hn']
  simp [brow]
 ·simp
 ·simp

theorem slices_Clone_byte_byte_con (rows : List (List C)) (hd : isDRows rows) (h1 : ∀ r ∈ rows,r.length = 1) (hb : rows.length≤140737488355328) : Con Tryz.prog 93 [.c (.sl rows)] [] (.c (.osl 0)) [.arr 5 1 rows false]:=by
 by_cases hr : rows = []
 ·subst hr
  refine Con.split1 ?_ fun ad cap=>?_
  ·skip
   refine C_slices_Clone_byte_byte nl nl ?_
   simp only [cz,A_slices_Clone_byte_byte,argL,objL,List.length_nil,zX]
   refine aR 16 ?_
   refine aR 160 ?_
   refine aT ?_
   refine aR 320 ?_
   exact Fin.ownNil (.inr rfl) rfl trivial (by decide)
  ·skip
   refine C_slices_Clone_byte_byte nl nl ?_
   simp only [cz,A_slices_Clone_byte_byte,argL,objL,List.length_nil,zX]
   refine aR 16 ?_
   refine aR 160 ?_
   refine aF ?_
   refine aw_reg 320 (RG.go fun Q hQ=>?_)
   simp only [zS,simprocAttr]
   refine ⟨by simp,hQ (RG.nil ?_)⟩
   simp only [zX]
   refine Fin.objs [] [(0,352)] (.inr rfl) rfl trivial ?_ ?_ ?_ ?_
   ·skip
    simp only [zL,simprocAttr]
   ·skip
    simp only [zL,simprocAttr]
    simp
   ·simp [objL]
   ·simp
 ·skip
  refine C_slices_Clone_byte_byte nl nl ?_
  simp only [cz,A_slices_Clone_byte_byte,argL,objL,List.length_nil,zX]
  refine aR 16 ?_
  refine aw_reg 160 (RG.go fun Q hQ=>?_)
  simp only [zS,simprocAttr]
  refine ⟨hr,hQ (RG.nil ?_)⟩
  simp only [zX]
  refine aF ?_
  refine aw_reg 320 (RG.go fun Q hQ=>?_)
  simp only [zS,simprocAttr]
  refine ⟨⟨h1,by omega⟩,hQ (RG.nil ?_)⟩
  simp only [zX]
  refine Fin.objs [] [(0,352)] (.inr rfl) rfl trivial ?_ ?_ ?_ ?_
  ·skip
   simp only [zL,simprocAttr]
  ·skip
   simp only [zL,simprocAttr]
   exact hd
  ·simp [objL]
  ·simp


theorem pack_rest_Err_con (rows : List (List C)) (e : Int) : Con Tryz.prog 96 [.c (.bp 0 0)] [.box [.sl rows,.v (.int .i64 e)]] (I e) [.box [.sl rows,.v (.int .i64 e)]]:=by
 refine C_pack_rest_Err nl nl ?_
 simp only [cz,A_pack_rest_Err,argL,objL,List.length_nil,List.length_cons,Nat.zero_add,zX]
 refine aR 16 ?_
 refine aR 160 ?_
 refine Fin.objs [] [] (.inr rfl) rfl (by exact trivial) ?_ ?_ (by simp [objL,rlook]) (by (simp [objL,rlook];done))
 ·simp only [zL,simprocAttr]
 ·simp only [zL,↓reduceIte]

theorem pack_rest_fail_con (rows : List (List C)) (e x : Int) : Con Tryz.prog 95 [.c (.bp 0 0),I x] [.box [.sl rows,.v (.int .i64 e)]] (.tup []) [.box [.sl [],.v (.int .i64 x)]]:=by
 refine C_pack_rest_fail nl nl ?_
 simp only [cz,A_pack_rest_fail,argL,objL,List.length_nil,List.length_cons,Nat.zero_add]
 refine aw_reg 16 (RG.go fun Q hQ=>?_)
 simp only [zS,simprocAttr]
 refine hQ (RG.nil ?_)
 refine Fin.objs [] [] (.inl rfl) rfl trivial ?_ ?_ (by simp [objL,rlook]) (by simp [objL,rlook])
 ·skip
  simp only [zL]
 ·skip
  simp only [zL,↓reduceIte]

theorem pack_Lump_con (l : List Nat) (hb : l.length≤100000000000000) : Con Tryz.prog 29 [.c (.sl (l.map brow))] [] (.c (.osl 0)) [.arr 5 1 ((num7 l.length ++ l).map brow) false]:=by
 have hw : IntKind.u64.wrap ((l.map brow).length : Int) = (l.length : Int):=by rw [w_u64,List.length_map];omega
 have hl:=num7_len l.length (by omega)
 refine C_pack_Lump nl nl ?_
 simp only [cz,A_pack_Lump,argL,objL,List.length_nil,zX]
 refine aR 16 ?_
 refine aBs 160 (fun Q hQ=>by simp only [zS,hw,simprocAttr];exact hQ) ?_
 refine RG.callo [] [208] (pack_Put_con [l.length] (by simp) (by simp;omega)) (.mk (tr_cons (tr_view (by simp) rfl (by simp [isDRows,urow,C.isD])) tr_nil) (trivial) (by simp) (by simp) (views1 rfl trivial) (by simp [lkE_cons,lkE_nil]) (by simp only [List.mem_singleton,forall_eq,Ent.pure];exact drows_brow _) (by simp) (by simp)) ?_
 refine RG.go fun Q hQ=>?_
 simp only [zS,simprocAttr]
 have hp : putS [l.length] = num7 l.length:=by simp [putS]
 refine ⟨⟨by simp [brow],by simp [hp];omega⟩,hQ (RG.nil ?_)⟩
 simp only [zX]
 refine Fin.objs [] [(0,256)] (.inr rfl) rfl (by exact trivial) ?_ ?_ (by simp [objL,rlook]) (by (simp [objL,rlook];done))
 ·simp only [zL,simprocAttr]
 ·simp only [zL,simprocAttr]
  all_goals (exact ⟨by rw [hp,List.map_append],drows_brow _⟩)

theorem pack_New_con (rows : List (List C)) (hd : isDRows rows) (h1 : ∀ r ∈ rows,r.length = 1) (hb : rows.length≤140737488355328) : Con Tryz.prog 75 [.c (.sl rows)] [] (.c (.bp 0 0)) [.box [.sl rows,.v (.int .i64 0)]]:=by
 refine C_pack_New nl nl ?_
 simp only [cz,A_pack_New,argL,objL,List.length_nil,zX]
 refine aR 16 ?_
 refine aB 160 ?_
 refine rO [] [] (slices_Clone_byte_byte_con rows hd h1 hb) ?_
 refine aE ?_
 refine Fin.objs [176] [(0,224)] (.inr rfl) rfl (by exact trivial) ?_ ?_ (by simp [objL,rlook]) (by (simp [objL,rlook];done))
 ·simp only [zL,simprocAttr]
 ·simp only [zL,simprocAttr]
  all_goals (exact ⟨⟨_,_,rfl⟩,hd⟩)

def rdN (i acc : Nat) : List Nat→Nat × Nat × Nat
 | []=>(0,0,21)
 | c :: r=>if i = 9∧1 < c then (0,0,20) else
  if 128≤c then rdN (i + 1) (acc + c % 128 * 128 ^ i) r
  else if 0 < i∧c = 0 then (0,0,20) else (acc + c % 128 * 128 ^ i,i + 1,0)

theorem and128 (c : Nat) (h : c < 256) : bitsI .and .u8 c 128 = if 128≤c then 128 else 0:=by
 have h1 : ∀ k : Fin 256,bitsI .and .u8 (k.val : Int) 128 = if 128≤k.val then 128 else 0:=by decide
 exact h1 ⟨c,h⟩

theorem andNot128 (c : Nat) (h : c < 256) : bitsI .andNot .u8 c 128 = ((c % 128 : Nat) : Int):=by
 have h1 : ∀ k : Fin 256,bitsI .andNot .u8 (k.val : Int) 128 = ((k.val % 128 : Nat) : Int):=by decide
 exact h1 ⟨c,h⟩

theorem orNum (i acc c : Nat) (hi : i≤9) (hacc : acc < 128 ^ i) (hc : c < 256) (h9 : i = 9→c≤1) :
  bitsI .or .u64 acc (IntKind.u64.wrap (IntKind.u64.wrap (bitsI .andNot .u8 c 128) * 2 ^ min (IntKind.i64.wrap (7 * i)).toNat IntKind.u64.bits)) = ((acc + c % 128 * 128 ^ i : Nat) : Int):=by
 have e1 : min (IntKind.i64.wrap (7 * (i : Int))).toNat IntKind.u64.bits = 7 * i:=by
  rw [w64 _ (by omega) (by omega)]
  have : IntKind.u64.bits = 64:=rfl
  omega
 have e3 : (128 : Nat) ^ i = 2 ^ (7 * i):=by rw [Nat.pow_mul]
 have hb : c % 128 * 128 ^ i < 9223372036854775808 * 2:=by
  rcases Nat.lt_or_ge i 9 with h | h
  ·have h1 : 128 ^ i≤128 ^ 8:=Nat.pow_le_pow_right (by omega) (by omega)
   have h2 : c % 128 * 128 ^ i≤127 * 128 ^ 8:=Nat.mul_le_mul (by omega) h1
   omega
  ·have : i = 9:=by omega
   subst this
   have:=h9 rfl
   have h2 : c % 128 * 128 ^ 9≤1 * 128 ^ 9:=Nat.mul_le_mul_right _ (by omega)
   omega
 have ha : acc < 18446744073709551616:=by
  have h1 : 128 ^ i≤128 ^ 9:=Nat.pow_le_pow_right (by omega) hi
  omega
 have e4 : IntKind.u64.wrap (((c % 128 : Nat) : Int)) = ((c % 128 : Nat) : Int):=by rw [w_u64];omega
 have e5 : (((c % 128 : Nat) : Int)) * 2 ^ (7 * i) = ((c % 128 * 128 ^ i : Nat) : Int):=by rw [e3];push_cast;rfl
 have e6 : IntKind.u64.wrap ((c % 128 * 128 ^ i : Nat) : Int) = ((c % 128 * 128 ^ i : Nat) : Int):=by rw [w_u64];omega
 rw [andNot128 c hc,e4,e1,e5,e6]
 show IntKind.u64.wrap ((BitVec.ofInt 64 (acc : Int) ||| BitVec.ofInt 64 ((c % 128 * 128 ^ i : Nat) : Int)).toNat : Int) = _
 have e7 : (BitVec.ofInt 64 (acc : Int) ||| BitVec.ofInt 64 ((c % 128 * 128 ^ i : Nat) : Int)).toNat = acc + c % 128 * 128 ^ i:=by
  rw [BitVec.ofInt_natCast,BitVec.ofInt_natCast,BitVec.toNat_or,BitVec.toNat_ofNat,BitVec.toNat_ofNat,Nat.mod_eq_of_lt (by omega),Nat.mod_eq_of_lt (by omega),Nat.or_comm]
  have h:=Nat.shiftLeft_add_eq_or_of_lt (b:=acc) (i:=7 * i) (by rw [← e3];exact hacc) (c % 128)
  rw [Nat.shiftLeft_eq,← e3] at h
  rw [← h,Nat.add_comm]
 rw [e7,w_u64]
 have hs : acc + c % 128 * 128 ^ i < 18446744073709551616:=by
  have h1 : acc + c % 128 * 128 ^ i < (c % 128 + 1) * 128 ^ i:=by rw [Nat.add_mul];omega
  rcases Nat.lt_or_ge i 9 with h | h
  ·have h1' : 128 ^ i≤128 ^ 8:=Nat.pow_le_pow_right (by omega) (by omega)
   have h2 : (c % 128 + 1) * 128 ^ i≤128 * 128 ^ 8:=Nat.mul_le_mul (by omega) h1'
   omega
  ·have : i = 9:=by omega
   subst this
   have:=h9 rfl
   have h2 : (c % 128 + 1) * 128 ^ 9≤2 * 128 ^ 9:=Nat.mul_le_mul_right _ (by omega)
   omega
 omega

theorem pack_number_con (l : List Nat) (hl : ∀ c ∈ l,c < 256) (hb : l.length≤140737488355328) : Con Tryz.prog 94 [.c (.sl (l.map brow))] [] (.tup [.c (.v (.int .u64 (rdN 0 0 l).1)),I (rdN 0 0 l).2.1,I (rdN 0 0 l).2.2]) []:=by
 refine C_pack_number nl nl ?_
 simp only [cz,A_pack_number,argL,objL,List.length_nil,zX]
 refine aR 16 ?_
 refine aR 160 ?_
 refine aR 320 ?_
 refine aw_loop (X:={ p : Nat × Nat // p.1≤l.length∧p.1≤9∧p.2 < 128 ^ p.1∧rdN p.1 p.2 (l.drop p.1) = rdN 0 0 l }) (fun p=>mkSt [(5,.c (.v (.int .u64 p.1.2))),(8,.c (.sl (l.map brow))),(9,I l.length),(10,I p.1.1)] []) (fun p=>l.length - p.1.1) ⟨(0,0),by simp⟩ ?_ ?_
 ·refine Le.lit [] [] _ _ ?_ ?_ ?_ ?_
  ·skip
   simp only [zL,simprocAttr]
   simp
  ·skip
   simp only [zL,simprocAttr]
  ·simp
  ·simp
 rintro ⟨⟨i,acc⟩,hi,hi9,hacc,hrd⟩
 simp only at hi hi9 hacc hrd
 simp only [zX]
 refine aR 480 ?_
 refine aw_cond _ rfl trivial (fun ht=>?_) (fun hf=>?_)
 rotate_left
 ·skip
  simp only [zX,↓reduceIte]
  refine aR 640 ?_
  have hi' : i = l.length:=by simp at hf;omega
  refine Fin.scalar (.inr rfl) rfl trivial ?_ ?_
  ·rw [hi',List.drop_length] at hrd
   rw [← hrd];rfl
  ·intro s hs
   simp at hs
   rcases hs with rfl | rfl | rfl <;> exact ⟨_,rfl⟩
 have hi' : i < l.length:=by simp at ht;omega
 have hr : (List.map brow l)[(i : Int).toNat]?.getD [] = [.v (.int .u8 l[i])]:=by simp [hi',brow]
 have hc:=hl _ (List.getElem_mem hi')
 rw [List.drop_eq_getElem_cons hi',rdN] at hrd
 generalize l[i] = c at hr hc hrd
 simp only [zX]
 refine aw_reg 640 (RG.go fun Q hQ=>?_)
 simp only [zS,hr,simprocAttr]
 refine ⟨by simp;omega,hQ (RG.nil ?_)⟩
 simp only [zX]
 refine aR 800 ?_
 refine aw_cond _ rfl trivial (fun ht2=>?_) (fun hf2=>?_)
 ·skip
  simp only [zX]
  refine aR 1000 ?_
  have hcc : i = 9∧1 < c:=by simp at ht2;omega
  rw [if_pos hcc] at hrd
  refine Fin.scalar (.inr rfl) rfl trivial (by rw [← hrd];rfl) ?_
  intro s hs
  simp at hs
  rcases hs with rfl | rfl | rfl <;> exact ⟨_,rfl⟩
 have hcc : ¬ (i = 9∧1 < c):=by simp at hf2;omega
 rw [if_neg hcc] at hrd
 have hor:=orNum i acc c hi9 hacc hc (by omega)
 simp only [zX]
 refine aw_reg 1200 (RG.go fun Q hQ=>?_)
 simp only [zS,hor,simprocAttr]
 refine ⟨by rw [w64 _ (by omega) (by omega)];omega,hQ (RG.nil ?_)⟩
 simp only [zX]
 refine aR 1400 ?_
 refine aw_cond _ rfl trivial (fun ht3=>?_) (fun hf3=>?_)
 ·have hc3 : 128≤c:=by have:=and128 c hc;rw [this] at ht3;simp at ht3;omega
  rw [if_pos hc3] at hrd
  simp only [zX,↓reduceIte]
  refine aR 1600 ?_
  refine ⟨⟨(i + 1,acc + c % 128 * 128 ^ i),by simp only;omega,by simp only;omega,?_,hrd⟩,?_,by simp only;omega⟩
  ·simp only
   have h1 : c % 128≤127:=by omega
   have h2:=Nat.mul_le_mul_right (128 ^ i) h1
   have h3 : 128 ^ (i + 1) = 128 * 128 ^ i:=by rw [Nat.pow_succ,Nat.mul_comm]
   omega
  ·refine Le.lit [] [] _ _ ?_ ?_ ?_ ?_
   ·skip
    simp only [zL,simprocAttr]
    rw [w64 _ (by omega) (by omega)];rfl
   ·skip
    simp only [zL,simprocAttr]
   ·simp
   ·simp
 have hc3 : ¬ 128≤c:=by have:=and128 c hc;rw [this] at hf3;simp at hf3;omega
 rw [if_neg hc3] at hrd
 simp only [zX]
 refine aR 1600 ?_
 refine aw_cond _ rfl trivial (fun ht4=>?_) (fun hf4=>?_)
 ·have hc4 : 0 < i∧c = 0:=by simp at ht4;omega
  rw [if_pos hc4] at hrd
  simp only [zX]
  refine aR 1800 ?_
  refine Fin.scalar (.inr rfl) rfl trivial (by rw [← hrd];rfl) ?_
  intro s hs
  simp at hs
  rcases hs with rfl | rfl | rfl <;> exact ⟨_,rfl⟩
 have hc4 : ¬ (0 < i∧c = 0):=by simp at hf4;omega
 rw [if_neg hc4] at hrd
 simp only [zX]
 have hwi : IntKind.i64.wrap ((i : Int) + 1) = ((i + 1 : Nat) : Int):=by rw [w64 _ (by omega) (by omega)];rfl
 refine aS 1800 (fun Q hQ=>by simp only [zS,hwi,simprocAttr];exact hQ) ?_
 refine Fin.scalar (.inr rfl) rfl trivial (by rw [← hrd];rfl) ?_
 intro s hs
 simp at hs
 rcases hs with rfl | rfl | rfl <;> exact ⟨_,rfl⟩

theorem rdN_size : ∀ (l : List Nat) (i acc : Nat),(rdN i acc l).2.2 = 0→(rdN i acc l).2.1≤i + l.length
 | [],i,acc,h=>by simp [rdN] at h
 | c :: r,i,acc,h=>by
  rw [rdN] at h ⊢
  split at h
  ·simp at h
  ·rename_i h1
   rw [if_neg h1]
   split at h
   ·rename_i h2
    rw [if_pos h2]
    have:=rdN_size r (i + 1) _ h
    simp only [List.length_cons];omega
   ·rename_i h2
    rw [if_neg h2]
    split at h
    ·simp at h
    ·rename_i h3
     rw [if_neg h3]
     simp only [List.length_cons];omega

theorem sc3 {a b c : Value} : (SV.tup [.c (.v a),.c (.v b),.c (.v c)]).scalar:=by
 intro s hs
 simp at hs
 rcases hs with rfl | rfl | rfl <;> exact ⟨_,rfl⟩

abbrev Rd (l : List Nat) (e : Nat) : Ent:=.box [.sl (l.map brow),.v (.int .i64 e)]

def numR (most : Nat) (l : List Nat) (e : Nat) : Nat × List Nat × Nat :=
 if e≠0 then (0,l,e) else
 if (rdN 0 0 l).2.2≠0 then (0,[],(rdN 0 0 l).2.2) else
 if most < (rdN 0 0 l).1 then (0,[],22) else ((rdN 0 0 l).1,l.drop (rdN 0 0 l).2.1,0)

theorem pack_Reader_Num_con (l : List Nat) (e most : Nat) (hl : ∀ c ∈ l,c < 256) (hb : l.length≤140737488355328) : Con Tryz.prog 77 [.c (.bp 0 0),.c (.v (.int .u64 most))] [Rd l e] (.c (.v (.int .u64 (numR most l e).1))) [Rd (numR most l e).2.1 (numR most l e).2.2]:=by
 generalize hN : numR most l e = r
 unfold numR at hN
 refine C_pack_Reader_Num nl nl ?_
 simp only [cz,A_pack_Reader_Num,argL,objL,List.length_nil,List.length_cons,Nat.zero_add,zX]
 refine aR 16 ?_
 refine aR 160 ?_
 refine aw_cond _ rfl trivial (fun ht=>?_) (fun hf=>?_)
 ·skip
  simp only [zX]
  refine aR 320 ?_
  have he : e≠0:=by simp at ht;omega
  rw [if_pos he] at hN
  subst hN
  refine Fin.objs [] [] (.inr rfl) rfl (by exact trivial) ?_ ?_ (by simp [objL,rlook]) (by (simp [objL,rlook];done))
  ·simp only [zL,simprocAttr]
  ·simp only [zL,↓reduceIte]
 have he : e = 0:=by simp at hf;omega
 subst he
 rw [if_neg (by simp)] at hN
 simp only [zX]
 refine aB 400 ?_
 refine rC [] (pack_number_con l hl hb) ?_ (hv:=(trivial)) (hs:=(.inl sc3))
 refine aE ?_
 refine aR 800 ?_
 refine aw_cond _ rfl trivial (fun ht=>?_) (fun hf=>?_)
 ·have h2 : (rdN 0 0 l).2.2≠0:=by simp at ht;omega
  rw [if_pos h2] at hN
  subst hN
  simp only [zX]
  refine aB 1000 ?_
  refine rO [0] [] (pack_rest_fail_con (l.map brow) 0 ((rdN 0 0 l).2.2 : Nat)) ?_
  refine aE ?_
  refine aR 1200 ?_
  refine Fin.objs [] [] (.inr rfl) rfl (by exact trivial) ?_ ?_ (by simp [objL,rlook]) (by (simp [objL,rlook];done))
  ·simp only [zL,simprocAttr]
  ·simp only [zL,↓reduceIte]
 have h2 : (rdN 0 0 l).2.2 = 0:=by simp at hf;omega
 rw [if_neg (by omega)] at hN
 simp only [zX]
 refine aR 1000 ?_
 refine aw_cond _ rfl trivial (fun ht=>?_) (fun hf=>?_)
 ·have h3 : most < (rdN 0 0 l).1:=by simp at ht;omega
  rw [if_pos h3] at hN
  subst hN
  simp only [zX]
  refine aB 1200 ?_
  refine rO [0] [] (pack_rest_fail_con (l.map brow) 0 22) ?_
  refine aE ?_
  refine aR 1400 ?_
  refine Fin.objs [] [] (.inr rfl) rfl (by exact trivial) ?_ ?_ (by simp [objL,rlook]) (by (simp [objL,rlook];done))
  ·simp only [zL,simprocAttr]
  ·simp only [zL,↓reduceIte]
 have h3 : ¬ most < (rdN 0 0 l).1:=by simp at hf;omega
 rw [if_neg h3] at hN
 subst hN
 have hs:=rdN_size l 0 0 h2
 simp only [zX]
 refine aw_reg 1200 (RG.go fun Q hQ=>?_)
 simp only [zS,simprocAttr]
 refine ⟨⟨by omega,by simp;omega,by simp,by simp [brow]⟩,hQ (RG.nil ?_)⟩
 simp only [zX]
 refine aR 1400 ?_
 refine Fin.objs [] [] (.inr rfl) rfl (by exact trivial) ?_ ?_ (by simp [objL,rlook]) (by (simp [objL,rlook];done))
 ·simp only [zL,simprocAttr]
 ·simp only [zL,↓reduceIte]
  all_goals (rw [List.map_drop,List.length_map,Int.toNat_natCast,Int.toNat_natCast,List.take_of_length_le (by simp)])

theorem numR_mem {most : Nat} {l : List Nat} {e : Nat} (hl : ∀ c ∈ l,c < 256) : ∀ c ∈ (numR most l e).2.1,c < 256:=by
 unfold numR
 split
 ·exact hl
 ·split
  ·simp
  ·split
   ·simp
   ·intro c hc;exact hl c (List.mem_of_mem_drop hc)

theorem numR_len {most : Nat} {l : List Nat} {e : Nat} : (numR most l e).2.1.length≤l.length:=by
 unfold numR
 split
 ·exact Nat.le_refl _
 ·split
  ·simp
  ·split
   ·simp
   ·simp

def lumpR (most : Nat) (l : List Nat) (e : Nat) : List Nat × List Nat × Nat :=
 if (numR most l e).2.2≠0 then ([],(numR most l e).2.1,(numR most l e).2.2) else
 if (numR most l e).2.1.length < (numR most l e).1 then ([],[],21) else ((numR most l e).2.1.take (numR most l e).1,(numR most l e).2.1.drop (numR most l e).1,0)

theorem pack_Reader_Lump_con (l : List Nat) (e most : Nat) (hl : ∀ c ∈ l,c < 256) (hb : l.length≤140737488355328) (hm : most < 9223372036854775808) :
  Con Tryz.prog 80 [.c (.bp 0 0),I most] [Rd l e] (.c (.sl ((lumpR most l e).1.map brow))) [Rd (lumpR most l e).2.1 (lumpR most l e).2.2]:=by
 have hw : IntKind.u64.wrap (most : Int) = (most : Int):=by rw [w_u64];omega
 have hmx : (if (0 : Int) > (most : Int) then (0 : Int) else (most : Int)) = (most : Int):=by split <;> omega
 have hmem:=numR_mem (most:=most) (e:=e) hl
 have hlen:=numR_len (most:=most) (l:=l) (e:=e)
 have hnum:=pack_Reader_Num_con l e most hl hb
 generalize hN : lumpR most l e = r
 unfold lumpR at hN
 generalize numR most l e = q at hN hmem hlen hnum
 obtain ⟨n,l',e'⟩:=q
 simp only at hN hmem hlen hnum
 have hw2 : IntKind.u64.wrap ((l'.map brow).length : Int) = (l'.length : Int):=by rw [w_u64,List.length_map];omega
 refine C_pack_Reader_Lump nl nl ?_
 simp only [cz,A_pack_Reader_Lump,argL,objL,List.length_nil,List.length_cons,Nat.zero_add,zX]
 refine aR 16 ?_
 refine aBs 160 (fun Q hQ=>by simp only [zS,foldMx,hmx,hw,simprocAttr];exact hQ) ?_
 refine rO [0] [] (hnum) ?_
 refine aE ?_
 refine aR 400 ?_
 refine aw_cond _ rfl trivial (fun ht=>?_) (fun hf=>?_)
 ·have he : e'≠0:=by simp at ht;omega
  rw [if_pos he] at hN
  subst hN
  simp only [zX]
  refine aR 600 ?_
  refine Fin.objs [] [] (.inr rfl) rfl (by exact trivial) ?_ ?_ (by simp [objL,rlook]) (by (simp [objL,rlook];done))
  ·simp only [zL,simprocAttr]
  ·simp only [zL,↓reduceIte]
 have he : e' = 0:=by simp at hf;omega
 subst he
 rw [if_neg (by simp)] at hN
 simp only [zX]
 refine aS 600 (fun Q hQ=>by simp only [zS,hw2,simprocAttr];exact hQ) ?_
 refine aw_cond _ rfl trivial (fun ht=>?_) (fun hf=>?_)
 ·have h2 : l'.length < n:=by simp at ht;omega
  rw [if_pos h2] at hN
  subst hN
  simp only [zX]
  refine aB 800 ?_
  refine rO [0] [] (pack_rest_fail_con (l'.map brow) 0 21) ?_
  refine aE ?_
  refine aR 1000 ?_
  refine Fin.objs [] [] (.inr rfl) rfl (by exact trivial) ?_ ?_ (by simp [objL,rlook]) (by (simp [objL,rlook];done))
  ·simp only [zL,simprocAttr]
  ·simp only [zL,↓reduceIte]
 have h2 : ¬ l'.length < n:=by simp at hf;omega
 rw [if_neg h2] at hN
 subst hN
 have ht1 : (l'.map brow).take (n : Int).toNat = (l'.take n).map brow:=by simp
 have ht2 : ((l'.map brow).take ((l'.map brow).length : Int).toNat).drop (n : Int).toNat = (l'.drop n).map brow:=by rw [Int.toNat_natCast,Int.toNat_natCast,List.take_of_length_le (Nat.le_refl _),List.map_drop]
 simp only [zX]
 refine aw_reg 800 (RG.go fun Q hQ=>?_)
 simp only [zS,ht1,simprocAttr]
 refine ⟨⟨by omega,by simp;omega,by simp [brow]⟩,hQ ?_⟩
 refine RG.callo [] [] (slices_Clone_byte_byte_con ((l'.take n).map brow) (drows_brow _) (brow_len _) (by simp;omega)) (.mk (tr_cons tr_sl tr_nil) (trivial) (by simp) (by simp) (trivial) (by simp [lkE_cons,lkE_nil]) (by simp only [List.mem_singleton,forall_eq,Ent.pure];exact drows_brow _) (by simp) (by simp)) ?_
 refine aE ?_
 refine aw_reg 1200 (RG.go fun Q hQ=>?_)
 simp only [zS,ht2,simprocAttr]
 refine ⟨⟨by omega,by simp;omega,by simp,by simp [brow]⟩,hQ (RG.nil ?_)⟩
 simp only [zX]
 refine aR 1400 ?_
 refine Fin.objs [912] [] (.inr rfl) rfl (by exact trivial) ?_ ?_ (by simp [objL,rlook]) (by (simp [objL,rlook];done))
 ·simp only [zL,simprocAttr]
  all_goals (exact ⟨⟨_,_,rfl⟩,drows_brow _⟩)
 ·simp only [zL,simprocAttr]

theorem mementoref1_Put_con (l : List Nat) (hb : l.length * 10≤140737488355328) (hl : ∀ n ∈ l,n < 18446744073709551616) : Con Tryz.prog 30 [.c (.sl (l.map urow))] [] (.c (.osl 0)) [.arr 5 1 ((putS l).map brow) false]:=by
 refine C_mementoref1_Put nl nl ?_
 simp only [cz,A_mementoref1_Put,argL,objL,List.length_nil,zX]
 refine aR 16 ?_
 refine aR 160 ?_
 refine aR 320 ?_
 refine aw_loop (X:={ i : Nat // i≤l.length }) (fun i=>mkSt [(3,.c (.osl 1000)),(0,.c (.sl (l.map urow))),(4,I i.1)] [(1000,.arr 5 1 ((putS (l.take i.1)).map brow) false)]) (fun i=>l.length - i.1) ⟨0,Nat.zero_le _⟩ ?_ ?_
 ·refine (Le.own 3 1000 5 1 rfl rfl (by decide)).trans (Le.lit [] [] _ _ ?_ ?_ ?_ ?_)
  ·skip
   simp only [zL,simprocAttr]
  ·skip
   simp only [zL,simprocAttr]
   simp [putS]
  ·simp
  ·simp
 rintro ⟨i,hi⟩
 simp only [zX]
 refine aR 480 ?_
 refine aw_cond _ rfl trivial (fun ht=>?_) (fun hf=>?_)
 rotate_left
 ·skip
  simp only [zX,↓reduceIte]
  refine aR 640 ?_
  have hi' : i = l.length:=by simp at hf;omega
  subst hi'
  refine Fin.objs [] [(0,1000)] (.inr rfl) rfl trivial ?_ ?_ ?_ ?_
  ·skip
   simp only [zL,simprocAttr]
  ·skip
   simp only [zL,simprocAttr]
   simp [brow,C.isD]
  ·simp [objL]
  ·simp
 have hi' : i < l.length:=by simp at ht;omega
 have hr : (List.map urow l)[(i : Int).toNat]?.getD [] = [.v (.int .u64 l[i])]:=by simp [hi',urow]
 simp only [zX]
 refine aw_reg 640 (RG.go fun Q hQ=>?_)
 simp only [zS,hr,simprocAttr]
 refine ⟨by simp;omega,hQ (RG.nil ?_)⟩
 simp only [zX]
 refine aw_loop (X:={ p : Nat × List Nat // p.2 ++ num7 p.1 = putS (l.take i) ++ num7 l[i]∧p.1 < 18446744073709551616 }) (fun p=>mkSt [(3,.c (.osl 1000)),(5,.c (.v (.int .u64 p.1.1))),(0,.c (.sl (l.map urow))),(4,I i)] [(1000,.arr 5 1 (p.1.2.map brow) false)]) (fun p=>p.1.1) ⟨(l[i],putS (l.take i)),rfl,hl _ (List.getElem_mem hi')⟩ ?_ ?_
 ·refine Le.lit [] [] _ _ ?_ ?_ ?_ ?_
  ·skip
   simp only [zL,simprocAttr]
  ·skip
   simp only [zL,simprocAttr]
   simp [brow,C.isD]
  ·simp
  ·simp
 rintro ⟨⟨n,acc⟩,hp,hn⟩
 simp only [zX]
 refine aR 800 ?_
 refine aw_cond _ rfl trivial (fun ht=>?_) (fun hf=>?_)
 ·have hn' : 128≤n:=by simp at ht;omega
  have hlen : acc.length + (num7 n).length≤l.length * 10:=by
   have h0:=putS_len (l.take (i + 1)) fun m hm=>hl m (List.mem_of_mem_take hm)
   rw [putS_take l i hi',← hp] at h0
   simp at h0
   omega
  have hpos:=num7_pos n
  simp only [zX]
  refine aw_reg 1200 (RG.go fun Q hQ=>?_)
  simp only [zS,simprocAttr]
  refine ⟨⟨by simp,by simp;omega⟩,hQ (RG.nil ?_)⟩
  simp only [zX]
  refine aR 1400 ?_
  refine ⟨⟨(n / 128,acc ++ [n % 128 + 128]),?_,by simp only;omega⟩,?_,by simp only;omega⟩
  ·have h7 : num7 n = (n % 128 + 128) :: num7 (n / 128):=by rw [num7,if_neg (by omega)]
   rw [← hp,h7]
   simp
  refine Le.lit [] [(1000,1280)] _ _ ?_ ?_ ?_ ?_
  ·skip
   simp only [zL,simprocAttr]
   rw [shr7]
  ·skip
   simp only [zL,simprocAttr]
   refine ⟨by simp [or128,brow],drows_brow _⟩
  ·simp
  ·simp
 have hn' : n < 128:=by simp at hf;omega
 have hlen : acc.length + (num7 n).length≤l.length * 10:=by
  have h0:=putS_len (l.take (i + 1)) fun m hm=>hl m (List.mem_of_mem_take hm)
  rw [putS_take l i hi',← hp] at h0
  simp at h0
  omega
 have hpos:=num7_pos n
 simp only [zX,↓reduceIte]
 refine aw_reg 1200 (RG.go fun Q hQ=>?_)
 simp only [zS,simprocAttr]
 refine ⟨⟨by simp,by simp;omega⟩,hQ (RG.nil ?_)⟩
 simp only [zX]
 refine aR 1400 ?_
 refine ⟨⟨i + 1,hi'⟩,?_,by simp;omega⟩
 refine Le.lit [] [(1000,1264)] _ _ ?_ ?_ ?_ ?_
 ·skip
  simp only [zL,simprocAttr]
  rw [w64 _ (by omega) (by omega)];rfl
 ·skip
  simp only [zL,simprocAttr]
  refine ⟨?_,drows_brow _⟩
  rw [putS_take l i hi',← hp,num7,if_pos hn',u8wrap n hn']
  simp [brow]
 ·simp
 ·simp

theorem mementoref1_Reader_fail_con (rows : List (List C)) (e x : Int) : Con Tryz.prog 82 [.c (.bp 0 0),I x] [.box [.sl rows,.v (.int .i64 e)]] (.tup []) [.box [.sl [],.v (.int .i64 x)]]:=by
 refine C_mementoref1_Reader_fail nl nl ?_
 simp only [cz,A_mementoref1_Reader_fail,argL,objL,List.length_nil,List.length_cons,Nat.zero_add]
 refine aw_reg 16 (RG.go fun Q hQ=>?_)
 simp only [zS,simprocAttr]
 refine hQ (RG.nil ?_)
 refine Fin.objs [] [] (.inl rfl) rfl trivial ?_ ?_ (by simp [objL,rlook]) (by simp [objL,rlook])
 ·skip
  simp only [zL]
 ·skip
  simp only [zL,↓reduceIte]

theorem mementoref1_Lump_con (l : List Nat) (hb : l.length≤100000000000000) : Con Tryz.prog 34 [.c (.sl (l.map brow))] [] (.c (.osl 0)) [.arr 5 1 ((num7 l.length ++ l).map brow) false]:=by
 have hw : IntKind.u64.wrap ((l.map brow).length : Int) = (l.length : Int):=by rw [w_u64,List.length_map];omega
 have hl:=num7_len l.length (by omega)
 refine C_mementoref1_Lump nl nl ?_
 simp only [cz,A_mementoref1_Lump,argL,objL,List.length_nil,zX]
 refine aR 16 ?_
 refine aBs 160 (fun Q hQ=>by simp only [zS,hw,simprocAttr];exact hQ) ?_
 refine RG.callo [] [208] (mementoref1_Put_con [l.length] (by simp) (by simp;omega)) (.mk (tr_cons (tr_view (by simp) rfl (by simp [isDRows,urow,C.isD])) tr_nil) (trivial) (by simp) (by simp) (views1 rfl trivial) (by simp [lkE_cons,lkE_nil]) (by simp only [List.mem_singleton,forall_eq,Ent.pure];exact drows_brow _) (by simp) (by simp)) ?_
 refine RG.go fun Q hQ=>?_
 simp only [zS,simprocAttr]
 have hp : putS [l.length] = num7 l.length:=by simp [putS]
 refine ⟨⟨by simp [brow],by simp [hp];omega⟩,hQ (RG.nil ?_)⟩
 simp only [zX]
 refine Fin.objs [] [(0,256)] (.inr rfl) rfl (by exact trivial) ?_ ?_ (by simp [objL,rlook]) (by (simp [objL,rlook];done))
 ·simp only [zL,simprocAttr]
 ·simp only [zL,simprocAttr]
  all_goals (exact ⟨by rw [hp,List.map_append],drows_brow _⟩)


theorem and127 (c : Nat) (h : c < 256) : bitsI .and .u8 c 127 = ((c % 128 : Nat) : Int):=by
 have h1 : ∀ k : Fin 256,bitsI .and .u8 (k.val : Int) 127 = ((k.val % 128 : Nat) : Int):=by decide
 exact h1 ⟨c,h⟩

theorem mementoref1_Reader_Num_con (l : List Nat) (e most : Nat) (hl : ∀ c ∈ l,c < 256) (hb : l.length≤140737488355328) : Con Tryz.prog 53 [.c (.bp 0 0),.c (.v (.int .u64 most))] [Rd l e] (.c (.v (.int .u64 (numR most l e).1))) [Rd (numR most l e).2.1 (numR most l e).2.2]:=by
 generalize hN : numR most l e = r
 unfold numR at hN
 refine C_mementoref1_Reader_Num nl nl ?_
 simp only [cz,A_mementoref1_Reader_Num,argL,objL,List.length_nil,List.length_cons,Nat.zero_add,zX]
 refine aR 16 ?_
 refine aR 160 ?_
 refine aw_cond _ rfl trivial (fun ht=>?_) (fun hf=>?_)
 ·skip
  simp only [zX]
  refine aR 320 ?_
  have he : e≠0:=by simp at ht;omega
  rw [if_pos he] at hN
  subst hN
  refine Fin.objs [] [] (.inr rfl) rfl (by exact trivial) ?_ ?_ (by simp [objL,rlook]) (by (simp [objL,rlook];done))
  ·simp only [zL,simprocAttr]
  ·simp only [zL,↓reduceIte]
 have he : e = 0:=by simp at hf;omega
 subst he
 rw [if_neg (by simp)] at hN
 simp only [zX]
 refine aR 400 ?_
 refine aR 480 ?_
 refine aw_loop (X:={ p : Nat × Nat // p.1≤l.length∧p.1≤9∧p.2 < 128 ^ p.1∧rdN p.1 p.2 (l.drop p.1) = rdN 0 0 l }) (fun p=>mkSt [(0,.c (.bp 0 0)),(1,.c (.v (.int .u64 most))),(5,.c (.v (.int .u64 p.1.2))),(6,I p.1.1)] [(0,Rd l 0)]) (fun p=>l.length - p.1.1) ⟨(0,0),by simp⟩ ?_ ?_
 ·refine Le.lit [] [] _ _ ?_ ?_ (by simp) (by simp [rlook])
  ·skip
   simp only [zL,simprocAttr]
  ·skip
   simp only [zL,↓reduceIte]
 rintro ⟨⟨i,acc⟩,hi,hi9,hacc,hrd⟩
 simp only at hi hi9 hacc hrd
 simp only [zX]
 refine aR 600 ?_
 refine aw_cond _ rfl trivial (fun ht=>?_) (fun hf=>?_)
 rotate_left
 ·skip
  simp only [zX,↓reduceIte]
  have hi' : i = l.length:=by simp at hf;omega
  rw [hi',List.drop_length,rdN] at hrd
  rw [← hrd] at hN
  subst hN
  refine aB 800 ?_
  refine rO [0] [] (mementoref1_Reader_fail_con (l.map brow) 0 21) ?_
  refine aE ?_
  refine aR 1000 ?_
  refine Fin.objs [] [] (.inr rfl) rfl (by exact trivial) ?_ ?_ (by simp [objL,rlook]) (by (simp [objL,rlook];done))
  ·simp only [zL,simprocAttr]
  ·simp only [zL,simprocAttr]
 have hi' : i < l.length:=by simp at ht;omega
 have hr : (List.map brow l)[(i : Int).toNat]?.getD [] = [.v (.int .u8 l[i])]:=by simp [hi',brow]
 have hc:=hl _ (List.getElem_mem hi')
 rw [List.drop_eq_getElem_cons hi',rdN] at hrd
 generalize l[i] = c at hr hc hrd
 simp only [zX]
 refine aw_reg 800 (RG.go fun Q hQ=>?_)
 simp only [zS,hr,simprocAttr]
 refine ⟨by simp;omega,hQ (RG.nil ?_)⟩
 simp only [zX]
 refine aR 1000 ?_
 refine aw_cond _ rfl trivial (fun ht2=>?_) (fun hf2=>?_)
 ·have hcc : i = 9∧1 < c:=by simp at ht2;omega
  rw [if_pos hcc] at hrd
  rw [← hrd] at hN
  subst hN
  simp only [zX]
  refine aB 1200 ?_
  refine rO [0] [] (mementoref1_Reader_fail_con (l.map brow) 0 20) ?_
  refine aE ?_
  refine aR 1400 ?_
  refine Fin.objs [] [] (.inr rfl) rfl (by exact trivial) ?_ ?_ (by simp [objL,rlook]) (by (simp [objL,rlook];done))
  ·simp only [zL,simprocAttr]
  ·simp only [zL,simprocAttr]
 have hcc : ¬ (i = 9∧1 < c):=by simp at hf2;omega
 rw [if_neg hcc] at hrd
 have hor:=orNum i acc c hi9 hacc hc (by omega)
 rw [andNot128 c hc] at hor
 have h127:=and127 c hc
 simp only [zX]
 refine aw_reg 1200 (RG.go fun Q hQ=>?_)
 simp only [zS,h127,hor,simprocAttr]
 refine ⟨by rw [w64 _ (by omega) (by omega)];omega,hQ (RG.nil ?_)⟩
 simp only [zX]
 refine aR 1400 ?_
 refine aw_cond _ rfl trivial (fun ht3=>?_) (fun hf3=>?_)
 rotate_left
 ·have hc3 : 128≤c:=by simp at hf3;omega
  rw [if_pos hc3] at hrd
  simp only [zX]
  refine aR 1600 ?_
  refine ⟨⟨(i + 1,acc + c % 128 * 128 ^ i),by simp only;omega,by simp only;omega,?_,hrd⟩,?_,by simp only;omega⟩
  ·simp only
   have h1 : c % 128≤127:=by omega
   have h2:=Nat.mul_le_mul_right (128 ^ i) h1
   have h3 : 128 ^ (i + 1) = 128 * 128 ^ i:=by rw [Nat.pow_succ,Nat.mul_comm]
   omega
  ·refine Le.lit [] [] _ _ ?_ ?_ (by simp) (by simp [rlook])
   ·skip
    simp only [zL,simprocAttr]
    rw [w64 _ (by omega) (by omega)];rfl
   ·skip
    simp only [zL,↓reduceIte]
 have hc3 : ¬ 128≤c:=by simp at ht3;omega
 rw [if_neg hc3] at hrd
 simp only [zX]
 refine aR 1600 ?_
 refine aw_cond _ rfl trivial (fun ht4=>?_) (fun hf4=>?_)
 ·have hc4 : 0 < i∧c = 0:=by simp at ht4;omega
  rw [if_pos hc4] at hrd
  rw [← hrd] at hN
  subst hN
  simp only [zX]
  refine aB 1800 ?_
  refine rO [0] [] (mementoref1_Reader_fail_con (l.map brow) 0 20) ?_
  refine aE ?_
  refine aR 2000 ?_
  refine Fin.objs [] [] (.inr rfl) rfl (by exact trivial) ?_ ?_ (by simp [objL,rlook]) (by (simp [objL,rlook];done))
  ·simp only [zL,simprocAttr]
  ·simp only [zL,simprocAttr]
 have hc4 : ¬ (0 < i∧c = 0):=by simp at hf4;omega
 rw [if_neg hc4] at hrd
 rw [← hrd] at hN
 simp only [ne_eq,not_true_eq_false,if_false] at hN
 simp only [zX]
 refine aR 1800 ?_
 refine aw_cond _ rfl trivial (fun ht5=>?_) (fun hf5=>?_)
 ·have hm : most < acc + c % 128 * 128 ^ i:=by simp only [decide_eq_true_eq] at ht5;omega
  rw [if_pos hm] at hN
  subst hN
  simp only [zX]
  refine aB 2000 ?_
  refine rO [0] [] (mementoref1_Reader_fail_con (l.map brow) 0 22) ?_
  refine aE ?_
  refine aR 2200 ?_
  refine Fin.objs [] [] (.inr rfl) rfl (by exact trivial) ?_ ?_ (by simp [objL,rlook]) (by (simp [objL,rlook];done))
  ·simp only [zL,simprocAttr]
  ·simp only [zL,↓reduceIte]
 have hm : ¬ most < acc + c % 128 * 128 ^ i:=by simp only [decide_eq_false_iff_not] at hf5;omega
 rw [if_neg hm] at hN
 subst hN
 have hwi : IntKind.i64.wrap ((i : Int) + 1) = ((i + 1 : Nat) : Int):=by rw [w64 _ (by omega) (by omega)];rfl
 have hd : ((l.map brow).take ((l.map brow).length : Int).toNat).drop ((i + 1 : Nat) : Int).toNat = (l.drop (i + 1)).map brow:=by rw [Int.toNat_natCast,Int.toNat_natCast,List.take_of_length_le (Nat.le_refl _),List.map_drop]
 simp only [zX]
 refine aw_reg 2000 (RG.go fun Q hQ=>?_)
 simp only [zS,hwi,hd,simprocAttr]
 refine ⟨⟨by omega,by simp;omega,by simp,brow_len _⟩,hQ (RG.nil ?_)⟩
 simp only [zX]
 refine aR 2200 ?_
 refine Fin.objs [] [] (.inr rfl) rfl (by exact trivial) ?_ ?_ (by simp [objL,rlook]) (by (simp [objL,rlook];done))
 ·simp only [zL,simprocAttr]
 ·simp only [zL,↓reduceIte]

theorem mementoref1_Reader_Lump_con (l : List Nat) (e most : Nat) (hl : ∀ c ∈ l,c < 256) (hb : l.length≤140737488355328) (hm : most < 9223372036854775808) :
  Con Tryz.prog 56 [.c (.bp 0 0),I most] [Rd l e] (.c (.sl ((lumpR most l e).1.map brow))) [Rd (lumpR most l e).2.1 (lumpR most l e).2.2]:=by
 have hw : IntKind.u64.wrap (most : Int) = (most : Int):=by rw [w_u64];omega
 have hmx : (if (0 : Int) > (most : Int) then (0 : Int) else (most : Int)) = (most : Int):=by split <;> omega
 have hlen:=numR_len (most:=most) (l:=l) (e:=e)
 have hnum:=mementoref1_Reader_Num_con l e most hl hb
 generalize hN : lumpR most l e = r
 unfold lumpR at hN
 generalize numR most l e = q at hN hlen hnum
 obtain ⟨n,l',e'⟩:=q
 simp only at hN hlen hnum
 have hw2 : IntKind.u64.wrap ((l'.map brow).length : Int) = (l'.length : Int):=by rw [w_u64,List.length_map];omega
 refine C_mementoref1_Reader_Lump nl nl ?_
 simp only [cz,A_mementoref1_Reader_Lump,argL,objL,List.length_nil,List.length_cons,Nat.zero_add,zX]
 refine aR 16 ?_
 refine aBs 160 (fun Q hQ=>by simp only [zS,foldMx,hmx,hw,simprocAttr];exact hQ) ?_
 refine rO [0] [] (hnum) ?_
 refine aE ?_
 refine aR 400 ?_
 refine aw_cond _ rfl trivial (fun ht=>?_) (fun hf=>?_)
 ·have he : e'≠0:=by simp at ht;omega
  rw [if_pos he] at hN
  subst hN
  simp only [zX]
  refine aR 600 ?_
  refine Fin.objs [] [] (.inr rfl) rfl (by exact trivial) ?_ ?_ (by simp [objL,rlook]) (by (simp [objL,rlook];done))
  ·simp only [zL,simprocAttr]
  ·simp only [zL,↓reduceIte]
 have he : e' = 0:=by simp at hf;omega
 subst he
 rw [if_neg (by simp)] at hN
 simp only [zX]
 refine aS 600 (fun Q hQ=>by simp only [zS,hw2,simprocAttr];exact hQ) ?_
 refine aw_cond _ rfl trivial (fun ht=>?_) (fun hf=>?_)
 ·have h2 : l'.length < n:=by simp at ht;omega
  rw [if_pos h2] at hN
  subst hN
  simp only [zX]
  refine aB 800 ?_
  refine rO [0] [] (mementoref1_Reader_fail_con (l'.map brow) 0 21) ?_
  refine aE ?_
  refine aR 1000 ?_
  refine Fin.objs [] [] (.inr rfl) rfl (by exact trivial) ?_ ?_ (by simp [objL,rlook]) (by (simp [objL,rlook];done))
  ·simp only [zL,simprocAttr]
  ·simp only [zL,↓reduceIte]
 have h2 : ¬ l'.length < n:=by simp at hf;omega
 rw [if_neg h2] at hN
 subst hN
 have ht1 : (l'.map brow).take (n : Int).toNat = (l'.take n).map brow:=by simp
 have ht2 : ((l'.map brow).take ((l'.map brow).length : Int).toNat).drop (n : Int).toNat = (l'.drop n).map brow:=by rw [Int.toNat_natCast,Int.toNat_natCast,List.take_of_length_le (Nat.le_refl _),List.map_drop]
 simp only [zX]
 refine aw_reg 800 (RG.go fun Q hQ=>?_)
 simp only [zS,ht1,simprocAttr]
 refine ⟨⟨by omega,by simp;omega,brow_len _⟩,hQ (RG.nil ?_)⟩
 simp only [zX]
 refine aw_reg 1200 (RG.go fun Q hQ=>?_)
 simp only [zS,ht2,simprocAttr]
 refine ⟨⟨by omega,by simp;omega,by simp,brow_len _⟩,hQ (RG.nil ?_)⟩
 simp only [zX]
 refine aR 1400 ?_
 refine Fin.objs [] [] (.inr rfl) rfl (by exact trivial) ?_ ?_ (by simp [objL,rlook]) (by (simp [objL,rlook];done))
 ·simp only [zL,simprocAttr]
 ·simp only [zL,↓reduceIte]

theorem toList_go (b : ByteArray) : ∀ (k i : Nat) (r : List UInt8),b.size - i = k→ByteArray.toList.loop b i r = r.reverse ++ b.data.toList.drop i
 | 0,i,r,h=>by
  rw [ByteArray.toList.loop,if_neg (by omega),List.drop_eq_nil_of_le (by have : b.data.toList.length = b.size:=rfl;omega)];simp
 | k + 1,i,r,h=>by
  have hi : i < b.size:=by omega
  rw [ByteArray.toList.loop,if_pos hi,toList_go b k (i + 1) _ (by omega)]
  have hi' : i < b.data.toList.length:=hi
  rw [List.drop_eq_getElem_cons hi',List.reverse_cons,List.append_assoc]
  congr 1
  have : b.get! i = b.data.toList[i]:=by
   have h2 : b.get! i = b.data[i]!:=rfl
   rw [h2,getElem!_pos b.data i hi];rfl
  rw [this];rfl

theorem ba_toList (b : ByteArray) : b.toList = b.data.toList:=by
 have:=toList_go b _ 0 [] rfl
 simpa [ByteArray.toList] using this

theorem rowByte_map (l : List Nat) : (l.map brow).map rowByte = l.map UInt8.ofNat:=by
 rw [List.map_map]
 refine List.map_congr_left fun n _=>?_
 simp [brow,rowByte]

theorem u8_inj {a b : Nat} (ha : a < 256) (hb : b < 256) (h : UInt8.ofNat a = UInt8.ofNat b) : a = b:=by
 have:=congrArg UInt8.toNat h
 simp at this
 omega

theorem map_u8_inj : ∀ {l m : List Nat},(∀ c ∈ l,c < 256)→(∀ c ∈ m,c < 256)→l.map UInt8.ofNat = m.map UInt8.ofNat→l = m
 | [],[],_,_,_=>rfl
 | a :: l,b :: m,hl,hm,h=>by
  simp only [List.map_cons,List.cons.injEq] at h
  rw [u8_inj (hl a (by simp)) (hm b (by simp)) h.1,map_u8_inj (fun c hc=>hl c (by simp [hc])) (fun c hc=>hm c (by simp [hc])) h.2]
 | [],_ :: _,_,_,h=>by simp at h
 | _ :: _,[],_,_,h=>by simp at h

theorem str_eq (l m : List Nat) (hl : ∀ c ∈ l,c < 256) (hm : ∀ c ∈ m,c < 256) :
  ((⟨((l.map brow).map rowByte).toArray⟩ : ByteArray).toList == (⟨((m.map brow).map rowByte).toArray⟩ : ByteArray).toList) = decide (l = m):=by
 rw [ba_toList,ba_toList,rowByte_map,rowByte_map]
 by_cases h : l = m
 ·subst h;simp
 ·have : l.map UInt8.ofNat≠m.map UInt8.ofNat:=fun hh=>h (map_u8_inj hl hm hh)
  simp [h,this]

theorem isByteRow_brow (l : List Nat) : ∀ r ∈ l.map brow,isByteRow r:=by
 intro r hr
 obtain ⟨n,_,rfl⟩:=List.mem_map.1 hr
 exact ⟨n,rfl⟩

theorem bytes_Equal_con (l m : List Nat) (hl : ∀ c ∈ l,c < 256) (hm : ∀ c ∈ m,c < 256) : Con Tryz.prog 45 [.c (.sl (l.map brow)),.c (.sl (m.map brow))] [] (B (decide (l = m))) []:=by
 have h:=str_eq l m hl hm
 refine C_bytes_Equal nl nl ?_
 simp only [cz,A_bytes_Equal,argL,objL,List.length_nil,Nat.zero_add,zX]
 refine aR 16 ?_
 refine aw_reg 160 (RG.go fun Q hQ=>?_)
 simp only [zS,h,simprocAttr]
 refine ⟨isByteRow_brow _,isByteRow_brow _,hQ (RG.nil ?_)⟩
 simp only [zX]
 exact Fin.scalar (.inr rfl) rfl trivial rfl trivial

def timeS (n : Int) : Bool:=decide (0≤n) && decide (n≤1099511627776)

theorem entry_time_con (n : Int) : Con Tryz.prog 69 [I n] [] (B (timeS n)) []:=by
 refine C_entry_time nl nl ?_
 simp only [cz,A_entry_time,argL,objL,List.length_nil,zX]
 refine aR 16 ?_
 refine aR 160 ?_
 exact Fin.scalar (.inr rfl) rfl trivial rfl trivial

theorem mementoref6_time_con (n : Int) : Con Tryz.prog 41 [I n] [] (B (timeS n)) []:=by
 refine C_mementoref6_time nl nl ?_
 simp only [cz,A_mementoref6_time,argL,objL,List.length_nil,zX]
 refine aR 16 ?_
 refine aR 160 ?_
 exact Fin.scalar (.inr rfl) rfl trivial rfl trivial

def entryRight (index term kind : Int) (data : List Nat) : Bool :=
 timeS index && decide (1≤index) && timeS term &&
  (if kind = 0 then decide (data.length = 0) else if kind = 1 then decide (data.length≤32767) else
   if kind = 2 then decide (data.length = 2) && decide (data.getD 0 0 < 7) && decide (data.getD 1 0 < 2) else false)

theorem entry_Right_con (index term kind : Int) (data : List Nat) : Con Tryz.prog 63 [.agg [.v (.int .i64 index),.v (.int .i64 term),.v (.int .i64 kind),.sl (data.map brow)]] [] (B (entryRight index term kind data)) []:=by
 refine C_entry_Right nl nl ?_
 simp only [cz,A_entry_Right,argL,objL,List.length_nil,zX]
 refine aR 16 ?_
 refine aB 160 ?_
 refine rC [] (entry_time_con index) ?_ (hv:=(trivial)) (hs:=(.inl trivial))
 refine RG.go fun Q hQ=>?_
 simp only [zS,simprocAttr]
 refine ⟨by simp,hQ ?_⟩
 refine rG _ _ (entry_time_con term) ?_
 refine RG.go fun Q hQ=>?_
 simp only [zS,simprocAttr]
 refine ⟨by simp,hQ (RG.nil ?_)⟩
 simp only [zX]
 refine aw_cond _ rfl trivial (fun ht=>?_) (fun hf=>?_)
 ·skip
  simp only [zX]
  refine aR 600 ?_
  have he : entryRight index term kind data = false:=by
   simp [timeS] at ht
   simp [entryRight,timeS]
   intros
   omega
  rw [he]
  exact Fin.scalar (.inr rfl) rfl trivial rfl trivial
 have he : entryRight index term kind data = (if kind = 0 then decide (data.length = 0) else if kind = 1 then decide (data.length≤32767) else if kind = 2 then decide (data.length = 2) && decide (data.getD 0 0 < 7) && decide (data.getD 1 0 < 2) else false):=by
  have h1 : timeS index = true∧index≠0∧timeS term = true:=by simp at hf;exact ⟨hf.1.1,hf.1.2,hf.2⟩
  have h2 : 1≤index:=by have:=h1.1;simp [timeS] at this;omega
  simp [entryRight,h1.1,h1.2.2,h2]
 rw [he]
 simp only [zX]
 refine aR 600 ?_
 refine aR 700 ?_
 refine aw_cond _ rfl trivial (fun ht=>?_) (fun hf=>?_)
 ·have hk : kind = 0:=by simpa using ht
  rw [if_pos hk]
  simp only [zX]
  refine aR 800 ?_
  exact Fin.b (.inr rfl) rfl trivial (by rw [Bool.eq_iff_iff];simp)
 have hk : ¬ kind = 0:=by simpa using hf
 rw [if_neg hk]
 simp only [zX]
 refine aR 800 ?_
 refine aw_cond _ rfl trivial (fun ht=>?_) (fun hf=>?_)
 ·have hk : kind = 1:=by simpa using ht
  rw [if_pos hk]
  simp only [zX]
  refine aR 900 ?_
  exact Fin.b (.inr rfl) rfl trivial (by rw [Bool.eq_iff_iff];simp;omega)
 have hk : ¬ kind = 1:=by simpa using hf
 rw [if_neg hk]
 simp only [zX]
 refine aR 900 ?_
 refine aw_cond _ rfl trivial (fun ht=>?_) (fun hf=>?_)
 ·have hk : kind = 2:=by simpa using ht
  rw [if_pos hk]
  simp only [zX]
  by_cases hlen : data.length = 2
  ·match data,hlen with
   | [a,b],_ =>
    have e1 : (List.map brow [a,b])[(0 : Int).toNat]?.getD [] = [.v (.int .u8 a)]:=rfl
    have e2 : (List.map brow [a,b])[(1 : Int).toNat]?.getD [] = [.v (.int .u8 b)]:=rfl
    refine aS 1000 (fun Q hQ=>by simp only [zS,brow,simprocAttr];exact hQ) ?_
    exact Fin.b (.inr rfl) rfl trivial (by rw [Bool.eq_iff_iff];simp;omega)
  ·have hl2 : (((data.map brow).length : Int) == 2) = false:=by simp;omega
   have hsh : ∃ c,((List.map brow data)[0]?.getD [])[0]?.getD default = c∧∃ d,((List.map brow data)[1]?.getD [])[0]?.getD default = d:=⟨_,rfl,_,rfl⟩
   rcases data with _ | ⟨a,_ | ⟨b,r⟩⟩
   ·skip
    refine aw_reg 1000 (RG.go fun Q hQ=>?_)
    simp only [zS,simprocAttr]
    refine hQ (RG.nil ?_)
    simp only [zX,simprocAttr]
    exact Fin.b (.inr rfl) rfl trivial (by simp)
   ·skip
    refine aS 1000 (fun Q hQ=>by simp only [zS,brow,simprocAttr];exact hQ) ?_
    exact Fin.b (.inr rfl) rfl trivial (by simp)
   ·have hl3 : ((((brow a :: brow b :: r.map brow) : List (List C)).length : Int) == 2) = false:=hl2
    refine aw_reg 1000 (RG.go fun Q hQ=>?_)
    simp only [zS,brow,simprocAttr]
    refine ⟨fun h=>⟨by omega,h⟩,fun h=>⟨by omega,h⟩,hQ (RG.nil ?_)⟩
    simp only [zX]
    exact Fin.b (.inr rfl) rfl trivial (by rw [Bool.eq_iff_iff];have h3 : r.length≠0:=(fun h=>hlen (by simp [h]));simp at hlen;simp [hlen];intros;omega)
 have hk : ¬ kind = 2:=by simpa using hf
 rw [if_neg hk]
 simp only [zX]
 refine aR 1000 ?_
 exact Fin.scalar (.inr rfl) rfl trivial rfl trivial

theorem mementoref6_EntryRight_con (index term kind : Int) (data : List Nat) : Con Tryz.prog 42 [.agg [.v (.int .i64 index),.v (.int .i64 term),.v (.int .i64 kind),.sl (data.map brow)]] [] (B (entryRight index term kind data)) []:=by
 refine C_mementoref6_EntryRight nl nl ?_
 simp only [cz,A_mementoref6_EntryRight,argL,objL,List.length_nil,zX]
 refine aR 16 ?_
 refine aB 160 ?_
 refine rG _ _ (mementoref6_time_con index) ?_
 refine RG.go fun Q hQ=>?_
 simp only [zS,simprocAttr]
 refine ⟨by simp,hQ ?_⟩
 refine rG _ _ (mementoref6_time_con term) ?_
 refine RG.go fun Q hQ=>?_
 simp only [zS,simprocAttr]
 refine ⟨by simp,hQ (RG.nil ?_)⟩
 simp only [zX]
 refine aw_cond _ rfl trivial (fun ht=>?_) (fun hf=>?_)
 ·skip
  simp only [zX]
  refine aR 600 ?_
  have he : entryRight index term kind data = false:=by
   simp [timeS] at ht
   simp [entryRight,timeS]
   intros
   omega
  rw [he]
  exact Fin.scalar (.inr rfl) rfl trivial rfl trivial
 have he : entryRight index term kind data = (if kind = 0 then decide (data.length = 0) else if kind = 1 then decide (data.length≤32767) else if kind = 2 then decide (data.length = 2) && decide (data.getD 0 0 < 7) && decide (data.getD 1 0 < 2) else false):=by
  have h1 : timeS index = true∧¬ index < 1∧timeS term = true:=by simp at hf;exact ⟨hf.1.2,by omega,hf.2⟩
  have h2 : 1≤index:=by omega
  simp [entryRight,h1.1,h1.2.2,h2]
 rw [he]
 simp only [zX]
 refine aR 600 ?_
 refine aR 700 ?_
 refine aw_cond _ rfl trivial (fun ht=>?_) (fun hf=>?_)
 ·have hk : kind = 0:=by simpa using ht
  rw [if_pos hk]
  simp only [zX]
  refine aR 800 ?_
  exact Fin.b (.inr rfl) rfl trivial (by rw [Bool.eq_iff_iff];simp)
 have hk : ¬ kind = 0:=by simpa using hf
 rw [if_neg hk]
 simp only [zX]
 refine aR 800 ?_
 refine aw_cond _ rfl trivial (fun ht=>?_) (fun hf=>?_)
 ·have hk : kind = 1:=by simpa using ht
  rw [if_pos hk]
  simp only [zX]
  refine aR 900 ?_
  exact Fin.b (.inr rfl) rfl trivial (by rw [Bool.eq_iff_iff];simp;omega)
 have hk : ¬ kind = 1:=by simpa using hf
 rw [if_neg hk]
 simp only [zX]
 refine aR 900 ?_
 refine aw_cond _ rfl trivial (fun ht=>?_) (fun hf=>?_)
 ·have hk : kind = 2:=by simpa using ht
  rw [if_pos hk]
  simp only [zX]
  by_cases hlen : data.length = 2
  ·match data,hlen with
   | [a,b],_ =>
    have e1 : (List.map brow [a,b])[(0 : Int).toNat]?.getD [] = [.v (.int .u8 a)]:=rfl
    have e2 : (List.map brow [a,b])[(1 : Int).toNat]?.getD [] = [.v (.int .u8 b)]:=rfl
    refine aS 1000 (fun Q hQ=>by simp only [zS,brow,simprocAttr];exact hQ) ?_
    exact Fin.b (.inr rfl) rfl trivial (by rw [Bool.eq_iff_iff];simp;omega)
  ·have hl2 : (((data.map brow).length : Int) == 2) = false:=by simp;omega
   have hsh : ∃ c,((List.map brow data)[0]?.getD [])[0]?.getD default = c∧∃ d,((List.map brow data)[1]?.getD [])[0]?.getD default = d:=⟨_,rfl,_,rfl⟩
   rcases data with _ | ⟨a,_ | ⟨b,r⟩⟩
   ·skip
    refine aw_reg 1000 (RG.go fun Q hQ=>?_)
    simp only [zS,simprocAttr]
    refine hQ (RG.nil ?_)
    simp only [zX,simprocAttr]
    exact Fin.b (.inr rfl) rfl trivial (by simp)
   ·skip
    refine aS 1000 (fun Q hQ=>by simp only [zS,brow,simprocAttr];exact hQ) ?_
    exact Fin.b (.inr rfl) rfl trivial (by simp)
   ·have hl3 : ((((brow a :: brow b :: r.map brow) : List (List C)).length : Int) == 2) = false:=hl2
    refine aw_reg 1000 (RG.go fun Q hQ=>?_)
    simp only [zS,brow,simprocAttr]
    refine ⟨fun h=>⟨by omega,h⟩,fun h=>⟨by omega,h⟩,hQ (RG.nil ?_)⟩
    simp only [zX]
    exact Fin.b (.inr rfl) rfl trivial (by rw [Bool.eq_iff_iff];have h3 : r.length≠0:=(fun h=>hlen (by simp [h]));simp at hlen;simp [hlen];intros;omega)
 have hk : ¬ kind = 2:=by simpa using hf
 rw [if_neg hk]
 simp only [zX]
 refine aR 1000 ?_
 exact Fin.scalar (.inr rfl) rfl trivial rfl trivial


theorem slices_Grow_con (n : Nat) (hn : n≤100000000000000) : Con Tryz.prog 91 [.c (.v (.slice none 0 0)),I n] [] (.c (.osl 0)) [.arr 5 1 [] false]:=by
 have hw0 : IntKind.i64.wrap 0 = 0:=by decide
 have hw2 : IntKind.i64.wrap (n : Int) = n:=w64 _ (by omega) (by omega)
 refine C_slices_Grow_byte_byte nl nl ?_
 simp only [cz,A_slices_Grow_byte_byte,argL,objL,List.length_nil,Nat.zero_add,zX]
 refine aR 16 ?_
 refine aR 160 ?_
 refine aw_cond _ rfl trivial (fun ht=>?_) (fun hf=>?_)
 ·exfalso;simp at ht;omega
 simp only [zX]
 refine aS 320 (fun Q hQ=>by simp only [zS,Int.sub_zero,hw0,hw2,simprocAttr];exact hQ) ?_
 refine aR 480 ?_
 refine aw_cond _ rfl trivial (fun ht=>?_) (fun hf=>?_)
 ·have hn0 : 0 < n:=by simp at ht;omega
  refine aw_reg 641 (RG.go fun Q hQ=>?_)
  simp only [zS,simprocAttr]
  refine ⟨⟨by omega,by omega⟩,by simp,hQ (RG.nil ?_)⟩
  simp only [zX]
  refine aR 960 ?_
  refine Fin.objs [] [(0,769)] (.inr rfl) rfl (by exact trivial) ?_ ?_ (by simp [objL,rlook]) (by (simp [objL,rlook];done))
  ·simp only [zL,simprocAttr]
  ·simp only [zL,simprocAttr]
   all_goals (simp)
 have hn0 : n = 0:=by simp at hf;omega
 subst hn0
 simp only [zX]
 refine aR 640 ?_
 exact Fin.ownNil (.inr rfl) rfl trivial (by decide)


def prow (p : List Nat) : List C:=[.sl (p.map brow)]

theorem flat_take (parts : List (List Nat)) (i : Nat) (hi : i < parts.length) : (parts.take (i + 1)).flatten = (parts.take i).flatten ++ parts[i]:=by
 rw [take_one parts i hi,List.flatten_append];simp

theorem flat_len (parts : List (List Nat)) (i : Nat) : (parts.take i).flatten.length≤parts.flatten.length:=by
 have h : parts.flatten = (parts.take i).flatten ++ (parts.drop i).flatten:=by rw [← List.flatten_append,List.take_append_drop]
 rw [h,List.length_append];omega

theorem slices_Concat_con (parts : List (List Nat)) (hb : parts.flatten.length≤100000000000000) (hp : parts.length≤100000000000000) : Con Tryz.prog 66 [.c (.sl (parts.map prow))] [] (.c (.osl 0)) [.arr 5 1 (parts.flatten.map brow) false]:=by
 refine C_slices_Concat_byte_byte nl nl ?_
 simp only [cz,A_slices_Concat_byte_byte,argL,objL,List.length_nil,zX]
 refine aR 16 ?_
 refine aR 160 ?_
 refine aR 320 ?_
 refine aw_loop (X:={ i : Nat // i≤parts.length }) (fun i=>mkSt [(0,.c (.sl (parts.map prow))),(3,I ((parts.take i.1).flatten.length : Nat)),(9,.c (.sl (parts.map prow))),(10,I parts.length),(11,I i.1)] []) (fun i=>parts.length - i.1) ⟨0,Nat.zero_le _⟩ ?_ ?_
 ·refine Le.lit [] [] _ _ ?_ ?_ ?_ ?_
  ·skip
   simp only [zL,simprocAttr]
   simp
  ·skip
   simp only [zL,simprocAttr]
  ·simp
  ·simp
 rintro ⟨i,hi⟩
 have hfl:=flat_len parts i
 simp only [zX]
 refine aR 480 ?_
 refine aw_cond _ rfl trivial (fun ht=>?_) (fun hf=>?_)
 ·have hi' : i < parts.length:=by simpa using ht
  have hr : (List.map prow parts)[(i : Int).toNat]?.getD [] = [.sl (parts[i].map brow)]:=by simp [hi',prow]
  have hfl2:=flat_len parts (i + 1)
  have hft:=flat_take parts i hi'
  have hw : IntKind.i64.wrap (((parts.take i).flatten.length : Nat) + ((parts[i].map brow).length : Int)) = ((parts.take (i + 1)).flatten.length : Nat):=by
   rw [hft] at hfl2 ⊢
   rw [List.length_append,List.length_map] at *
   rw [w64 _ (by omega) (by omega)];omega
  simp only [zX]
  refine aw_reg 640 (RG.go fun Q hQ=>?_)
  simp only [zS,hr,simprocAttr]
  refine ⟨by simp;omega,hQ (RG.nil ?_)⟩
  simp only [zX]
  refine aS 800 (fun Q hQ=>by simp only [zS,hw,simprocAttr];exact hQ) ?_
  refine aR 960 ?_
  refine aw_cond _ rfl trivial (fun ht2=>?_) (fun hf2=>?_)
  ·exfalso;simp at ht2;omega
  simp only [zX]
  refine aR 1200 ?_
  refine ⟨⟨i + 1,hi'⟩,?_,by simp;omega⟩
  refine Le.lit [] [] _ _ ?_ ?_ ?_ ?_
  ·skip
   simp only [zL,simprocAttr]
   rw [w64 _ (by omega) (by omega)];rfl
  ·skip
   simp only [zL,simprocAttr]
  ·simp
  ·simp
 have hi' : i = parts.length:=by simp at hf;omega
 subst hi'
 rw [List.take_length]
 simp only [zX,↓reduceIte]
 refine aB 640 ?_
 refine rO [] [] (slices_Grow_con parts.flatten.length hb) ?_
 refine aE ?_
 refine aR 960 ?_
 refine aw_loop (X:={ i : Nat // i≤parts.length }) (fun i=>mkSt [(6,.c (.osl 1000)),(25,.c (.sl (parts.map prow))),(26,I parts.length),(27,I i.1)] [(1000,.arr 5 1 ((parts.take i.1).flatten.map brow) false)]) (fun i=>parts.length - i.1) ⟨0,Nat.zero_le _⟩ ?_ ?_
 ·refine Le.lit [] [(1000,656)] _ _ ?_ ?_ ?_ ?_
  ·skip
   simp only [zL,simprocAttr]
   simp
  ·skip
   simp only [zL,simprocAttr]
   simp
  ·simp
  ·simp
 rintro ⟨i,hi⟩
 have hfl:=flat_len parts i
 simp only [zX]
 refine aR 1480 ?_
 refine aw_cond _ rfl trivial (fun ht=>?_) (fun hf=>?_)
 ·have hi' : i < parts.length:=by simpa using ht
  have hr : (List.map prow parts)[(i : Int).toNat]?.getD [] = [.sl (parts[i].map brow)]:=by simp [hi',prow]
  have hfl2:=flat_len parts (i + 1)
  have hft:=flat_take parts i hi'
  simp only [zX]
  refine aw_reg 1640 (RG.go fun Q hQ=>?_)
  simp only [zS,hr,simprocAttr]
  refine ⟨by simp;omega,hQ (RG.nil ?_)⟩
  simp only [zX]
  refine aw_reg 1800 (RG.go fun Q hQ=>?_)
  simp only [zS,simprocAttr]
  refine ⟨⟨brow_len _,by rw [hft,List.length_append] at hfl2;simp only [List.length_map];omega⟩,hQ (RG.nil ?_)⟩
  simp only [zX]
  refine aR 2200 ?_
  refine ⟨⟨i + 1,hi'⟩,?_,by simp;omega⟩
  refine Le.lit [] [(1000,1832)] _ _ ?_ ?_ ?_ ?_
  ·skip
   simp only [zL,simprocAttr]
   rw [w64 _ (by omega) (by omega)];rfl
  ·skip
   simp only [zL,simprocAttr]
   exact ⟨by rw [hft,List.map_append],drows_brow _⟩
  ·simp
  ·simp
 have hi' : i = parts.length:=by simp at hf;omega
 subst hi'
 simp only [zX,↓reduceIte]
 refine aR 1640 ?_
 refine Fin.objs [] [(0,1000)] (.inr rfl) rfl (by exact trivial) ?_ ?_ (by simp [objL,rlook]) (by (simp [objL,rlook];done))
 ·simp only [zL,simprocAttr]
 ·simp only [zL,simprocAttr]
  all_goals (exact ⟨by rw [List.take_length],drows_brow _⟩)

theorem pack_Join_con (parts : List (List Nat)) (hb : parts.flatten.length≤100000000000000) (hp : parts.length≤100000000000000) : Con Tryz.prog 28 [.c (.sl (parts.map prow))] [] (.c (.osl 0)) [.arr 5 1 (parts.flatten.map brow) false]:=by
 refine C_pack_Join nl nl ?_
 simp only [cz,A_pack_Join,argL,objL,List.length_nil,zX]
 refine aR 16 ?_
 refine aB 160 ?_
 refine RG.callo [] [] (slices_Concat_con parts hb hp) (.mk (tr_cons tr_sl tr_nil) (trivial) (by simp) (by simp) (trivial) (by simp [lkE_nil]) (by simp only [List.mem_singleton,forall_eq,Ent.pure];exact drows_brow _) (by simp) (by simp)) ?_
 refine aE ?_
 refine Fin.objs [] [(0,176)] (.inr rfl) rfl (by exact trivial) ?_ ?_ (by simp [objL,rlook]) (by (simp [objL,rlook];done))
 ·simp only [zL,simprocAttr]
 ·simp only [zL,simprocAttr]
  all_goals (exact drows_brow _)

def putE (index term kind : Int) (data : List Nat) : List Nat :=
 if entryRight index term kind data then putS [index.toNat,term.toNat,kind.toNat] ++ (num7 data.length ++ data) else []

theorem entryRight_facts {index term kind : Int} {data : List Nat} (h : entryRight index term kind data = true) : 1≤index∧index≤1099511627776∧0≤term∧term≤1099511627776∧0≤kind∧kind≤2∧data.length≤32767:=by
 unfold entryRight timeS at h
 simp only [Bool.and_eq_true,decide_eq_true_eq] at h
 obtain ⟨⟨⟨h1,h2⟩,h3⟩,h4⟩:=h
 split at h4
 ·simp at h4;subst h4;simp;omega
 ·split at h4
  ·simp at h4;omega
  ·split at h4
   ·simp at h4;omega
   ·simp at h4

theorem u64_nat {n : Int} (h : 0≤n) (h' : n≤9223372036854775807) : IntKind.u64.wrap n = (n.toNat : Int):=by rw [w_u64];omega

abbrev entC (index term kind : Int) (data : List Nat) : List C:=[.v (.int .i64 index),.v (.int .i64 term),.v (.int .i64 kind),.sl (data.map brow)]

theorem entry_Put_con (index term kind : Int) (data : List Nat) : Con Tryz.prog 25 [.agg (entC index term kind data)] [] (.c (.sl ((putE index term kind data).map brow))) []:=by
 refine C_entry_Put nl nl ?_
 simp only [cz,A_entry_Put,argL,objL,List.length_nil,zX]
 refine aR 16 ?_
 refine aB 160 ?_
 refine rC [] (entry_Right_con index term kind data) ?_ (hv:=(trivial)) (hs:=(.inl trivial))
 refine aE ?_
 refine aw_cond _ rfl trivial (fun ht=>?_) (fun hf=>?_)
 ·have he : entryRight index term kind data = false:=by simpa using ht
  simp only [zX]
  refine aR 600 ?_
  have hp : putE index term kind data = []:=by simp [putE,he]
  rw [hp]
  exact Fin.data [] (.inr rfl) rfl trivial ⟨rfl,rfl⟩
 have he : entryRight index term kind data = true:=by simpa using hf
 obtain ⟨h1,h2,h3,h4,h5,h6,h7⟩:=entryRight_facts he
 have w1:=u64_nat (n:=index) (by omega) (by omega)
 have w2:=u64_nat (n:=term) (by omega) (by omega)
 have w3:=u64_nat (n:=kind) (by omega) (by omega)
 have hp : putE index term kind data = putS [index.toNat,term.toNat,kind.toNat] ++ (num7 data.length ++ data):=by simp [putE,he]
 simp only [zX]
 refine aBDs 800 (fun Q hQ=>by simp only [zS,w1,w2,w3,simprocAttr];exact hQ) ?_
 refine RG.callo [] [944] ((pack_Put_con [index.toNat,term.toNat,kind.toNat] (by simp) (by simp;omega)).rows (drows_brow _)) (.mk (tr_cons (tr_view (by simp) rfl (by simp [isDRows,urow,C.isD])) tr_nil) (trivial) (by simp) (by simp) (views1 rfl trivial) (by simp [lkE_cons,lkE_nil]) (by simp) (by simp) (by simp)) ?_
 refine aM ?_
 refine rO [] [] ((pack_Lump_con data (by omega)).rows (drows_brow _)) ?_
 refine aM ?_
 have hlen : ([putS [index.toNat,term.toNat,kind.toNat],num7 data.length ++ data] : List (List Nat)).flatten.length≤100000000000000:=by
  have g1:=putS_len [index.toNat,term.toNat,kind.toNat] (by simp;omega)
  have g2:=num7_len data.length (by omega)
  simp only [List.length_cons,List.length_nil] at g1
  simp;omega
 have hfl : ([putS [index.toNat,term.toNat,kind.toNat],num7 data.length ++ data] : List (List Nat)).flatten = putE index term kind data:=by rw [hp];simp
 refine RG.callo [] [1024] ((pack_Join_con [putS [index.toNat,term.toNat,kind.toNat],num7 data.length ++ data] hlen (by simp)).rows (drows_brow _)) (.mk (tr_cons (tr_view (by simp) rfl (by simp [isDRows,prow,C.isD])) tr_nil) (trivial) (by simp) (by simp) (views1 rfl trivial) (by simp [lkE_cons,lkE_nil]) (by simp) (by simp) (by simp)) ?_
 refine RG.go fun Q hQ=>?_
 simp only [zS,simprocAttr]
 refine hQ (RG.nil ⟨by decide,?_⟩)
 simp only [zX]
 rw [hfl]
 exact Fin.data [] (.inr rfl) rfl trivial rfl

theorem mementoref6_PutEntry_con (index term kind : Int) (data : List Nat) : Con Tryz.prog 32 [.agg (entC index term kind data)] [] (.c (.sl ((putE index term kind data).map brow))) []:=by
 refine C_mementoref6_PutEntry nl nl ?_
 simp only [cz,A_mementoref6_PutEntry,argL,objL,List.length_nil,zX]
 refine aR 16 ?_
 refine aB 160 ?_
 refine rC [] (mementoref6_EntryRight_con index term kind data) ?_ (hv:=(trivial)) (hs:=(.inl trivial))
 refine aE ?_
 refine aw_cond _ rfl trivial (fun ht=>?_) (fun hf=>?_)
 ·have he : entryRight index term kind data = false:=by simpa using ht
  simp only [zX]
  refine aR 600 ?_
  have hp : putE index term kind data = []:=by simp [putE,he]
  rw [hp]
  exact Fin.data [] (.inr rfl) rfl trivial ⟨rfl,rfl⟩
 have he : entryRight index term kind data = true:=by simpa using hf
 obtain ⟨h1,h2,h3,h4,h5,h6,h7⟩:=entryRight_facts he
 have w1:=u64_nat (n:=index) (by omega) (by omega)
 have w2:=u64_nat (n:=term) (by omega) (by omega)
 have w3:=u64_nat (n:=kind) (by omega) (by omega)
 have hp : putE index term kind data = putS [index.toNat,term.toNat,kind.toNat] ++ (num7 data.length ++ data):=by simp [putE,he]
 simp only [zX]
 refine aBDs 800 (fun Q hQ=>by simp only [zS,w1,w2,w3,simprocAttr];exact hQ) ?_
 refine RG.callo [] [944] (mementoref1_Put_con [index.toNat,term.toNat,kind.toNat] (by simp) (by simp;omega)) (.mk (tr_cons (tr_view (by simp) rfl (by simp [isDRows,urow,C.isD])) tr_nil) (trivial) (by simp) (by simp) (views1 rfl trivial) (by simp [lkE_cons,lkE_nil]) (by simp only [List.mem_singleton,forall_eq,Ent.pure];exact drows_brow _) (by simp) (by simp)) ?_
 refine aM ?_
 refine rO [] [] ((mementoref1_Lump_con data (by omega)).rows (drows_brow _)) ?_
 refine RG.go fun Q hQ=>?_
 simp only [zS,simprocAttr]
 have g1:=putS_len [index.toNat,term.toNat,kind.toNat] (by simp;omega)
 have g2:=num7_len data.length (by omega)
 refine ⟨⟨brow_len _,by simp only [List.length_cons,List.length_nil] at g1;simp;omega⟩,hQ (RG.nil ⟨by decide,?_⟩)⟩
 simp only [zX]
 rw [← List.map_append,← hp]
 exact Fin.data [1024] (.inr rfl) rfl trivial ⟨⟨_,_,rfl⟩,drows_brow _⟩

def sameE (i t k : Int) (d : List Nat) (i' t' k' : Int) (d' : List Nat) : Bool:=i == i' && t == t' && k == k' && decide (d = d')

theorem entry_Same_con (i t k : Int) (d : List Nat) (i' t' k' : Int) (d' : List Nat) (hd : ∀ c ∈ d,c < 256) (hd' : ∀ c ∈ d',c < 256) : Con Tryz.prog 43 [.agg (entC i t k d),.agg (entC i' t' k' d')] [] (B (sameE i t k d i' t' k' d')) []:=by
 refine C_entry_Same nl nl ?_
 simp only [cz,A_entry_Same,argL,objL,List.length_nil,Nat.zero_add,zX]
 refine aR 16 ?_
 refine aB 160 ?_
 refine rG _ _ (bytes_Equal_con d d' hd hd') ?_
 refine aE ?_
 exact Fin.b (.inr rfl) rfl trivial (by simp [sameE])

theorem mementoref6_SameEntry_con (i t k : Int) (d : List Nat) (i' t' k' : Int) (d' : List Nat) (hd : ∀ c ∈ d,c < 256) (hd' : ∀ c ∈ d',c < 256) : Con Tryz.prog 73 [.agg (entC i t k d),.agg (entC i' t' k' d')] [] (B (sameE i t k d i' t' k' d')) []:=by
 have hs:=str_eq d d' hd hd'
 refine C_mementoref6_SameEntry nl nl ?_
 simp only [cz,A_mementoref6_SameEntry,argL,objL,List.length_nil,Nat.zero_add,zX]
 refine aR 16 ?_
 refine aw_reg 160 (RG.go fun Q hQ=>?_)
 simp only [zS,hs,simprocAttr]
 refine ⟨fun h=>⟨isByteRow_brow _,h⟩,fun h=>⟨isByteRow_brow _,h⟩,hQ (RG.nil ?_)⟩
 simp only [zX]
 exact Fin.b (.inr rfl) rfl trivial (by simp [sameE])

structure ReadE where
 i : Nat
 t : Nat
 k : Nat
 d : List Nat
 ok : Bool
 l : List Nat
 e : Nat

def readE (l : List Nat) (e : Nat) : ReadE :=
 let a:=numR 1099511627776 l e
 let b:=numR 1099511627776 a.2.1 a.2.2
 let c:=numR 2 b.2.1 b.2.2
 let d:=lumpR 32767 c.2.1 c.2.2
 if d.2.2 = 0∧entryRight a.1 b.1 c.1 d.1 = true then ⟨a.1,b.1,c.1,d.1,true,d.2.1,d.2.2⟩ else ⟨0,0,0,[],false,d.2.1,d.2.2⟩

theorem numR_le {most : Nat} {l : List Nat} {e : Nat} : (numR most l e).1≤most:=by
 unfold numR
 split
 ·simp
 ·split
  ·simp
  ·split
   ·simp
   ·simp only;omega

theorem lumpR_mem {most : Nat} {l : List Nat} {e : Nat} (hl : ∀ c ∈ l,c < 256) : (∀ c ∈ (lumpR most l e).1,c < 256)∧∀ c ∈ (lumpR most l e).2.1,c < 256:=by
 have h:=numR_mem (most:=most) (e:=e) hl
 unfold lumpR
 split
 ·exact ⟨by simp,h⟩
 ·split
  ·exact ⟨by simp,by simp⟩
  ·exact ⟨fun c hc=>h c (List.mem_of_mem_take hc),fun c hc=>h c (List.mem_of_mem_drop hc)⟩

theorem lumpR_len {most : Nat} {l : List Nat} {e : Nat} : (lumpR most l e).1.length≤l.length∧(lumpR most l e).2.1.length≤l.length:=by
 have h:=numR_len (most:=most) (l:=l) (e:=e)
 unfold lumpR
 split
 ·exact ⟨by simp,h⟩
 ·split
  ·simp
  ·simp only [List.length_take,List.length_drop];omega

theorem w_nat {n : Nat} (h : n≤9223372036854775807) : IntKind.i64.wrap (n : Int) = n:=w64 _ (by omega) (by omega)

theorem entry_Read_con (l : List Nat) (e : Nat) (hl : ∀ c ∈ l,c < 256) (hb : l.length≤140737488355328) : Con Tryz.prog 78 [.c (.bp 0 0)] [Rd l e] (.tup [.agg (entC (readE l e).i (readE l e).t (readE l e).k (readE l e).d),B (readE l e).ok]) [Rd (readE l e).l (readE l e).e]:=by
 generalize hr : readE l e = r
 unfold readE at hr
 have m1:=numR_mem (most:=1099511627776) (e:=e) hl
 have n1:=numR_len (most:=1099511627776) (l:=l) (e:=e)
 have w1:=w_nat (n:=(numR 1099511627776 l e).1) (by have:=numR_le (most:=1099511627776) (l:=l) (e:=e);omega)
 have c1:=pack_Reader_Num_con l e 1099511627776 hl hb
 generalize numR 1099511627776 l e = a at hr m1 n1 w1 c1
 obtain ⟨a,l1,e1⟩:=a
 simp only at hr m1 n1 w1 c1
 have m2:=numR_mem (most:=1099511627776) (e:=e1) m1
 have n2:=numR_len (most:=1099511627776) (l:=l1) (e:=e1)
 have w2:=w_nat (n:=(numR 1099511627776 l1 e1).1) (by have:=numR_le (most:=1099511627776) (l:=l1) (e:=e1);omega)
 have c2:=pack_Reader_Num_con l1 e1 1099511627776 m1 (by omega)
 generalize numR 1099511627776 l1 e1 = b at hr m2 n2 w2 c2
 obtain ⟨b,l2,e2⟩:=b
 simp only at hr m2 n2 w2 c2
 have m3:=numR_mem (most:=2) (e:=e2) m2
 have n3:=numR_len (most:=2) (l:=l2) (e:=e2)
 have w3:=w_nat (n:=(numR 2 l2 e2).1) (by have:=numR_le (most:=2) (l:=l2) (e:=e2);omega)
 have c3:=pack_Reader_Num_con l2 e2 2 m2 (by omega)
 generalize numR 2 l2 e2 = c at hr m3 n3 w3 c3
 obtain ⟨c,l3,e3⟩:=c
 simp only at hr m3 n3 w3 c3
 have c4:=pack_Reader_Lump_con l3 e3 32767 m3 (by omega) (by omega)
 generalize lumpR 32767 l3 e3 = d at hr c4
 obtain ⟨d,l4,e4⟩:=d
 simp only at hr c4
 refine C_entry_Read nl nl ?_
 simp only [cz,A_entry_Read,argL,objL,List.length_nil,List.length_cons,Nat.zero_add,zX]
 refine aR 16 ?_
 refine aR 160 ?_
 refine aF ?_
 refine aB 320 ?_
 refine rO [0] [] (c1) ?_
 refine aM ?_
 refine rO [0] [] (c2) ?_
 refine aM ?_
 refine rO [0] [] (c3) ?_
 refine aM ?_
 refine rO [0] [] (c4) ?_
 refine RG.go fun Q hQ=>?_
 simp only [zS,simprocAttr]
 simp only [w1,w2,w3]
 refine hQ (RG.nil ?_)
 simp only [zX]
 refine aB 800 ?_
 refine rO [0] [] (pack_rest_Err_con (l4.map brow) e4) ?_
 refine aM ?_
 refine rG _ _ (entry_Right_con a b c d) ?_
 refine RG.go fun Q hQ=>?_
 simp only [zS,simprocAttr]
 refine ⟨fun h=>by rw [h];rfl,hQ (RG.nil ?_)⟩
 simp only [zX]
 refine aw_cond _ rfl trivial (fun ht=>?_) (fun hf=>?_)
 ·have hn : ¬ (e4 = 0∧entryRight a b c d = true):=by
   rintro ⟨h1,h2⟩;rw [h2] at ht;simp at ht;omega
  rw [if_neg hn] at hr
  subst hr
  simp only [zX]
  refine aR 1200 ?_
  refine Fin.objs [] [] (.inr rfl) rfl (by exact ⟨trivial,trivial⟩) ?_ ?_ (by simp [objL,rlook]) (by (simp [objL,rlook];done))
  ·simp only [zL,simprocAttr]
   all_goals (simp [entC,TrL,WkC,WkC0])
  ·simp only [zL,↓reduceIte]
 have hn : e4 = 0∧entryRight a b c d = true:=by simp at hf;exact ⟨by omega,hf.2⟩
 rw [if_pos hn] at hr
 subst hr
 simp only [zX]
 refine aR 1200 ?_
 refine Fin.objs [] [] (.inr rfl) rfl (by exact ⟨trivial,trivial⟩) ?_ ?_ (by simp [objL,rlook]) (by (simp [objL,rlook];done))
 ·simp only [zL,simprocAttr]
  all_goals (simp [entC,TrL,WkC,WkC0])
 ·simp only [zL,↓reduceIte]

theorem mementoref6_ReadEntry_con (l : List Nat) (e : Nat) (hl : ∀ c ∈ l,c < 256) (hb : l.length≤140737488355328) : Con Tryz.prog 54 [.c (.bp 0 0)] [Rd l e] (.tup [.agg (entC (readE l e).i (readE l e).t (readE l e).k (readE l e).d),B (readE l e).ok]) [Rd (readE l e).l (readE l e).e]:=by
 generalize hr : readE l e = r
 unfold readE at hr
 have m1:=numR_mem (most:=1099511627776) (e:=e) hl
 have n1:=numR_len (most:=1099511627776) (l:=l) (e:=e)
 have w1:=w_nat (n:=(numR 1099511627776 l e).1) (by have:=numR_le (most:=1099511627776) (l:=l) (e:=e);omega)
 have c1:=mementoref1_Reader_Num_con l e 1099511627776 hl hb
 generalize numR 1099511627776 l e = a at hr m1 n1 w1 c1
 obtain ⟨a,l1,e1⟩:=a
 simp only at hr m1 n1 w1 c1
 have m2:=numR_mem (most:=1099511627776) (e:=e1) m1
 have n2:=numR_len (most:=1099511627776) (l:=l1) (e:=e1)
 have w2:=w_nat (n:=(numR 1099511627776 l1 e1).1) (by have:=numR_le (most:=1099511627776) (l:=l1) (e:=e1);omega)
 have c2:=mementoref1_Reader_Num_con l1 e1 1099511627776 m1 (by omega)
 generalize numR 1099511627776 l1 e1 = b at hr m2 n2 w2 c2
 obtain ⟨b,l2,e2⟩:=b
 simp only at hr m2 n2 w2 c2
 have m3:=numR_mem (most:=2) (e:=e2) m2
 have n3:=numR_len (most:=2) (l:=l2) (e:=e2)
 have w3:=w_nat (n:=(numR 2 l2 e2).1) (by have:=numR_le (most:=2) (l:=l2) (e:=e2);omega)
 have c3:=mementoref1_Reader_Num_con l2 e2 2 m2 (by omega)
 generalize numR 2 l2 e2 = c at hr m3 n3 w3 c3
 obtain ⟨c,l3,e3⟩:=c
 simp only at hr m3 n3 w3 c3
 have c4:=mementoref1_Reader_Lump_con l3 e3 32767 m3 (by omega) (by omega)
 generalize lumpR 32767 l3 e3 = d at hr c4
 obtain ⟨d,l4,e4⟩:=d
 simp only at hr c4
 refine C_mementoref6_ReadEntry nl nl ?_
 simp only [cz,A_mementoref6_ReadEntry,argL,objL,List.length_nil,List.length_cons,Nat.zero_add,zX]
 refine aR 16 ?_
 refine aR 160 ?_
 refine aB 320 ?_
 refine rO [0] [] (c1) ?_
 refine RG.go fun Q hQ=>?_
 simp only [zS,simprocAttr]
 simp only [w1]
 refine hQ (RG.nil ?_)
 simp only [zX]
 refine aB 480 ?_
 refine rO [0] [] (c2) ?_
 refine RG.go fun Q hQ=>?_
 simp only [zS,simprocAttr]
 simp only [w2]
 refine hQ (RG.nil ?_)
 simp only [zX]
 refine aB 640 ?_
 refine rO [0] [] (c3) ?_
 refine RG.go fun Q hQ=>?_
 simp only [zS,simprocAttr]
 simp only [w3]
 refine hQ (RG.nil ?_)
 simp only [zX]
 refine aB 800 ?_
 refine rO [0] [] (c4) ?_
 refine aE ?_
 refine aB 960 ?_
 refine rG _ _ (mementoref6_EntryRight_con a b c d) ?_
 refine RG.go fun Q hQ=>?_
 simp only [zS,simprocAttr]
 refine ⟨fun h=>by rw [h];rfl,hQ (RG.nil ?_)⟩
 simp only [zX]
 refine aw_cond _ rfl trivial (fun ht=>?_) (fun hf=>?_)
 ·have hn : ¬ (e4 = 0∧entryRight a b c d = true):=by
   rintro ⟨h1,h2⟩;rw [h2] at ht;simp at ht;omega
  rw [if_neg hn] at hr
  subst hr
  simp only [zX]
  refine aR 1200 ?_
  refine Fin.objs [] [] (.inr rfl) rfl (by exact ⟨trivial,trivial⟩) ?_ ?_ (by simp [objL,rlook]) (by (simp [objL,rlook];done))
  ·simp only [zL,simprocAttr]
   all_goals (simp [entC,TrL,WkC,WkC0])
  ·simp only [zL,↓reduceIte]
 have hn : e4 = 0∧entryRight a b c d = true:=by simp at hf;exact ⟨by omega,hf.2⟩
 rw [if_pos hn] at hr
 subst hr
 simp only [zX]
 refine aR 1200 ?_
 refine Fin.objs [] [] (.inr rfl) rfl (by exact ⟨trivial,trivial⟩) ?_ ?_ (by simp [objL,rlook]) (by (simp [objL,rlook];done))
 ·simp only [zL,simprocAttr]
  all_goals (simp [entC,TrL,WkC,WkC0])
 ·simp only [zL,↓reduceIte]

def nrow (n : Int) : List C:=[.v (.int .i64 n)]

theorem drows_nrow (l : List Int) : isDRows (l.map nrow):=by
 intro r hr c hc
 obtain ⟨n,_,rfl⟩:=List.mem_map.1 hr
 simp only [nrow,List.mem_singleton] at hc
 subst hc;rfl

theorem nrow_len (l : List Int) : ∀ r ∈ l.map nrow,r.length = 1:=by
 intro r hr
 obtain ⟨n,_,rfl⟩:=List.mem_map.1 hr
 rfl

theorem slices_Clone_int_int_con (rows : List (List C)) (hd : isDRows rows) (h1 : ∀ r ∈ rows,r.length = 1) (hb : rows.length≤10000000000000) : Con Tryz.prog 116 [.c (.sl rows)] [] (.c (.osl 0)) [.arr 3 1 rows false]:=by
 by_cases hr : rows = []
 ·subst hr
  refine Con.split1 ?_ fun ad cap=>?_
  ·skip
   refine C_slices_Clone_int_int nl nl ?_
   simp only [cz,A_slices_Clone_int_int,argL,objL,List.length_nil,zX]
   refine aR 16 ?_
   refine aR 160 ?_
   refine aT ?_
   refine aR 320 ?_
   exact Fin.ownNil (.inr rfl) rfl trivial (by decide)
  ·skip
   refine C_slices_Clone_int_int nl nl ?_
   simp only [cz,A_slices_Clone_int_int,argL,objL,List.length_nil,zX]
   refine aR 16 ?_
   refine aR 160 ?_
   refine aF ?_
   refine aw_reg 320 (RG.go fun Q hQ=>?_)
   simp only [zS,simprocAttr]
   refine ⟨by simp,hQ (RG.nil ?_)⟩
   simp only [zX]
   refine Fin.objs [] [(0,352)] (.inr rfl) rfl (by exact trivial) ?_ ?_ (by simp [objL,rlook]) (by (simp [objL,rlook];done))
   ·simp only [zL,simprocAttr]
   ·simp only [zL,simprocAttr]
    all_goals (simp)
 ·skip
  refine C_slices_Clone_int_int nl nl ?_
  simp only [cz,A_slices_Clone_int_int,argL,objL,List.length_nil,zX]
  refine aR 16 ?_
  refine aw_reg 160 (RG.go fun Q hQ=>?_)
  simp only [zS,simprocAttr]
  refine ⟨hr,hQ (RG.nil ?_)⟩
  simp only [zX]
  refine aF ?_
  refine aw_reg 320 (RG.go fun Q hQ=>?_)
  simp only [zS,simprocAttr]
  refine ⟨⟨h1,by omega⟩,hQ (RG.nil ?_)⟩
  simp only [zX]
  refine Fin.objs [] [(0,352)] (.inr rfl) rfl (by exact trivial) ?_ ?_ (by simp [objL,rlook]) (by (simp [objL,rlook];done))
  ·simp only [zL,simprocAttr]
  ·simp only [zL,simprocAttr]
   all_goals (exact hd)

def mayN (n : Int) : Bool:=decide (0≤n) && decide (n < 7)

theorem conf_may_con (n : Int) : Con Tryz.prog 118 [I n] [] (B (mayN n)) []:=by
 refine C_conf_may nl nl ?_
 simp only [cz,A_conf_may,argL,objL,List.length_nil,zX]
 refine aR 16 ?_
 refine aR 160 ?_
 exact Fin.b (.inr rfl) rfl trivial (by rw [Bool.eq_iff_iff];simp [mayN])

theorem conf_Of_1_con (n : Int) : Con Tryz.prog 117 [I n] [] (B (!mayN n)) []:=by
 refine C_conf_Of_1 nl nl ?_
 simp only [cz,A_conf_Of_1,argL,objL,List.length_nil,zX]
 refine aR 16 ?_
 refine aB 160 ?_
 refine rC [] (conf_may_con n) ?_ (hv:=(trivial)) (hs:=(.inl trivial))
 refine aE ?_
 exact Fin.scalar (.inr rfl) rfl trivial rfl trivial

def idxN (l : List Int) : Int:=match l.findIdx? (fun n=>!mayN n) with
 | some i=>i
 | none=>-1

theorem idxN_hit {l : List Int} {i : Nat} (hi : i < l.length) (hm : mayN l[i] = false) (hb : ∀ j (h : j < i),mayN (l[j]'(by omega)) = true) : idxN l = i:=by
 have : l.findIdx? (fun n=>!mayN n) = some i:=by
  rw [List.findIdx?_eq_some_iff_getElem]
  exact ⟨hi,by simp [hm],fun j hj=>by simp [hb j hj]⟩
 simp [idxN,this]

theorem idxN_miss {l : List Int} (hb : ∀ n ∈ l,mayN n = true) : idxN l = -1:=by
 have : l.findIdx? (fun n=>!mayN n) = none:=by
  rw [List.findIdx?_eq_none_iff]
  intro x hx;show (!mayN x) = false;rw [hb x hx];rfl
 simp [idxN,this]

theorem slices_IndexFunc_con (l : List Int) (hb : l.length≤10000000000000) : Con Tryz.prog 135 [.c (.sl (l.map nrow)),.c (.fn 117 [])] [] (I (idxN l)) []:=by
 refine C_slices_IndexFunc_int_int nl nl ?_
 simp only [cz,A_slices_IndexFunc_int_int,argL,objL,List.length_nil,Nat.zero_add,zX]
 refine aR 16 ?_
 refine aR 160 ?_
 refine aw_loop (X:={ i : Nat // i≤l.length∧∀ j (h : j < l.length),j < i→mayN l[j] = true }) (fun i=>mkSt [(0,.c (.sl (l.map nrow))),(1,.c (.fn 117 [])),(7,I l.length),(8,I i.1)] []) (fun i=>l.length - i.1) ⟨0,Nat.zero_le _,fun j _ h=>by omega⟩ ?_ ?_
 ·refine Le.lit [] [] _ _ ?_ ?_ ?_ ?_
  ·skip
   simp only [zL,simprocAttr]
   simp
  ·skip
   simp only [zL,simprocAttr]
  ·simp
  ·simp
 rintro ⟨i,hi,hall⟩
 simp only [zX]
 refine aR 320 ?_
 refine aw_cond _ rfl trivial (fun ht=>?_) (fun hf=>?_)
 ·have hi' : i < l.length:=by simpa using ht
  have hr : (List.map nrow l)[(i : Int).toNat]?.getD [] = [.v (.int .i64 l[i])]:=by simp [hi',nrow]
  simp only [zX]
  refine aR 480 ?_
  refine aw_reg 640 (RG.go fun Q hQ=>?_)
  simp only [zS,hr,simprocAttr]
  refine ⟨by simp;omega,hQ ?_⟩
  refine RG.callv [] rfl trivial (conf_Of_1_con l[i]) (tr_cons tr_v tr_nil) trivial (.inl trivial) ?_
  refine aE ?_
  refine aw_cond _ rfl trivial (fun ht=>?_) (fun hf=>?_)
  ·have hm : mayN l[i] = false:=by simpa using ht
   rw [idxN_hit hi' hm fun j hj=>hall j (by omega) hj]
   simp only [zX]
   refine aR 800 ?_
   exact Fin.scalar (.inr rfl) rfl trivial rfl trivial
  have hm : mayN l[i] = true:=by simpa using hf
  simp only [zX]
  refine aR 800 ?_
  refine ⟨⟨i + 1,hi',fun j h hj=>?_⟩,?_,by simp;omega⟩
  ·rcases Nat.lt_or_ge j i with h1 | h1
   ·exact hall j h h1
   ·have : j = i:=by omega
    subst this;exact hm
  refine Le.lit [] [] _ _ ?_ ?_ ?_ ?_
  ·skip
   simp only [zL,simprocAttr]
   rw [w64 _ (by omega) (by omega)];rfl
  ·skip
   simp only [zL,simprocAttr]
  ·simp
  ·simp
 have hi' : i = l.length:=by simp at hf;omega
 subst hi'
 rw [idxN_miss fun n hn=>by obtain ⟨j,hj,rfl⟩:=List.mem_iff_getElem.1 hn;exact hall j hj hj]
 simp only [zX,↓reduceIte]
 refine aR 480 ?_
 exact Fin.scalar (.inr rfl) rfl trivial rfl trivial


theorem idxN_cases (l : List Int) : (idxN l = -1∧∀ n ∈ l,mayN n = true)∨∃ i,∃ h : i < l.length,idxN l = (i : Nat)∧mayN l[i] = false∧∀ j (h : j < i),mayN (l[j]'(by omega)) = true:=by
 unfold idxN
 cases hf : l.findIdx? (fun n=>!mayN n) with
 | none =>
  refine .inl ⟨rfl,fun n hn=>?_⟩
  rw [List.findIdx?_eq_none_iff] at hf
  simpa using hf n hn
 | some i =>
  rw [List.findIdx?_eq_some_iff_getElem] at hf
  obtain ⟨h1,h2,h3⟩:=hf
  exact .inr ⟨i,h1,rfl,by simpa using h2,fun j hj=>by simpa using h3 j hj⟩

theorem filter_lt (l : List Int) (i j : Nat) (hi : i < l.length) (hm : mayN l[i] = false) (hj : i < j) (hjl : j≤l.length) : ((l.take j).filter mayN).length < j:=by
 have h : ((l.take j).filter mayN).length < (l.take j).length:=by
  rw [List.length_filter_lt_length_iff_exists]
  exact ⟨l[i],List.mem_of_getElem? (i:=i) (by rw [List.getElem?_take,if_pos hj];exact List.getElem?_eq_getElem hi),by simp [hm]⟩
 simp at h;omega

theorem filter_first (l : List Int) (i0 : Nat) (hi0 : i0 < l.length) (h2 : mayN l[i0] = false) (h3 : ∀ j (h : j < i0),mayN (l[j]'(by omega)) = true) : (l.take (i0 + 1)).filter mayN = l.take i0:=by
 rw [take_one l i0 hi0,List.filter_append]
 have e1 : (l.take i0).filter mayN = l.take i0:=List.filter_eq_self.2 fun n hn=>by
  obtain ⟨j,hj,rfl⟩:=List.mem_iff_getElem.1 hn
  simp at hj
  rw [List.getElem_take];exact h3 j (by omega)
 simp [e1,h2]

theorem filter_next (l : List Int) (j : Nat) (hj : j < l.length) : (l.take (j + 1)).filter mayN = (l.take j).filter mayN ++ if mayN l[j] then [l[j]] else []:=by
 rw [take_one l j hj,List.filter_append]
 cases h : mayN l[j] <;> simp [h]

theorem set_take {α : Type} (l : List α) (i : Nat) (x : α) (hi : i < l.length) : (l.set i x).take (i + 1) = l.take i ++ [x]:=by
 rw [List.take_set,take_one l i hi,List.set_append,if_neg (by rw [List.length_take];omega),List.length_take,Nat.min_eq_left (by omega),Nat.sub_self]
 simp

theorem drop_get {α : Type} {l m : List α} {j : Nat} (h : l.drop j = m.drop j) : l[j]? = m[j]?:=by
 have:=congrArg (fun k=>k[0]?) h
 simpa using this

theorem slices_DeleteFunc_con (l : List Int) (hb : l.length≤10000000000000) : Con Tryz.prog 115 [.c (.osl 0),.c (.fn 117 [])] [.arr 3 1 (l.map nrow) false] (.c (.osl 1)) [.gone,.arr 3 1 ((l.filter mayN).map nrow) false]:=by
 refine C_slices_DeleteFunc_int_int nl nl ?_
 simp only [cz,A_slices_DeleteFunc_int_int,argL,objL,List.length_nil,List.length_cons,Nat.zero_add,zX]
 refine aR 16 ?_
 refine aB 160 ?_
 refine RG.call [0] (slices_IndexFunc_con l hb) (tr_cons (tr_view (by simp) rfl (drows_nrow _)) (tr_cons ⟨rfl,trivial⟩ tr_nil)) (views1 rfl trivial) (.inl trivial) ?_
 refine aE ?_
 refine aR 320 ?_
 refine aw_cond _ rfl trivial (fun ht=>?_) (fun hf=>?_)
 ·rcases idxN_cases l with ⟨h1,h2⟩ | ⟨i,_,h1,_⟩
  rotate_left
  ·exfalso;rw [h1] at ht;simp at ht
  simp only [zX]
  refine aR 480 ?_
  have : l.filter mayN = l:=List.filter_eq_self.2 h2
  rw [this]
  exact Fin.moved (.inr rfl) rfl trivial rfl (drows_nrow _)
 rcases idxN_cases l with ⟨h1,_⟩ | ⟨i0,hi0,h1,h2,h3⟩
 ·exfalso;rw [h1] at hf;simp at hf
 have hw : IntKind.i64.wrap ((i0 : Int) + 1) = ((i0 + 1 : Nat) : Int):=by rw [w64 _ (by omega) (by omega)];rfl
 rw [h1]
 simp only [zX]
 refine aS 480 (fun Q hQ=>by simp only [zS,hw,simprocAttr];exact hQ) ?_
 refine aw_loop (X:={ p : Nat × List Int // p.1≤l.length∧i0 < p.1∧p.2.length = l.length∧p.2.drop p.1 = l.drop p.1∧p.2.take ((l.take p.1).filter mayN).length = (l.take p.1).filter mayN }) (fun p=>mkSt [(0,.c (.osl 0)),(1,.c (.fn 117 [])),(5,I (((l.take p.1.1).filter mayN).length : Nat)),(6,I p.1.1)] [(0,.arr 3 1 (p.1.2.map nrow) false)]) (fun p=>l.length - p.1.1) ⟨(i0 + 1,l),?_⟩ ?_ ?_
 ·have hft:=filter_first l i0 hi0 h2 h3
  refine ⟨by omega,by omega,rfl,rfl,?_⟩
  simp only [hft]
  congr 1
  simp;omega
 ·refine Le.lit [] [] _ _ ?_ ?_ ?_ ?_
  ·skip
   simp only [zL,simprocAttr]
   have hft:=filter_first l i0 hi0 h2 h3
   rw [hft]
   simp;omega
  ·skip
   simp only [zL,simprocAttr]
   exact drows_nrow _
  ·simp
  ·simp [rlook]
 rintro ⟨⟨j,cur⟩,hj,hij,hlen,hdr,htk⟩
 simp only at hj hij hlen hdr htk
 simp only [zX]
 refine aR 640 ?_
 have hfl:=filter_lt l i0 j hi0 h2 hij hj
 refine aw_cond _ rfl trivial (fun ht=>?_) (fun hf=>?_)
 ·have hj' : j < l.length:=by simp [hlen] at ht;omega
  have hcj : cur[j]? = some l[j]:=by rw [drop_get hdr];exact List.getElem?_eq_getElem hj'
  have hr : (List.map nrow cur)[(j : Int).toNat]?.getD [] = [.v (.int .i64 l[j])]:=by simp [hcj,nrow]
  have hnx:=filter_next l j hj'
  simp only [zX]
  refine aw_reg 800 (RG.go fun Q hQ=>?_)
  simp only [zS,hr,simprocAttr]
  refine ⟨by simp;omega,by simp;omega,hQ (RG.nil ?_)⟩
  simp only [zX]
  refine aB 960 ?_
  refine RG.callv [] rfl trivial (conf_Of_1_con l[j]) (tr_cons tr_v tr_nil) trivial (.inl trivial) ?_
  refine aE ?_
  have hic : ((l.take j).filter mayN).length < cur.length:=by omega
  refine aw_cond _ rfl trivial (fun ht2=>?_) (fun hf2=>?_)
  ·have hm : mayN l[j] = true:=by simpa using ht2
   rw [hm,if_pos rfl] at hnx
   have hr2 : (List.map nrow cur)[(((l.take j).filter mayN).length : Int).toNat]?.getD [] = [.v (.int .i64 cur[((l.take j).filter mayN).length])]:=by simp [hic,nrow]
   simp only [zX]
   refine aw_reg 1120 (RG.go fun Q hQ=>?_)
   simp only [zS,hr2,simprocAttr]
   refine ⟨by simp;omega,by simp;omega,hQ (RG.nil ?_)⟩
   simp only [zX]
   refine aR 1280 ?_
   refine aR 1440 ?_
   refine ⟨⟨(j + 1,cur.set ((l.take j).filter mayN).length l[j]),by omega,by simp only;omega,by simp [hlen],?_,?_⟩,?_,by simp only;omega⟩
   ·simp only
    rw [List.drop_set_of_lt (by omega)]
    have:=congrArg (List.drop 1) hdr
    simpa using this
   ·simp only [hnx]
    rw [List.length_append,List.length_singleton,set_take cur _ _ hic,htk]
   refine Le.lit [] [] _ _ ?_ ?_ ?_ ?_
   ·skip
    simp only [zL,simprocAttr]
    exact ⟨by rw [hnx,w64 _ (by omega) (by omega),List.length_append];rfl,by rw [w64 _ (by omega) (by omega)];rfl⟩
   ·skip
    simp only [zL,simprocAttr]
    exact ⟨by rw [List.map_set];simp [nrow],drows_nrow _⟩
   ·simp
   ·simp [rlook]
  have hm : mayN l[j] = false:=by simpa using hf2
  rw [hm] at hnx
  simp only [zX]
  refine aR 1120 ?_
  refine ⟨⟨(j + 1,cur),by omega,by simp only;omega,hlen,?_,?_⟩,?_,by simp only;omega⟩
  ·have:=congrArg (List.drop 1) hdr
   simpa using this
  ·simp only [hnx];simpa using htk
  refine Le.lit [] [] _ _ ?_ ?_ ?_ ?_
  ·skip
   simp only [zL,simprocAttr]
   exact ⟨by rw [hnx];simp,by rw [w64 _ (by omega) (by omega)];rfl⟩
  ·skip
   simp only [zL,simprocAttr]
   exact drows_nrow _
  ·simp
  ·simp [rlook]
 have hj' : j = l.length:=by simp [hlen] at hf;omega
 subst hj'
 rw [List.take_length] at htk hfl
 have hne : List.map nrow cur≠[]:=by intro h;have:=congrArg List.length h;simp at this;rw [this] at hlen;simp at hlen;omega
 simp only [zX,↓reduceIte]
 refine aw_reg 801 (RG.go fun Q hQ=>?_)
 simp only [zS,List.take_length,simprocAttr]
 refine ⟨⟨by omega,by simp;omega,hne⟩,by simp;omega,hQ (RG.nil ?_)⟩
 simp only [zX]
 refine aw_reg 1001 (RG.go fun Q hQ=>?_)
 simp only [zS,simprocAttr]
 refine ⟨⟨by omega,by simp;omega⟩,hQ (RG.nil ?_)⟩
 simp only [zX]
 refine Fin.objs [] [(1,1033)] (.inr rfl) rfl (by exact trivial) ?_ ?_ (by simp [objL,rlook]) (by (simp [objL,rlook];done))
 ·simp only [zL,simprocAttr]
 ·simp only [zL,simprocAttr]
  all_goals (exact ⟨by simp;rw [List.take_append_of_le_length (by simp;omega),← List.map_take,htk,List.take_of_length_le (by simp)],drows_nrow _⟩)

def ins (x : Int) : List Int→List Int
 | []=>[x]
 | y :: r=>if x≤y then x :: y :: r else y :: ins x r

def isort : List Int→List Int
 | []=>[]
 | x :: r=>ins x (isort r)

theorem ins_perm (x : Int) : ∀ l,(ins x l).Perm (x :: l)
 | []=>.refl _
 | y :: r=>by
  unfold ins
  split
  ·exact .refl _
  ·exact ((ins_perm x r).cons y).trans (List.Perm.swap x y r)

theorem isort_perm : ∀ l,(isort l).Perm l
 | []=>.refl _
 | x :: r=>(ins_perm x _).trans ((isort_perm r).cons x)

theorem ins_sorted (x : Int) : ∀ l,l.Pairwise (·≤·)→(ins x l).Pairwise (·≤·)
 | [],_=>by simp [ins]
 | y :: r,h=>by
  rw [List.pairwise_cons] at h
  unfold ins
  split
  ·rename_i hxy
   rw [List.pairwise_cons,List.pairwise_cons]
   exact ⟨fun z hz=>by
    rcases List.mem_cons.1 hz with rfl | hz
    ·exact hxy
    ·exact Int.le_trans hxy (h.1 z hz),h⟩
  ·rename_i hxy
   rw [List.pairwise_cons]
   refine ⟨fun z hz=>?_,ins_sorted x r h.2⟩
   rcases List.mem_cons.1 ((ins_perm x r).mem_iff.1 hz) with rfl | hz
   ·omega
   ·exact h.1 z hz

theorem isort_sorted : ∀ l,(isort l).Pairwise (·≤·)
 | []=>.nil
 | x :: r=>ins_sorted x _ (isort_sorted r)

theorem sorted_eq : ∀ {l m : List Int},l.Perm m→l.Pairwise (·≤·)→m.Pairwise (·≤·)→l = m
 | [],m,h,_,_=>by have:=h.length_eq;cases m with | nil=>rfl | cons=>simp at this
 | x :: l,[],h,_,_=>by have:=h.length_eq;simp at this
 | x :: l,y :: m,h,hl,hm=>by
  rw [List.pairwise_cons] at hl hm
  have h1 : x = y:=by
   have hx : x ∈ y :: m:=h.mem_iff.1 (by simp)
   have hy : y ∈ x :: l:=h.mem_iff.2 (by simp)
   rcases List.mem_cons.1 hx with e | hx
   ·exact e
   ·rcases List.mem_cons.1 hy with e | hy
    ·exact e.symm
    ·have:=hm.1 x hx;have:=hl.1 y hy;omega
  subst h1
  rw [sorted_eq (List.Perm.cons_inv h) hl.2 hm.2]

theorem isort_unique {l m : List Int} (h : m.Perm l) (hs : m.Pairwise (·≤·)) : m = isort l:=sorted_eq (h.trans (isort_perm l).symm) hs (isort_sorted l)

theorem cmp_isNaN_con (n : Int) : Con Tryz.prog 157 [I n] [] (B false) []:=by
 refine C_cmp_isNaN_int nl nl ?_
 simp only [cz,A_cmp_isNaN_int,argL,objL,List.length_nil,zX]
 refine aR 16 ?_
 refine aR 160 ?_
 exact Fin.b (.inr rfl) rfl trivial (by simp)

theorem cmp_Less_con (a b : Int) : Con Tryz.prog 146 [I a,I b] [] (B (decide (a < b))) []:=by
 refine C_cmp_Less_int nl nl ?_
 simp only [cz,A_cmp_Less_int,argL,objL,List.length_nil,Nat.zero_add,zX]
 refine aR 16 ?_
 refine aB 160 ?_
 refine rC [] (cmp_isNaN_con a) ?_ (hv:=(trivial)) (hs:=(.inl trivial))
 refine aM ?_
 refine rG _ _ (cmp_isNaN_con b) ?_
 refine aE ?_
 exact Fin.b (.inr rfl) rfl trivial rfl

theorem slices_insertionSort_con (l : List Int) (hb : l.length≤1000) : Con Tryz.prog 140 [.c (.osl 0),I 0,I l.length] [.arr 3 1 (l.map nrow) false] (.tup []) [.arr 3 1 ((isort l).map nrow) false]:=by
 refine C_slices_insertionSortOrdered_int nl nl ?_
 simp only [cz,A_slices_insertionSortOrdered_int,argL,objL,List.length_nil,List.length_cons,Nat.zero_add,zX,simprocAttr]
 refine aS 16 (fun Q hQ=>by simp only [zS,(w64 1 (by decide) (by decide)),simprocAttr];exact hQ) ?_
 refine aw_loop (X:={ p : Nat × List Int // p.2.Perm l∧(p.2.take p.1).Pairwise (·≤·)∧p.1≤1 + l.length∧1≤p.1 }) (fun p=>mkSt [(0,.c (.osl 0)),(1,I 0),(2,I l.length),(6,I p.1.1)] [(0,.arr 3 1 (p.1.2.map nrow) false)]) (fun p=>1 + l.length - p.1.1) ⟨(1,l),.refl _,?_,by simp only;omega,by simp only;omega⟩ ?_ ?_
 ·rcases l with _ | ⟨a,r⟩ <;> simp
 ·refine Le.lit [] [] _ _ ?_ ?_ ?_ ?_
  ·skip
   simp only [zL,simprocAttr]
  ·skip
   simp only [zL,simprocAttr]
   exact drows_nrow _
  ·simp
  ·simp [rlook]
 rintro ⟨⟨i,cur⟩,hp,hs,hi,hi1⟩
 simp only at hp hs hi hi1
 have hlen:=hp.length_eq
 simp only [zX]
 refine aR 160 ?_
 refine aw_cond _ rfl trivial (fun ht=>?_) (fun hf=>?_)
 rotate_left
 ·have hil : l.length≤i:=by simp at hf;omega
  rw [List.take_of_length_le (by omega)] at hs
  have he:=isort_unique hp hs
  simp only [zX,↓reduceIte]
  refine Fin.objs [] [] (.inl rfl) rfl trivial ?_ ?_ (by simp [objL,rlook]) (by simp [objL,rlook])
  ·skip
   simp only [zL]
  ·skip
   simp only [zL,simprocAttr]
   exact ⟨by rw [he],drows_nrow _⟩
 have hil : i < l.length:=by simp at ht;omega
 obtain ⟨x,hx⟩ : ∃ x,cur[i]? = some x:=⟨cur[i],List.getElem?_eq_getElem (by omega)⟩
 obtain ⟨s,r,hcur,hsl,hs'⟩ : ∃ s r,cur = s ++ x :: r∧s.length = i∧s.Pairwise (·≤·):=by
  refine ⟨cur.take i,cur.drop (i + 1),?_,by simp;omega,hs⟩
  have h1:=List.take_append_drop i cur
  rw [List.drop_eq_getElem_cons (by omega)] at h1
  rw [List.getElem?_eq_getElem (by omega)] at hx
  simp only [Option.some.injEq] at hx
  rw [hx] at h1;exact h1.symm
 simp only [zX]
 refine aR 320 ?_
 refine aw_loop (X:={ c : Nat × List Int // ∃ p q,c.2 = p ++ x :: (q ++ r)∧c.1 = p.length∧p.length + q.length = i∧(p ++ q).Pairwise (·≤·)∧(∀ y ∈ q,x≤y)∧c.2.Perm l }) (fun c=>mkSt [(0,.c (.osl 0)),(1,I 0),(2,I l.length),(6,I i),(7,I c.1.1)] [(0,.arr 3 1 (c.1.2.map nrow) false)]) (fun c=>c.1.1) ⟨(i,cur),s,[],by simpa using hcur,hsl.symm,by simp [hsl],by simpa using hs',by simp,hp⟩ ?_ ?_
 ·refine Le.lit [] [] _ _ ?_ ?_ ?_ ?_
  ·skip
   simp only [zL,simprocAttr]
  ·skip
   simp only [zL,simprocAttr]
   exact drows_nrow _
  ·simp
  ·simp [rlook]
 rintro ⟨⟨j,c⟩,p,q,hc,hj,hpq,hsd,hxq,hcp⟩
 simp only at hc hj hpq hcp
 have hcl : c.length = l.length:=hcp.length_eq
 have hcx : c[j]? = some x:=by rw [hc,hj];simp
 have hr1 : (List.map nrow c)[(j : Int).toNat]?.getD [] = [.v (.int .i64 x)]:=by simp [hcx,nrow]
 have htake : c.take (i + 1) = p ++ x :: q:=by
  rw [hc,show p ++ x :: (q ++ r) = (p ++ x :: q) ++ r by simp]
  exact List.take_left' (by simp;omega)
 rcases List.eq_nil_or_concat p with rfl | ⟨p',y,rfl⟩
 ·have hj0 : j = 0:=by simpa using hj
  subst hj0
  have hout : (c.take (i + 1)).Pairwise (·≤·):=by
   rw [htake]
   simp only [List.nil_append,List.pairwise_cons]
   exact ⟨hxq,by simpa using hsd⟩
  simp only [zX]
  refine aBDs 480 (fun Q hQ=>by simp only [zS,decide_false,Int.lt_irrefl,simprocAttr];exact hQ) ?_
  refine RG.callg (res:=B false) _ _ [] rfl (fun hg=>absurd hg (by simp)) ?_
  refine RG.go fun Q hQ=>?_
  simp only [zS,simprocAttr]
  refine hQ (RG.nil ⟨by decide,?_⟩)
  simp only [zX]
  refine aw_cond _ rfl trivial (fun ht=>by cases ht) (fun hf=>?_)
  simp only [zX,↓reduceIte]
  refine aR 720 ?_
  refine ⟨⟨(i + 1,c),hcp,hout,by simp only;omega,by simp only;omega⟩,?_,by simp only;omega⟩
  refine Le.lit [] [] _ _ ?_ ?_ ?_ ?_
  ·skip
   simp only [zL,simprocAttr]
   rw [w64 _ (by omega) (by omega)];rfl
  ·skip
   simp only [zL,simprocAttr]
   exact drows_nrow _
  ·simp
  ·simp [rlook]
 rw [List.concat_eq_append] at *
 have hjp : j = p'.length + 1:=by simpa using hj
 have hcy : c[j - 1]? = some y:=by rw [hc,hjp];simp
 have hwj : IntKind.i64.wrap ((j : Int) - 1) = ((j - 1 : Nat) : Int):=by rw [w64 _ (by omega) (by omega)];omega
 have hr2 : (List.map nrow c)[((j - 1 : Nat) : Int).toNat]?.getD [] = [.v (.int .i64 y)]:=by simp [hcy,nrow]
 have hjd : decide ((0 : Int) < (j : Int)) = true:=by simp;omega
 have hjl : j < l.length:=by omega
 simp only [zX]
 refine aw_draw 480 (RG.go fun Q hQ=>?_)
 simp only [zS,hjd,hwj,hr1,hr2,simprocAttr]
 refine ⟨⟨by omega,by simp;omega⟩,by simp;omega,⟨by omega,by simp;omega⟩,by simp;omega,hQ ?_⟩
 refine rG _ _ (cmp_Less_con x y) ?_
 refine RG.go fun Q hQ=>?_
 simp only [zS,simprocAttr]
 refine hQ (RG.nil ⟨by decide,?_⟩)
 simp only [zX]
 refine aw_cond _ rfl trivial (fun ht=>?_) (fun hf=>?_)
 rotate_left
 ·have hyx : y≤x:=by simp at hf;omega
  have hout : (c.take (i + 1)).Pairwise (·≤·):=by
   rw [htake]
   have h1:=List.pairwise_append.1 hsd
   rw [List.pairwise_append]
   refine ⟨h1.1,?_,?_⟩
   ·rw [List.pairwise_cons];exact ⟨hxq,h1.2.1⟩
   ·intro a ha b hb
    have hay : a≤y:=by
     rcases List.mem_append.1 ha with h | h
     ·exact (List.pairwise_append.1 h1.1).2.2 a h y (by simp)
     ·simp at h;omega
    rcases List.mem_cons.1 hb with rfl | hb
    ·omega
    ·have:=hxq b hb;omega
  simp only [zX,↓reduceIte]
  refine aR 720 ?_
  refine ⟨⟨(i + 1,c),hcp,hout,by simp only;omega,by simp only;omega⟩,?_,by simp only;omega⟩
  refine Le.lit [] [] _ _ ?_ ?_ ?_ ?_
  ·skip
   simp only [zL,simprocAttr]
   rw [w64 _ (by omega) (by omega)];rfl
  ·skip
   simp only [zL,simprocAttr]
   exact drows_nrow _
  ·simp
  ·simp [rlook]
 have hxy : x < y:=by simpa using ht
 have hc2 : (List.map nrow c).set (j : Int).toNat [C.v (Value.int IntKind.i64 y)] = (c.set j y).map nrow:=by rw [List.map_set];simp [nrow]
 have hr3 : (List.map nrow (c.set j y))[((j - 1 : Nat) : Int).toNat]?.getD [] = [.v (.int .i64 y)]:=by
  rw [Int.toNat_natCast,List.getElem?_map,List.getElem?_set_ne (by omega),hcy];rfl
 have hc3 : (List.map nrow (c.set j y)).set ((j - 1 : Nat) : Int).toNat [C.v (Value.int IntKind.i64 x)] = ((c.set j y).set (j - 1) x).map nrow:=by rw [List.map_set];simp [nrow]
 have hc' : (c.set j y).set (j - 1) x = p' ++ x :: ((y :: q) ++ r):=by
  rw [hc,hjp,List.append_assoc,List.set_append,if_neg (by omega),List.set_append,if_neg (by omega)]
  simp
 have hcp' : ((c.set j y).set (j - 1) x).Perm l:=by
  rw [hc']
  refine List.Perm.trans ?_ hcp
  rw [hc,List.append_assoc]
  exact List.Perm.append_left p' (List.Perm.swap y x _)
 simp only [zX]
 refine aw_draw 1000 (RG.go fun Q hQ=>?_)
 simp only [zS,hwj,hr1,hr2,hc2,hr3,hc3,simprocAttr]
 refine ⟨⟨by omega,by simp;omega⟩,by simp;omega,⟨by omega,by simp;omega⟩,by simp;omega,⟨by omega,by simp;omega⟩,by simp;omega,⟨by omega,by simp;omega⟩,by simp;omega,?_⟩
 refine hQ (RG.nil ⟨by decide,?_⟩)
 simp only [zX]
 refine aS 1400 (fun Q hQ=>by simp only [zS,hwj,simprocAttr];exact hQ) ?_
 refine ⟨⟨(j - 1,(c.set j y).set (j - 1) x),p',y :: q,hc',by simp only;omega,by simp at hpq ⊢;omega,by simpa using hsd,?_,hcp'⟩,?_,by simp only;omega⟩
 ·intro z hz
  rcases List.mem_cons.1 hz with rfl | hz
  ·omega
  ·exact hxq z hz
 refine Le.lit [] [] _ _ ?_ ?_ ?_ ?_
 ·skip
  simp only [zL,simprocAttr]
 ·skip
  simp only [zL,simprocAttr]
  exact drows_nrow _
 ·simp
 ·simp [rlook]


theorem bits_Len64_con (n : Nat) (h : n≤12) : ∃ k,Con Tryz.prog 150 [.c (.v (.int .u64 n))] [] (I k) []:=by
 apply Exists.intro
 ·have hw : IntKind.u8.wrap (n : Int) = n:=u8wrap n (by omega)
  refine C_math_bits_Len64 nl nl ?_
  simp only [cz,A_math_bits_Len64,argL,objL,List.length_nil,zX]
  refine aR 16 ?_
  refine aR 160 ?_
  refine aw_cond _ rfl trivial (fun ht=>?_) (fun hf=>?_)
  ·exfalso;simp at ht;omega
  simp only [zX]
  refine aR 320 ?_
  refine aw_cond _ rfl trivial (fun ht=>?_) (fun hf=>?_)
  ·exfalso;simp at ht;omega
  simp only [zX]
  refine aR 480 ?_
  refine aw_cond _ rfl trivial (fun ht=>?_) (fun hf=>?_)
  ·exfalso;simp at ht;omega
  simp only [zX]
  refine aw_reg 640 (RG.go fun Q hQ=>?_)
  simp only [zS,hw,simprocAttr]
  refine ⟨⟨by omega,Int.lt_of_le_of_lt (Int.ofNat_le.2 h) (by decide)⟩,hQ (RG.nil ?_)⟩
  simp only [zX]
  exact Fin.scalar (.inr rfl) rfl trivial rfl trivial

theorem bits_Len_con (n : Nat) (h : n≤12) : ∃ k,Con Tryz.prog 137 [.c (.v (.int .u64 n))] [] (I k) []:=by
 obtain ⟨k,hk⟩:=bits_Len64_con n h
 refine ⟨k,?_⟩
 refine C_math_bits_Len nl nl ?_
 simp only [cz,A_math_bits_Len,argL,objL,List.length_nil,zX]
 refine aR 16 ?_
 refine aF ?_
 refine aB 160 ?_
 refine rC [] (hk) ?_ (hv:=(trivial)) (hs:=(.inl trivial))
 refine aE ?_
 exact Fin.scalar (.inr rfl) rfl trivial rfl trivial

theorem slices_pdqsort_con (l : List Int) (k : Int) (hb : l.length≤12) : Con Tryz.prog 136 [.c (.osl 0),I 0,I l.length,I k] [.arr 3 1 (l.map nrow) false] (.tup []) [.arr 3 1 ((isort l).map nrow) false]:=by
 have hw : IntKind.i64.wrap ((l.length : Int) - 0) = l.length:=by rw [w64 _ (by omega) (by omega)];omega
 refine C_slices_pdqsortOrdered_int nl nl ?_
 simp only [cz,A_slices_pdqsortOrdered_int,argL,objL,List.length_nil,List.length_cons,Nat.zero_add,zX,simprocAttr]
 refine aR 16 ?_
 refine aR 160 ?_
 refine aw_loop (X:=Unit) (fun _=>mkSt [(0,.c (.osl 0)),(1,I 0),(2,I l.length),(3,I k)] [(0,.arr 3 1 (l.map nrow) false)]) (fun _=>0) () ?_ ?_
 ·refine Le.lit [] [] _ _ ?_ ?_ ?_ ?_
  ·skip
   simp only [zL,simprocAttr]
  ·skip
   simp only [zL,simprocAttr]
   exact drows_nrow _
  ·simp
  ·simp [rlook]
 rintro ⟨⟩
 simp only [zX]
 refine aS 320 (fun Q hQ=>by simp only [zS,hw,simprocAttr];exact hQ) ?_
 refine aR 480 ?_
 refine aw_cond _ rfl trivial (fun ht=>?_) (fun hf=>?_)
 rotate_left
 ·exfalso;simp at hf;omega
 simp only [zX]
 refine aB 640 ?_
 refine rO [0] [] (slices_insertionSort_con l (by omega)) ?_
 refine aE ?_
 refine Fin.objs [] [] (.inr rfl) rfl trivial ?_ ?_ (by simp [objL,rlook]) (by simp [objL,rlook])
 ·skip
  simp only [zL]
 ·skip
  simp only [zL,simprocAttr]
  exact drows_nrow _

theorem slices_Sort_con (l : List Int) (hb : l.length≤12) : Con Tryz.prog 119 [.c (.osl 0)] [.arr 3 1 (l.map nrow) false] (.tup []) [.arr 3 1 ((isort l).map nrow) false]:=by
 obtain ⟨k,hk⟩:=bits_Len_con l.length hb
 have hw : IntKind.u64.wrap ((l.map nrow).length : Int) = (l.length : Int):=by rw [w_u64,List.length_map];omega
 refine C_slices_Sort_int_int nl nl ?_
 simp only [cz,A_slices_Sort_int_int,argL,objL,List.length_nil,List.length_cons,Nat.zero_add,zX]
 refine aR 16 ?_
 refine aBs 160 (fun Q hQ=>by simp only [zS,hw,simprocAttr];exact hQ) ?_
 refine rC [] (hk) ?_ (hv:=(trivial)) (hs:=(.inl trivial))
 refine aM ?_
 refine RG.callo [0] [] (slices_pdqsort_con l k hb) (.mk (tr_cons (tr_osl rfl) (tr_cons tr_v (tr_cons (congrArg (fun k : Nat=>Value.int .i64 (k : Int)) (by simp : (l.map nrow).length = l.length)) (tr_cons tr_v tr_nil)))) (by simp only [zT,↓reduceIte];exact drows_nrow _) (by simp) (by simp) (trivial) (by simp [lkE_cons,lkE_nil]) (by simp only [List.mem_singleton,forall_eq,Ent.pure];exact drows_nrow _) (by simp) (by simp)) ?_
 refine RG.go fun Q hQ=>?_
 simp only [zS,simprocAttr]
 refine hQ (RG.nil ?_)
 refine Fin.objs [] [] (.inl rfl) rfl trivial ?_ ?_ (by simp [objL,rlook]) (by simp [objL,rlook])
 ·skip
  simp only [zL]
 ·skip
  simp only [zL,simprocAttr]
  exact drows_nrow _

def dd : List Int→List Int
 | []=>[]
 | [x]=>[x]
 | x :: y :: r=>if x = y then dd (y :: r) else x :: dd (y :: r)

theorem dd_snoc (p e : Int) : ∀ m : List Int,dd (m ++ [p] ++ [e]) = dd (m ++ [p]) ++ if e = p then [] else [e]
 | []=>by
  by_cases h : e = p
  ·subst h;simp [dd]
  ·have h' : ¬ p = e:=fun hh=>h hh.symm
   simp [dd,h,h']
 | [x]=>by
  have ih:=dd_snoc p e []
  simp only [List.nil_append,List.cons_append,dd] at ih ⊢
  by_cases h : x = p
  ·simp only [h,if_true];exact ih
  ·simp only [h,if_false,List.cons_append];rw [ih];simp
 | x :: y :: r=>by
  have ih:=dd_snoc p e (y :: r)
  simp only [List.cons_append,dd] at ih ⊢
  by_cases h : x = y
  ·simp only [h,if_true];exact ih
  ·simp only [h,if_false,List.cons_append];rw [ih]

theorem dd_take (l : List Int) (n : Nat) (h0 : 0 < n) (hn : n < l.length) : dd (l.take (n + 1)) = dd (l.take n) ++ if l[n] = l[n - 1] then [] else [l[n]]:=by
 have h1 : l.take n = l.take (n - 1) ++ [l[n - 1]]:=by
  have:=take_one l (n - 1) (by omega)
  rwa [show n - 1 + 1 = n by omega] at this
 rw [take_one l n hn,h1,dd_snoc]

theorem pure2 {E : TypeId} {s : Nat} {rows : List (List C)} {fz : Bool} (h : isDRows rows) : ∀ e ∈ ([.gone,.arr E s rows fz] : List Ent),e.pure:=by
 intro e he
 simp only [List.mem_cons,List.not_mem_nil,or_false] at he
 rcases he with h1 | h1 <;> rw [h1]
 ·exact trivial
 ·exact h

theorem slices_Compact_con (l : List Int) (hb : l.length≤1000000) : Con Tryz.prog 120 [.c (.osl 0)] [.arr 3 1 (l.map nrow) false] (.c (.osl 1)) [.gone,.arr 3 1 ((dd l).map nrow) false]:=by
 refine C_slices_Compact_int_int nl nl ?_
 simp only [cz,A_slices_Compact_int_int,argL,objL,List.length_nil,List.length_cons,Nat.zero_add,zX]
 refine aR 16 ?_
 refine aR 160 ?_
 refine aw_cond _ rfl trivial (fun ht=>?_) (fun hf=>?_)
 ·have hd : dd l = l:=by
   rcases l with _ | ⟨a,_ | ⟨b,r⟩⟩
   ·rfl
   ·rfl
   ·simp at ht;omega
  rw [hd]
  simp only [zX]
  refine aR 320 ?_
  exact Fin.moved (.inr rfl) rfl trivial rfl (drows_nrow _)
 have hl2 : 2≤l.length:=by simp at hf;omega
 simp only [zX]
 refine aR 320 ?_
 refine aw_loop (X:={ k : Nat // 1≤k∧k≤l.length∧dd (l.take k) = l.take k }) (fun k=>mkSt [(0,.c (.osl 0)),(3,I k.1)] [(0,.arr 3 1 (l.map nrow) false)]) (fun k=>l.length - k.1) ⟨1,by omega,by omega,?_⟩ ?_ ?_
 ·rcases l with _ | ⟨a,r⟩ <;> simp [dd]
 ·refine Le.lit [] [] _ _ ?_ ?_ ?_ ?_
  ·skip
   simp only [zL,simprocAttr]
  ·skip
   simp only [zL,simprocAttr]
   exact drows_nrow _
  ·simp
  ·simp [rlook]
 rintro ⟨k,hk1,hk,hdk⟩
 simp only [zX]
 refine aR 480 ?_
 refine aw_cond _ rfl trivial (fun ht=>?_) (fun hf=>?_)
 rotate_left
 ·have hk' : k = l.length:=by simp at hf;omega
  rw [hk',List.take_length] at hdk
  rw [hdk]
  simp only [zX,↓reduceIte]
  refine aR 640 ?_
  exact Fin.moved (.inr rfl) rfl trivial rfl (drows_nrow _)
 have hk' : k < l.length:=by simp at ht;omega
 have hw : IntKind.i64.wrap ((k : Int) - 1) = ((k - 1 : Nat) : Int):=by rw [w64 _ (by omega) (by omega)];omega
 have hw1 : IntKind.i64.wrap ((k : Int) + 1) = ((k + 1 : Nat) : Int):=by rw [w64 _ (by omega) (by omega)];rfl
 have hr1 : (List.map nrow l)[(k : Int).toNat]?.getD [] = [.v (.int .i64 l[k])]:=by simp [hk',nrow]
 have hr2 : (List.map nrow l)[((k - 1 : Nat) : Int).toNat]?.getD [] = [.v (.int .i64 l[k - 1])]:=by
  rw [Int.toNat_natCast,List.getElem?_map,List.getElem?_eq_getElem (by omega)];rfl
 have hdt:=dd_take l k (by omega) hk'
 simp only [zX]
 refine aw_draw 640 (RG.go fun Q hQ=>?_)
 simp only [zS,hw,hr1,hr2,simprocAttr]
 refine ⟨⟨by omega,by simp;omega⟩,by simp;omega,⟨by omega,by simp;omega⟩,by simp;omega,?_⟩
 refine hQ (RG.nil ⟨by decide,?_⟩)
 simp only [zX]
 refine aw_cond _ rfl trivial (fun ht2=>?_) (fun hf2=>?_)
 rotate_left
 ·have hne : l[k]≠l[k - 1]:=by simpa using hf2
  rw [if_neg hne,hdk,← take_one l k hk'] at hdt
  simp only [zX]
  refine aS 900 (fun Q hQ=>by simp only [zS,hw1,simprocAttr];exact hQ) ?_
  refine ⟨⟨k + 1,by omega,by omega,hdt⟩,?_,by simp;omega⟩
  refine Le.lit [] [] _ _ ?_ ?_ ?_ ?_
  ·skip
   simp only [zL,simprocAttr]
  ·skip
   simp only [zL,simprocAttr]
   exact drows_nrow _
  ·simp
  ·simp [rlook]
 have heq : l[k] = l[k - 1]:=by simpa using ht2
 rw [if_pos heq,hdk,List.append_nil] at hdt
 have hne : List.map nrow l≠[]:=by intro h;have : l = []:=(by simpa using h);rw [this] at hl2;simp at hl2
 simp only [zX]
 refine aw_reg 901 (RG.go fun Q hQ=>?_)
 simp only [zS,simprocAttr]
 refine ⟨⟨by omega,by simp;omega,hne⟩,hQ (RG.nil ?_)⟩
 simp only [zX]
 refine aR 1000 ?_
 refine aw_loop (X:={ p : Nat × Nat × List Int // 1≤p.2.1∧k + p.2.1≤l.length∧p.1 + 1≤k + p.2.1∧p.2.2.length = l.length∧p.2.2.drop (k + p.2.1 - 1) = l.drop (k + p.2.1 - 1)∧p.2.2.take p.1 = dd (l.take (k + p.2.1))∧(dd (l.take (k + p.2.1))).length = p.1 }) (fun p=>mkSt [(0,.c (.osl 0)),(3,I p.1.1),(4,.c (.ow 0 k (l.length - k))),(5,I p.1.2.1)] [(0,.arr 3 1 (p.1.2.2.map nrow) false)]) (fun p=>l.length - p.1.2.1) ⟨(k,1,l),by simp only;omega,by simp only;omega,by simp only;omega,rfl,rfl,hdt.symm,by rw [hdt];simp;omega⟩ ?_ ?_
 ·refine Le.lit [] [] _ _ ?_ ?_ ?_ ?_
  ·skip
   simp only [zL,simprocAttr]
   simp
  ·skip
   simp only [zL,simprocAttr]
   exact drows_nrow _
  ·simp
  ·simp [rlook]
 rintro ⟨⟨k1,k2,cur⟩,h1,h2,h3,h4,h5,h6,h7⟩
 simp only at h1 h2 h3 h4 h5 h6 h7
 simp only [zX]
 refine aR 1200 ?_
 refine aw_cond _ rfl trivial (fun ht3=>?_) (fun hf3=>?_)
 rotate_left
 ·have hk2 : k + k2 = l.length:=by simp at hf3;omega
  rw [hk2,List.take_length] at h6 h7
  have hne2 : List.map nrow cur≠[]:=by intro h;have:=congrArg List.length h;simp at this;rw [this] at h4;simp at h4;omega
  simp only [zX,↓reduceIte]
  refine aw_reg 1401 (RG.go fun Q hQ=>?_)
  simp only [zS,simprocAttr]
  refine ⟨⟨by omega,by simp;omega,hne2⟩,by simp;omega,hQ (RG.nil ?_)⟩
  simp only [zX]
  refine aw_reg 1601 (RG.go fun Q hQ=>?_)
  simp only [zS,simprocAttr]
  refine ⟨⟨by omega,by simp;omega⟩,hQ (RG.nil ?_)⟩
  simp only [zX]
  refine Fin.objs [] [(1,1633)] (.inr rfl) rfl (by exact trivial) ?_ ?_ (by simp [objL,rlook]) (by (simp [objL,rlook];done))
  ·simp only [zL,simprocAttr]
  ·simp only [zL,simprocAttr]
   all_goals (exact ⟨by simp;rw [List.take_append_of_le_length (by simp;omega),← List.map_take,h6,List.take_of_length_le (by simp;omega)],drows_nrow _⟩)
 have hk2 : k + k2 < l.length:=by simp at ht3;omega
 have hc : ∀ n,k + k2 - 1≤n→cur[n]? = l[n]?:=fun n hn=>by
  have:=congrArg (fun m=>m[n - (k + k2 - 1)]?) h5
  simp only [List.getElem?_drop] at this
  rwa [show k + k2 - 1 + (n - (k + k2 - 1)) = n by omega] at this
 have hv : IntKind.i64.wrap ((k2 : Int) - 1) = ((k2 - 1 : Nat) : Int):=by rw [w64 _ (by omega) (by omega)];omega
 have hv1 : IntKind.i64.wrap ((k2 : Int) + 1) = ((k2 + 1 : Nat) : Int):=by rw [w64 _ (by omega) (by omega)];rfl
 have hv3 : IntKind.i64.wrap ((k1 : Int) + 1) = ((k1 + 1 : Nat) : Int):=by rw [w64 _ (by omega) (by omega)];rfl
 have hs1 : (List.map nrow cur)[k + (k2 : Int).toNat]?.getD [] = [.v (.int .i64 l[k + k2])]:=by
  rw [Int.toNat_natCast,List.getElem?_map,hc _ (by omega),List.getElem?_eq_getElem hk2];rfl
 have hs2 : (List.map nrow cur)[k + ((k2 - 1 : Nat) : Int).toNat]?.getD [] = [.v (.int .i64 l[k + k2 - 1])]:=by
  rw [Int.toNat_natCast,List.getElem?_map,show k + (k2 - 1) = k + k2 - 1 by omega,hc _ (by omega),List.getElem?_eq_getElem (by omega)];rfl
 have hdn:=dd_take l (k + k2) (by omega) hk2
 simp only [zX]
 refine aw_draw 1400 (RG.go fun Q hQ=>?_)
 simp only [zS,hv,hs1,hs2,simprocAttr]
 refine ⟨⟨by omega,by simp;omega⟩,by simp;omega,⟨by omega,by simp;omega⟩,by simp;omega,?_⟩
 refine hQ (RG.nil ⟨by decide,?_⟩)
 simp only [zX]
 refine aw_cond _ rfl trivial (fun ht4=>?_) (fun hf4=>?_)
 rotate_left
 ·have he : l[k + k2] = l[k + k2 - 1]:=by simpa using hf4
  rw [if_pos he,List.append_nil] at hdn
  simp only [zX]
  refine aS 1700 (fun Q hQ=>by simp only [zS,hv1,simprocAttr];exact hQ) ?_
  refine ⟨⟨(k1,k2 + 1,cur),by simp only;omega,by simp only;omega,by simp only;omega,h4,?_,by simp only;rw [h6,← hdn];rfl,by simp only;rw [← h7,← hdn];rfl⟩,?_,by simp only;omega⟩
  ·have:=congrArg (List.drop 1) h5
   simp only [List.drop_drop] at this
   simp only
   rwa [show k + k2 - 1 + 1 = k + (k2 + 1) - 1 by omega] at this
  refine Le.lit [] [] _ _ ?_ ?_ ?_ ?_
  ·skip
   simp only [zL,simprocAttr]
  ·skip
   simp only [zL,simprocAttr]
   exact drows_nrow _
  ·simp
  ·simp [rlook]
 have he : l[k + k2]≠l[k + k2 - 1]:=by simpa using ht4
 rw [if_neg he] at hdn
 have hk1c : k1 < cur.length:=by omega
 have hs3 : (List.map nrow cur)[(k1 : Int).toNat]?.getD [] = [.v (.int .i64 cur[k1])]:=by simp [hk1c,nrow]
 have hs4 : (List.map nrow cur).set (k1 : Int).toNat [C.v (Value.int IntKind.i64 l[k + k2])] = (cur.set k1 l[k + k2]).map nrow:=by rw [List.map_set];simp [nrow]
 simp only [zX]
 refine aw_reg 1700 (RG.go fun Q hQ=>?_)
 simp only [zS,hs1,hs3,hs4,simprocAttr]
 refine ⟨⟨by omega,by simp;omega⟩,by simp;omega,⟨by omega,by simp;omega⟩,by simp;omega,hQ (RG.nil ?_)⟩
 simp only [zX]
 refine aS 1900 (fun Q hQ=>by simp only [zS,hv3,simprocAttr];exact hQ) ?_
 refine aS 2100 (fun Q hQ=>by simp only [zS,hv1,simprocAttr];exact hQ) ?_
 refine ⟨⟨(k1 + 1,k2 + 1,cur.set k1 l[k + k2]),by simp only;omega,by simp only;omega,by simp only;omega,by simp [h4],?_,?_,?_⟩,?_,by simp only;omega⟩
 ·have:=congrArg (List.drop 1) h5
  simp only [List.drop_drop] at this
  simp only
  rw [List.drop_set_of_lt (by omega)]
  rwa [show k + k2 - 1 + 1 = k + (k2 + 1) - 1 by omega] at this
 ·simp only
  rw [set_take cur _ _ hk1c,h6,← hdn];rfl
 ·simp only
  rw [show k + (k2 + 1) = k + k2 + 1 by omega,hdn,List.length_append,h7];rfl
 refine Le.lit [] [] _ _ ?_ ?_ ?_ ?_
 ·skip
  simp only [zL,simprocAttr]
 ·skip
  simp only [zL,simprocAttr]
  exact drows_nrow _
 ·simp
 ·simp [rlook]


def ofS (l : List Int) : List Int:=dd (isort (l.filter mayN))

theorem dd_len : ∀ l : List Int,(dd l).length≤l.length
 | []=>by simp [dd]
 | [x]=>by simp [dd]
 | x :: y :: r=>by
  have:=dd_len (y :: r)
  unfold dd
  split
  ·simp at this ⊢;omega
  ·simp at this ⊢;omega

theorem ofS_len (l : List Int) : (ofS l).length≤l.length:=by
 have h1:=dd_len (isort (l.filter mayN))
 have h2:=(isort_perm (l.filter mayN)).length_eq
 have h3:=List.length_filter_le mayN l
 unfold ofS;omega

theorem conf_Of_con (l : List Int) (hb : l.length≤12) : Con Tryz.prog 92 [.c (.sl (l.map nrow))] [] (.c (.osl 0)) [.arr 3 1 ((ofS l).map nrow) false]:=by
 have hf:=List.length_filter_le mayN l
 have hi:=(isort_perm (l.filter mayN)).length_eq
 refine C_conf_Of nl nl ?_
 simp only [cz,A_conf_Of,argL,objL,List.length_nil,zX]
 refine aR 16 ?_
 refine aB 160 ?_
 refine rO [] [] (slices_Clone_int_int_con (l.map nrow) (drows_nrow _) (nrow_len _) (by simp;omega)) ?_
 refine aM ?_
 refine RG.callo [176] [] (slices_DeleteFunc_con l (by omega)) (.mk (tr_cons (tr_osl rfl) (tr_cons ⟨rfl,trivial⟩ tr_nil)) (by simp only [zT,↓reduceIte];exact drows_nrow _) (by simp) (by simp) (trivial) (by simp [lkE_cons,lkE_nil]) (pure2 (drows_nrow _)) (by simp) (by simp)) ?_
 refine aE ?_
 refine aB 400 ?_
 refine rO [192] [] (slices_Sort_con (l.filter mayN) (by omega)) ?_
 refine aE ?_
 refine aB 600 ?_
 refine rO [192] [] (slices_Compact_con (isort (l.filter mayN)) (by omega)) ?_
 refine aE ?_
 refine Fin.objs [] [(0,616)] (.inr rfl) rfl (by exact trivial) ?_ ?_ (by simp [objL,rlook]) (by (simp [objL,rlook];done))
 ·simp only [zL,simprocAttr]
 ·simp only [zL,simprocAttr]
  all_goals (exact ⟨rfl,drows_nrow _⟩)


theorem slices_Equal_con (l m : List Int) (hb : l.length≤1000000) : Con Tryz.prog 72 [.c (.sl (l.map nrow)),.c (.sl (m.map nrow))] [] (B (decide (l = m))) []:=by
 refine C_slices_Equal_int_int nl nl ?_
 simp only [cz,A_slices_Equal_int_int,argL,objL,List.length_nil,Nat.zero_add,zX]
 refine aR 16 ?_
 refine aR 160 ?_
 refine aw_cond _ rfl trivial (fun ht=>?_) (fun hf=>?_)
 ·have hne : l≠m:=by rintro rfl;simp at ht
  simp only [zX]
  refine aR 320 ?_
  exact Fin.b (.inr rfl) rfl trivial (by simp [hne])
 have hlen : l.length = m.length:=by simp at hf;omega
 simp only [zX]
 refine aR 320 ?_
 refine aw_loop (X:={ i : Nat // i≤l.length∧l.take i = m.take i }) (fun i=>mkSt [(0,.c (.sl (l.map nrow))),(1,.c (.sl (m.map nrow))),(12,I l.length),(13,I i.1)] []) (fun i=>l.length - i.1) ⟨0,by omega,by simp⟩ ?_ ?_
 ·refine Le.lit [] [] _ _ ?_ ?_ ?_ ?_
  ·skip
   simp only [zL,simprocAttr]
   simp
  ·skip
   simp only [zL,simprocAttr]
  ·simp
  ·simp
 rintro ⟨i,hi,htk⟩
 simp only [zX]
 refine aR 480 ?_
 refine aw_cond _ rfl trivial (fun ht=>?_) (fun hf=>?_)
 rotate_left
 ·have hi' : i = l.length:=by simp at hf;omega
  have he : l = m:=by
   have h1:=htk
   rw [hi',List.take_length] at h1
   rw [hlen,List.take_length] at h1
   exact h1
  simp only [zX,↓reduceIte]
  refine aR 640 ?_
  exact Fin.b (.inr rfl) rfl trivial (by simp [he])
 have hi' : i < l.length:=by simp at ht;omega
 have hm' : i < m.length:=by omega
 have hr1 : (List.map nrow l)[(i : Int).toNat]?.getD [] = [.v (.int .i64 l[i])]:=by simp [hi',nrow]
 have hr2 : (List.map nrow m)[(i : Int).toNat]?.getD [] = [.v (.int .i64 m[i])]:=by simp [hm',nrow]
 have hw1 : IntKind.i64.wrap ((i : Int) + 1) = ((i + 1 : Nat) : Int):=by rw [w64 _ (by omega) (by omega)];rfl
 simp only [zX]
 refine aR 640 ?_
 refine aw_draw 800 (RG.go fun Q hQ=>?_)
 simp only [zS,hr1,hr2,simprocAttr]
 refine ⟨⟨by omega,by simp;omega⟩,⟨by omega,by simp;omega⟩,?_⟩
 refine hQ (RG.nil ⟨by decide,?_⟩)
 simp only [zX]
 refine aw_cond _ rfl trivial (fun ht2=>?_) (fun hf2=>?_)
 ·have hne : l≠m:=by
   rintro rfl
   simp at ht2
  simp only [zX]
  refine aR 1000 ?_
  exact Fin.b (.inr rfl) rfl trivial (by simp [hne])
 have he : l[i] = m[i]:=by simpa using hf2
 simp only [zX]
 refine aS 1000 (fun Q hQ=>by simp only [zS,hw1,simprocAttr];exact hQ) ?_
 refine ⟨⟨i + 1,hi',by rw [take_one l i hi',take_one m i hm',htk,he]⟩,?_,by simp;omega⟩
 refine Le.lit [] [] _ _ ?_ ?_ ?_ ?_
 ·skip
  simp only [zL,simprocAttr]
 ·skip
  simp only [zL,simprocAttr]
 ·simp
 ·simp

theorem mementoref6_SameInts_con (l m : List Int) (hb : l.length≤1000000) : Con Tryz.prog 74 [.c (.sl (l.map nrow)),.c (.sl (m.map nrow))] [] (B (decide (l = m))) []:=by
 refine C_mementoref6_SameInts nl nl ?_
 simp only [cz,A_mementoref6_SameInts,argL,objL,List.length_nil,Nat.zero_add,zX]
 refine aR 16 ?_
 refine aR 160 ?_
 refine aw_cond _ rfl trivial (fun ht=>?_) (fun hf=>?_)
 ·have hne : l≠m:=by rintro rfl;simp at ht
  simp only [zX]
  refine aR 320 ?_
  exact Fin.b (.inr rfl) rfl trivial (by simp [hne])
 have hlen : l.length = m.length:=by simp at hf;omega
 simp only [zX]
 refine aR 320 ?_
 refine aw_loop (X:={ i : Nat // i≤l.length∧l.take i = m.take i }) (fun i=>mkSt [(0,.c (.sl (l.map nrow))),(1,.c (.sl (m.map nrow))),(5,I i.1)] []) (fun i=>l.length - i.1) ⟨0,by omega,by simp⟩ ?_ ?_
 ·refine Le.lit [] [] _ _ ?_ ?_ ?_ ?_
  ·skip
   simp only [zL,simprocAttr]
   skip
  ·skip
   simp only [zL,simprocAttr]
  ·simp
  ·simp
 rintro ⟨i,hi,htk⟩
 simp only [zX]
 refine aR 480 ?_
 refine aw_cond _ rfl trivial (fun ht=>?_) (fun hf=>?_)
 rotate_left
 ·have hi' : i = l.length:=by simp at hf;omega
  have he : l = m:=by
   have h1:=htk
   rw [hi',List.take_length] at h1
   rw [hlen,List.take_length] at h1
   exact h1
  simp only [zX,↓reduceIte]
  refine aR 640 ?_
  exact Fin.b (.inr rfl) rfl trivial (by simp [he])
 have hi' : i < l.length:=by simp at ht;omega
 have hm' : i < m.length:=by omega
 have hr1 : (List.map nrow l)[(i : Int).toNat]?.getD [] = [.v (.int .i64 l[i])]:=by simp [hi',nrow]
 have hr2 : (List.map nrow m)[(i : Int).toNat]?.getD [] = [.v (.int .i64 m[i])]:=by simp [hm',nrow]
 have hw1 : IntKind.i64.wrap ((i : Int) + 1) = ((i + 1 : Nat) : Int):=by rw [w64 _ (by omega) (by omega)];rfl
 simp only [zX]
 skip
 refine aw_draw 800 (RG.go fun Q hQ=>?_)
 simp only [zS,hr1,hr2,simprocAttr]
 refine ⟨⟨by omega,by simp;omega⟩,⟨by omega,by simp;omega⟩,?_⟩
 refine hQ (RG.nil ⟨by decide,?_⟩)
 simp only [zX]
 refine aw_cond _ rfl trivial (fun ht2=>?_) (fun hf2=>?_)
 ·have hne : l≠m:=by
   rintro rfl
   simp at ht2
  simp only [zX]
  refine aR 1000 ?_
  exact Fin.b (.inr rfl) rfl trivial (by simp [hne])
 have he : l[i] = m[i]:=by simpa using hf2
 simp only [zX]
 refine aS 1000 (fun Q hQ=>by simp only [zS,hw1,simprocAttr];exact hQ) ?_
 refine ⟨⟨i + 1,hi',by rw [take_one l i hi',take_one m i hm',htk,he]⟩,?_,by simp;omega⟩
 refine Le.lit [] [] _ _ ?_ ?_ ?_ ?_
 ·skip
  simp only [zL,simprocAttr]
 ·skip
  simp only [zL,simprocAttr]
 ·simp
 ·simp

theorem dd_mem (x : Int) : ∀ l : List Int,x ∈ dd l ↔ x ∈ l
 | []=>by simp [dd]
 | [y]=>by simp [dd]
 | y :: z :: r=>by
  have ih:=dd_mem x (z :: r)
  unfold dd
  split
  ·rename_i h;subst h;rw [ih];simp
  ·rw [List.mem_cons,ih,List.mem_cons (a:=x) (b:=y)]

theorem dd_sorted : ∀ l : List Int,l.Pairwise (·≤·)→(dd l).Pairwise (· < ·)
 | [],_=>by simp [dd]
 | [y],_=>by simp [dd]
 | y :: z :: r,h=>by
  rw [List.pairwise_cons] at h
  have ih:=dd_sorted (z :: r) h.2
  unfold dd
  split
  ·exact ih
  ·rename_i hne
   rw [List.pairwise_cons]
   refine ⟨fun x hx=>?_,ih⟩
   have hx':=(dd_mem x (z :: r)).1 hx
   have hyz:=h.1 z (by simp)
   rcases List.mem_cons.1 hx' with rfl | hx'
   ·omega
   ·have hz:=(List.pairwise_cons.1 h.2).1 x hx'
    omega

theorem strict_eq : ∀ {l m : List Int},(∀ x,x ∈ l ↔ x ∈ m)→l.Pairwise (· < ·)→m.Pairwise (· < ·)→l = m
 | [],[],_,_,_=>rfl
 | [],y :: m,h,_,_=>by have:=(h y).2 (by simp);simp at this
 | x :: l,[],h,_,_=>by have:=(h x).1 (by simp);simp at this
 | x :: l,y :: m,h,hl,hm=>by
  rw [List.pairwise_cons] at hl hm
  have h1 : x = y:=by
   rcases List.mem_cons.1 ((h x).1 (by simp)) with e | hx
   ·exact e
   ·rcases List.mem_cons.1 ((h y).2 (by simp)) with e | hy
    ·exact e.symm
    ·have:=hm.1 x hx;have:=hl.1 y hy;omega
  subst h1
  rw [strict_eq (fun z=>?_) hl.2 hm.2]
  constructor
  ·intro hz
   rcases List.mem_cons.1 ((h z).1 (List.mem_cons_of_mem _ hz)) with rfl | hz'
   ·exact absurd (hl.1 z hz) (Int.lt_irrefl _)
   ·exact hz'
  ·intro hz
   rcases List.mem_cons.1 ((h z).2 (List.mem_cons_of_mem _ hz)) with rfl | hz'
   ·exact absurd (hm.1 z hz) (Int.lt_irrefl _)
   ·exact hz'

def ofN (l : List Int) (n : Nat) : List Int:=((List.range n).map fun (k : Nat)=>(k : Int)).filter fun k=>decide (k ∈ l)

theorem ofN_succ (l : List Int) (n : Nat) : ofN l (n + 1) = ofN l n ++ if (n : Int) ∈ l then [(n : Int)] else []:=by
 unfold ofN
 rw [List.range_succ,List.map_append,List.filter_append]
 by_cases h : (n : Int) ∈ l <;> simp [h]

theorem ofN_len (l : List Int) (n : Nat) : (ofN l n).length≤n:=by
 unfold ofN
 have:=List.length_filter_le (fun k=>decide (k ∈ l)) ((List.range n).map fun (k : Nat)=>(k : Int))
 simpa using this

theorem ofN_ofS (l : List Int) : ofN l 7 = ofS l:=by
 refine strict_eq (fun x=>?_) ?_ (dd_sorted _ (isort_sorted _))
 ·unfold ofS
  rw [dd_mem,(isort_perm _).mem_iff,List.mem_filter]
  unfold ofN mayN
  simp only [List.mem_filter,List.mem_map,List.mem_range,decide_eq_true_eq,Bool.and_eq_true]
  constructor
  ·rintro ⟨⟨k,hk,rfl⟩,h⟩;exact ⟨h,by omega,by omega⟩
  ·rintro ⟨h,h1,h2⟩;exact ⟨⟨x.toNat,by omega,by omega⟩,h⟩
 ·unfold ofN
  refine List.Pairwise.filter _ ?_
  decide

theorem mementoref6_Has_con (l : List Int) (n : Int) (hb : l.length≤1000000) : Con Tryz.prog 83 [.c (.sl (l.map nrow)),I n] [] (B (decide (n ∈ l))) []:=by
 refine C_mementoref6_Has nl nl ?_
 simp only [cz,A_mementoref6_Has,argL,objL,List.length_nil,Nat.zero_add,zX]
 refine aR 16 ?_
 refine aR 160 ?_
 refine aw_loop (X:={ i : Nat // i≤l.length∧n ∉ l.take i }) (fun i=>mkSt [(0,.c (.sl (l.map nrow))),(1,I n),(5,I i.1)] []) (fun i=>l.length - i.1) ⟨0,by omega,by simp⟩ ?_ ?_
 ·refine Le.lit [] [] _ _ ?_ ?_ ?_ ?_
  ·skip
   simp only [zL,simprocAttr]
  ·skip
   simp only [zL,simprocAttr]
  ·simp
  ·simp
 rintro ⟨i,hi,hnt⟩
 simp only [zX]
 refine aR 480 ?_
 refine aw_cond _ rfl trivial (fun ht=>?_) (fun hf=>?_)
 rotate_left
 ·have hi' : i = l.length:=by simp at hf;omega
  have hn : n ∉ l:=by have h1:=hnt;rw [hi',List.take_length] at h1;exact h1
  simp only [zX,↓reduceIte]
  refine aR 640 ?_
  exact Fin.b (.inr rfl) rfl trivial (by simp [hn])
 have hi' : i < l.length:=by simp at ht;omega
 have hr1 : (List.map nrow l)[(i : Int).toNat]?.getD [] = [.v (.int .i64 l[i])]:=by simp [hi',nrow]
 have hw1 : IntKind.i64.wrap ((i : Int) + 1) = ((i + 1 : Nat) : Int):=by rw [w64 _ (by omega) (by omega)];rfl
 simp only [zX]
 refine aw_reg 800 (RG.go fun Q hQ=>?_)
 simp only [zS,hr1,simprocAttr]
 refine ⟨by simp;omega,hQ (RG.nil ?_)⟩
 simp only [zX]
 refine aw_cond _ rfl trivial (fun ht2=>?_) (fun hf2=>?_)
 ·have he : l[i] = n:=by simpa using ht2
  have hn : n ∈ l:=by rw [← he];exact List.getElem_mem hi'
  simp only [zX]
  refine aR 1000 ?_
  exact Fin.b (.inr rfl) rfl trivial (by simp [hn])
 have he : ¬ l[i] = n:=by simpa using hf2
 simp only [zX]
 refine aS 1000 (fun Q hQ=>by simp only [zS,hw1,simprocAttr];exact hQ) ?_
 refine ⟨⟨i + 1,hi',by rw [take_one l i hi'];simp only [List.mem_append,List.mem_singleton,not_or];exact ⟨hnt,fun h=>he h.symm⟩⟩,?_,by simp;omega⟩
 refine Le.lit [] [] _ _ ?_ ?_ ?_ ?_
 ·skip
  simp only [zL,simprocAttr]
 ·skip
  simp only [zL,simprocAttr]
 ·simp
 ·simp

theorem mementoref6_Of_con (l : List Int) (hb : l.length≤1000000) : Con Tryz.prog 60 [.c (.sl (l.map nrow))] [] (.c (.osl 0)) [.arr 3 1 ((ofS l).map nrow) false]:=by
 refine C_mementoref6_Of nl nl ?_
 simp only [cz,A_mementoref6_Of,argL,objL,List.length_nil,zX]
 refine aR 16 ?_
 refine aR 160 ?_
 refine aR 320 ?_
 refine aw_loop (X:={ i : Nat // i≤7 }) (fun i=>mkSt [(0,.c (.sl (l.map nrow))),(3,.c (.osl 1000)),(4,I i.1)] [(1000,.arr 3 1 ((ofN l i.1).map nrow) false)]) (fun i=>7 - i.1) ⟨0,by omega⟩ ?_ ?_
 ·refine (Le.own 3 1000 3 1 rfl rfl (by decide)).trans (Le.lit [] [] _ _ ?_ ?_ ?_ ?_)
  ·skip
   simp only [zL,simprocAttr]
  ·skip
   simp only [zL,simprocAttr]
   simp [ofN]
  ·simp
  ·simp
 rintro ⟨i,hi⟩
 simp only [zX]
 refine aR 480 ?_
 refine aw_cond _ rfl trivial (fun ht=>?_) (fun hf=>?_)
 rotate_left
 ·have hi' : i = 7:=by simp at hf;omega
  have he : ofN l i = ofS l:=by rw [hi'];exact ofN_ofS l
  simp only [zX,↓reduceIte]
  refine aR 640 ?_
  refine Fin.objs [] [(0,1000)] (.inr rfl) rfl (by exact trivial) ?_ ?_ (by simp [objL,rlook]) (by (simp [objL,rlook];done))
  ·simp only [zL,simprocAttr]
  ·simp only [zL,simprocAttr]
   all_goals (exact ⟨by rw [he],drows_nrow _⟩)
 have hi' : i < 7:=by simp at ht;omega
 have hw1 : IntKind.i64.wrap ((i : Int) + 1) = ((i + 1 : Nat) : Int):=by rw [w64 _ (by omega) (by omega)];rfl
 have hs:=ofN_succ l i
 have hl:=ofN_len l i
 simp only [zX]
 refine aB 800 ?_
 refine rC [] (mementoref6_Has_con l i hb) ?_ (hv:=(trivial)) (hs:=(.inl trivial))
 refine aE ?_
 refine aw_cond _ rfl trivial (fun ht2=>?_) (fun hf2=>?_)
 ·have he : (i : Int) ∈ l:=by simpa using ht2
  rw [if_pos he] at hs
  refine aw_reg 1000 (RG.go fun Q hQ=>?_)
  simp only [zS,simprocAttr]
  refine ⟨⟨by simp,by simp;omega⟩,hQ (RG.nil ?_)⟩
  simp only [zX]
  refine aS 1200 (fun Q hQ=>by simp only [zS,hw1,simprocAttr];exact hQ) ?_
  refine ⟨⟨i + 1,by omega⟩,?_,by simp;omega⟩
  refine Le.lit [] [(1000,1048)] _ _ ?_ ?_ ?_ ?_
  ·skip
   simp only [zL,simprocAttr]
  ·skip
   simp only [zL,simprocAttr]
   exact ⟨by rw [hs,List.map_append];rfl,drows_nrow _⟩
  ·simp
  ·simp
 have he : ¬ (i : Int) ∈ l:=by simpa using hf2
 rw [if_neg he,List.append_nil] at hs
 simp only [zX]
 refine aw_reg 1200 (RG.go fun Q hQ=>?_)
 simp only [zS,hw1,simprocAttr]
 refine hQ (RG.nil ?_)
 simp only [zX]
 refine ⟨⟨i + 1,by omega⟩,?_,by simp;omega⟩
 refine Le.lit [] [] _ _ ?_ ?_ ?_ ?_
 ·skip
  simp only [zL,simprocAttr]
 ·skip
  simp only [zL,simprocAttr]
  exact ⟨by rw [hs],drows_nrow _⟩
 ·simp
 ·simp

def rightS (l : List Int) : Bool:=decide (0 < l.length) && decide (l = ofS l)

theorem conf_Right_con (l : List Int) (hb : l.length≤12) : Con Tryz.prog 70 [.c (.sl (l.map nrow))] [] (B (rightS l)) []:=by
 refine C_conf_Right nl nl ?_
 simp only [cz,A_conf_Right,argL,objL,List.length_nil,zX]
 refine aR 16 ?_
 refine aB 160 ?_
 refine RG.callg _ _ [] rfl (fun hg=>⟨_,(conf_Of_con l hb).rows (drows_nrow _),tr_cons (tr_opt (by simpa using hg) tr_sl) tr_nil,trivial,.inr ⟨rfl,trivial⟩⟩) ?_
 refine aM ?_
 refine rG _ _ (slices_Equal_con l (ofS l) (by omega)) ?_
 refine aE ?_
 exact Fin.b (.inr rfl) rfl trivial (by rw [Bool.eq_iff_iff];simp [rightS])

theorem mementoref6_Right_con (l : List Int) (hb : l.length≤1000000) : Con Tryz.prog 71 [.c (.sl (l.map nrow))] [] (B (rightS l)) []:=by
 refine C_mementoref6_Right nl nl ?_
 simp only [cz,A_mementoref6_Right,argL,objL,List.length_nil,zX]
 refine aR 16 ?_
 refine aB 160 ?_
 refine rC [] ((mementoref6_Of_con l hb).rows (drows_nrow _)) ?_ (hv:=(trivial)) (hs:=(.inr ⟨rfl,trivial⟩))
 refine aE ?_
 refine aw_reg 320 (RG.go fun Q hQ=>?_)
 simp only [zS,simprocAttr]
 refine ⟨fun h=>by rw [h];rfl,hQ (RG.nil ?_)⟩
 simp only [zX]
 refine aw_cond _ rfl trivial (fun ht=>?_) (fun hf=>?_)
 ·have hr : rightS l = false:=by
   unfold rightS
   by_cases h0 : l.length = 0
   ·simp [h0]
   ·have : l≠ofS l:=by
     intro h;rw [← h] at ht;simp at ht;rw [ht] at h0;simp at h0
    simp [this]
  rw [hr]
  simp only [zX]
  refine aR 480 ?_
  exact Fin.scalar (.inr rfl) rfl trivial rfl trivial
 have hlen : 0 < l.length∧(ofS l).length = l.length:=by
  simp at hf
  exact ⟨by have:=List.length_pos_iff.2 hf.1;exact this,by omega⟩
 generalize hm : ofS l = m at *
 have hrs : rightS l = decide (l = m):=by unfold rightS;rw [hm];simp [hlen.1]
 rw [hrs]
 simp only [zX]
 refine aR 480 ?_
 refine aw_loop (X:={ i : Nat // i≤l.length∧l.take i = m.take i }) (fun i=>mkSt [(0,.c (.sl (l.map nrow))),(3,.c (.sl (m.map nrow))),(4,I i.1)] []) (fun i=>l.length - i.1) ⟨0,by omega,by simp⟩ ?_ ?_
 ·refine Le.lit [] [] _ _ ?_ ?_ ?_ ?_
  ·skip
   simp only [zL,simprocAttr]
  ·skip
   simp only [zL,simprocAttr]
  ·simp
  ·simp
 rintro ⟨i,hi,htk⟩
 simp only [zX]
 refine aR 680 ?_
 refine aw_cond _ rfl trivial (fun ht=>?_) (fun hf2=>?_)
 rotate_left
 ·have hi' : i = l.length:=by simp at hf2;omega
  have he : l = m:=by
   have h1:=htk
   rw [hi',List.take_length] at h1
   rw [← hlen.2,List.take_length] at h1
   exact h1
  simp only [zX,↓reduceIte]
  refine aR 640 ?_
  exact Fin.b (.inr rfl) rfl trivial (by simp [he])
 have hi' : i < l.length:=by simp at ht;omega
 have hm' : i < m.length:=by omega
 have hr1 : (List.map nrow l)[(i : Int).toNat]?.getD [] = [.v (.int .i64 l[i])]:=by simp [hi',nrow]
 have hr2 : (List.map nrow m)[(i : Int).toNat]?.getD [] = [.v (.int .i64 m[i])]:=by simp [hm',nrow]
 have hw1 : IntKind.i64.wrap ((i : Int) + 1) = ((i + 1 : Nat) : Int):=by rw [w64 _ (by omega) (by omega)];rfl
 simp only [zX]
 refine aw_draw 800 (RG.go fun Q hQ=>?_)
 simp only [zS,hr1,hr2,simprocAttr]
 refine ⟨⟨by omega,by simp;omega⟩,⟨by omega,by simp;omega⟩,?_⟩
 refine hQ (RG.nil ⟨by decide,?_⟩)
 simp only [zX]
 refine aw_cond _ rfl trivial (fun ht2=>?_) (fun hf2=>?_)
 ·have hne : l≠m:=by
   intro h;subst h
   simp at ht2
  simp only [zX]
  refine aR 1000 ?_
  exact Fin.b (.inr rfl) rfl trivial (by simp [hne])
 have he : l[i] = m[i]:=by simpa using hf2
 simp only [zX]
 refine aS 1000 (fun Q hQ=>by simp only [zS,hw1,simprocAttr];exact hQ) ?_
 refine ⟨⟨i + 1,hi',by rw [take_one l i hi',take_one m i hm',htk,he]⟩,?_,by simp;omega⟩
 refine Le.lit [] [] _ _ ?_ ?_ ?_ ?_
 ·skip
  simp only [zL,simprocAttr]
 ·skip
  simp only [zL,simprocAttr]
 ·simp
 ·simp

def baseRight (i t : Int) (conf : List Int) (data : List Nat) : Bool:=timeS i && timeS t && rightS conf && decide (data.length≤32767)

abbrev basC (i t : Int) (conf : List Int) (data : List Nat) : List C:=[.v (.int .i64 i),.v (.int .i64 t),.sl (conf.map nrow),.sl (data.map brow)]

theorem entry_BaseRight_con (i t : Int) (conf : List Int) (data : List Nat) (hb : conf.length≤12) : Con Tryz.prog 38 [.agg (basC i t conf data)] [] (B (baseRight i t conf data)) []:=by
 refine C_entry_BaseRight nl nl ?_
 simp only [cz,A_entry_BaseRight,argL,objL,List.length_nil,zX]
 refine aR 16 ?_
 refine aB 160 ?_
 refine rC [] (entry_time_con i) ?_ (hv:=(trivial)) (hs:=(.inl trivial))
 refine aM ?_
 refine rG _ _ (entry_time_con t) ?_
 refine aM ?_
 refine rG _ _ (conf_Right_con conf hb) ?_
 refine aE ?_
 exact Fin.b (.inr rfl) rfl trivial (by rw [Bool.eq_iff_iff];simp [baseRight];intros;omega)

theorem mementoref6_BaseRight_con (i t : Int) (conf : List Int) (data : List Nat) (hb : conf.length≤1000000) : Con Tryz.prog 40 [.agg (basC i t conf data)] [] (B (baseRight i t conf data)) []:=by
 refine C_mementoref6_BaseRight nl nl ?_
 simp only [cz,A_mementoref6_BaseRight,argL,objL,List.length_nil,zX]
 refine aR 16 ?_
 refine aB 160 ?_
 refine rC [] (mementoref6_time_con i) ?_ (hv:=(trivial)) (hs:=(.inl trivial))
 refine aM ?_
 refine rG _ _ (mementoref6_time_con t) ?_
 refine aM ?_
 refine rG _ _ (mementoref6_Right_con conf hb) ?_
 refine aE ?_
 exact Fin.b (.inr rfl) rfl trivial (by rw [Bool.eq_iff_iff];simp [baseRight];intros;omega)

def sameB (i t : Int) (c : List Int) (d : List Nat) (i' t' : Int) (c' : List Int) (d' : List Nat) : Bool:=i == i' && t == t' && decide (c = c') && decide (d = d')

theorem entry_SameBase_con (i t : Int) (c : List Int) (d : List Nat) (i' t' : Int) (c' : List Int) (d' : List Nat) (hc : c.length≤1000000) (hd : ∀ x ∈ d,x < 256) (hd' : ∀ x ∈ d',x < 256) :
  Con Tryz.prog 44 [.agg (basC i t c d),.agg (basC i' t' c' d')] [] (B (sameB i t c d i' t' c' d')) []:=by
 refine C_entry_SameBase nl nl ?_
 simp only [cz,A_entry_SameBase,argL,objL,List.length_nil,Nat.zero_add,zX]
 refine aR 16 ?_
 refine aB 160 ?_
 refine rG _ _ (slices_Equal_con c c' hc) ?_
 refine aM ?_
 refine rG _ _ (bytes_Equal_con d d' hd hd') ?_
 refine aE ?_
 exact Fin.b (.inr rfl) rfl trivial (by simp [sameB])

theorem mementoref6_SameBase_con (i t : Int) (c : List Int) (d : List Nat) (i' t' : Int) (c' : List Int) (d' : List Nat) (hc : c.length≤1000000) (hd : ∀ x ∈ d,x < 256) (hd' : ∀ x ∈ d',x < 256) :
  Con Tryz.prog 47 [.agg (basC i t c d),.agg (basC i' t' c' d')] [] (B (sameB i t c d i' t' c' d')) []:=by
 have hs:=str_eq d d' hd hd'
 refine C_mementoref6_SameBase nl nl ?_
 simp only [cz,A_mementoref6_SameBase,argL,objL,List.length_nil,Nat.zero_add,zX]
 refine aR 16 ?_
 refine aB 160 ?_
 refine rG _ _ (mementoref6_SameInts_con c c' hc) ?_
 refine RG.go fun Q hQ=>?_
 simp only [zS,simprocAttr]
 simp only [hs]
 refine ⟨fun h=>⟨isByteRow_brow _,h⟩,fun h=>⟨isByteRow_brow _,h⟩,hQ (RG.nil ?_)⟩
 simp only [zX]
 exact Fin.b (.inr rfl) rfl trivial (by simp [sameB])


def putB (i t : Int) (conf : List Int) (data : List Nat) : List Nat :=
 if baseRight i t conf data then putS [i.toNat,t.toNat,conf.length] ++ putS (conf.map Int.toNat) ++ (num7 data.length ++ data) else []

theorem ofS_may (l : List Int) : ∀ x ∈ ofS l,mayN x = true:=by
 intro x hx
 unfold ofS at hx
 rw [dd_mem,(isort_perm _).mem_iff,List.mem_filter] at hx
 exact hx.2

theorem rightS_facts {l : List Int} (h : rightS l = true) : 0 < l.length∧l.length≤7∧∀ x ∈ l,0≤x∧x < 7:=by
 unfold rightS at h
 simp only [Bool.and_eq_true,decide_eq_true_eq] at h
 refine ⟨h.1,?_,fun x hx=>?_⟩
 ·rw [h.2,← ofN_ofS];exact ofN_len l 7
 ·rw [h.2] at hx
  have:=ofS_may l x hx
  simpa [mayN] using this

theorem baseRight_facts {i t : Int} {conf : List Int} {data : List Nat} (h : baseRight i t conf data = true) : 0≤i∧i≤1099511627776∧0≤t∧t≤1099511627776∧rightS conf = true∧data.length≤32767:=by
 unfold baseRight timeS at h
 simp only [Bool.and_eq_true,decide_eq_true_eq] at h
 exact ⟨h.1.1.1.1,h.1.1.1.2,h.1.1.2.1,h.1.1.2.2,h.1.2,h.2⟩

theorem entry_PutBase_con (i t : Int) (conf : List Int) (data : List Nat) (hb : conf.length≤12) : Con Tryz.prog 26 [.agg (basC i t conf data)] [] (.c (.sl ((putB i t conf data).map brow))) []:=by
 refine C_entry_PutBase nl nl ?_
 simp only [cz,A_entry_PutBase,argL,objL,List.length_nil,zX]
 refine aR 16 ?_
 refine aB 160 ?_
 refine rC [] (entry_BaseRight_con i t conf data hb) ?_ (hv:=(trivial)) (hs:=(.inl trivial))
 refine aE ?_
 refine aw_cond _ rfl trivial (fun ht=>?_) (fun hf=>?_)
 ·have he : baseRight i t conf data = false:=by simpa using ht
  simp only [zX]
  refine aR 600 ?_
  have hp : putB i t conf data = []:=by simp [putB,he]
  rw [hp]
  exact Fin.data [] (.inr rfl) rfl trivial ⟨rfl,rfl⟩
 have he : baseRight i t conf data = true:=by simpa using hf
 obtain ⟨h1,h2,h3,h4,h5,h6⟩:=baseRight_facts he
 obtain ⟨h7,h8,h9⟩:=rightS_facts h5
 have w1:=u64_nat (n:=i) (by omega) (by omega)
 have w2:=u64_nat (n:=t) (by omega) (by omega)
 have w3 : IntKind.u64.wrap ((conf.map nrow).length : Int) = (conf.length : Int):=by rw [w_u64,List.length_map];omega
 have hp : putB i t conf data = putS [i.toNat,t.toNat,conf.length] ++ putS (conf.map Int.toNat) ++ (num7 data.length ++ data):=by simp [putB,he]
 have g1:=putS_len [i.toNat,t.toNat,conf.length] (by simp;omega)
 have g2:=num7_len data.length (by omega)
 simp only [List.length_cons,List.length_nil] at g1
 have g3 : ∀ k,(putS ((conf.map Int.toNat).take k)).length≤70:=fun k=>by
  have:=putS_len ((conf.map Int.toNat).take k) (fun m hm=>by
   obtain ⟨x,hx,rfl⟩:=List.mem_map.1 (List.mem_of_mem_take hm)
   have:=h9 x hx;omega)
  simp at this;omega
 simp only [zX]
 refine aBs 800 (fun Q hQ=>by simp only [zS,w1,w2,w3,simprocAttr];exact hQ) ?_
 refine RG.callo [] [960] (pack_Put_con [i.toNat,t.toNat,conf.length] (by simp) (by simp;omega)) (.mk (tr_cons (tr_view (by simp) rfl (by simp [isDRows,urow,C.isD])) tr_nil) (trivial) (by simp) (by simp) (views1 rfl trivial) (by simp [lkE_cons,lkE_nil]) (by simp only [List.mem_singleton,forall_eq,Ent.pure];exact drows_brow _) (by simp) (by simp)) ?_
 refine aE ?_
 refine aR 1200 ?_
 refine aw_loop (X:={ k : Nat // k≤conf.length }) (fun k=>mkSt [(1,.c (.bp 16 0)),(3,.c (.osl 1000)),(22,.c (.sl (conf.map nrow))),(23,I conf.length),(24,I k.1)] [(16,.box (basC i t conf data)),(1000,.arr 5 1 ((putS [i.toNat,t.toNat,conf.length] ++ putS ((conf.map Int.toNat).take k.1)).map brow) false)]) (fun k=>conf.length - k.1) ⟨0,by omega⟩ ?_ ?_
 ·refine Le.lit [] [(1000,976)] _ _ ?_ ?_ ?_ ?_
  ·skip
   simp only [zL,simprocAttr]
   simp
  ·skip
   simp only [zL,simprocAttr]
   refine ⟨by simp [putS],drows_brow _⟩
  ·simp [rlook]
  ·simp
 rintro ⟨k,hk⟩
 simp only [zX]
 refine aR 1400 ?_
 refine aw_cond _ rfl trivial (fun ht=>?_) (fun hf=>?_)
 rotate_left
 ·have hk' : k = conf.length:=by simp at hf;omega
  have g4:=g3 k
  have htk : (conf.map Int.toNat).take k = conf.map Int.toNat:=List.take_of_length_le (by simp;omega)
  simp only [zX,↓reduceIte]
  refine aB 1600 ?_
  refine rO [] [] ((pack_Lump_con data (by omega)).rows (drows_brow _)) ?_
  refine RG.go fun Q hQ=>?_
  simp only [zS,simprocAttr]
  refine ⟨⟨brow_len _,by simp only [List.length_map,List.length_append];omega⟩,hQ (RG.nil ?_)⟩
  simp only [zX]
  rw [← List.map_append,htk,← hp]
  exact Fin.data [1664] (.inr rfl) rfl trivial ⟨⟨_,_,rfl⟩,drows_brow _⟩
 have hk' : k < conf.length:=by simp at ht;omega
 have hw1 : IntKind.i64.wrap ((k : Int) + 1) = ((k + 1 : Nat) : Int):=by rw [w64 _ (by omega) (by omega)];rfl
 have hr : (List.map nrow conf)[(k : Int).toNat]?.getD [] = [.v (.int .i64 conf[k])]:=by simp [hk',nrow]
 obtain ⟨h10,h11⟩:=h9 conf[k] (List.getElem_mem hk')
 have hwk:=u64_nat (n:=conf[k]) h10 (by omega)
 have hps : putS ((conf.map Int.toNat).take (k + 1)) = putS ((conf.map Int.toNat).take k) ++ putS [conf[k].toNat]:=by
  rw [putS_take _ _ (by simpa using hk')];simp [putS]
 have g4:=g3 (k + 1)
 rw [hps,List.length_append] at g4
 simp only [zX]
 refine aw_reg 1600 (RG.go fun Q hQ=>?_)
 simp only [zS,hr,simprocAttr]
 refine ⟨by simp;omega,hQ (RG.nil ?_)⟩
 simp only [zX]
 refine aBs 1800 (fun Q hQ=>by simp only [zS,hwk,simprocAttr];exact hQ) ?_
 refine RG.callo [] [1848] ((pack_Put_con [conf[k].toNat] (by simp) (by simp;omega)).rows (drows_brow _)) (.mk (tr_cons (tr_view (by simp) rfl (by simp [isDRows,urow,C.isD])) tr_nil) (trivial) (by simp) (by simp) (views1 rfl trivial) (by simp [lkE_cons,lkE_nil]) (by simp) (by simp) (by simp)) ?_
 refine RG.go fun Q hQ=>?_
 simp only [zS,simprocAttr]
 refine ⟨⟨brow_len _,by simp only [List.length_map,List.length_append];omega⟩,hQ (RG.nil ?_)⟩
 simp only [zX]
 refine aS 2200 (fun Q hQ=>by simp only [zS,hw1,simprocAttr];exact hQ) ?_
 refine ⟨⟨k + 1,hk'⟩,?_,by simp;omega⟩
 refine Le.lit [] [(1000,1880)] _ _ ?_ ?_ ?_ ?_
 ·skip
  simp only [zL,simprocAttr]
 ·skip
  simp only [zL,simprocAttr]
  refine ⟨by rw [hps];simp,drows_brow _⟩
 ·simp [rlook]
 ·simp

theorem mementoref6_PutBase_con (i t : Int) (conf : List Int) (data : List Nat) (hb : conf.length≤1000000) : Con Tryz.prog 33 [.agg (basC i t conf data)] [] (.c (.sl ((putB i t conf data).map brow))) []:=by
 refine C_mementoref6_PutBase nl nl ?_
 simp only [cz,A_mementoref6_PutBase,argL,objL,List.length_nil,zX]
 refine aR 16 ?_
 refine aB 160 ?_
 refine rC [] (mementoref6_BaseRight_con i t conf data hb) ?_ (hv:=(trivial)) (hs:=(.inl trivial))
 refine aE ?_
 refine aw_cond _ rfl trivial (fun ht=>?_) (fun hf=>?_)
 ·have he : baseRight i t conf data = false:=by simpa using ht
  simp only [zX]
  refine aR 600 ?_
  have hp : putB i t conf data = []:=by simp [putB,he]
  rw [hp]
  exact Fin.data [] (.inr rfl) rfl trivial ⟨rfl,rfl⟩
 have he : baseRight i t conf data = true:=by simpa using hf
 obtain ⟨h1,h2,h3,h4,h5,h6⟩:=baseRight_facts he
 obtain ⟨h7,h8,h9⟩:=rightS_facts h5
 have w1:=u64_nat (n:=i) (by omega) (by omega)
 have w2:=u64_nat (n:=t) (by omega) (by omega)
 have w3 : IntKind.u64.wrap ((conf.map nrow).length : Int) = (conf.length : Int):=by rw [w_u64,List.length_map];omega
 have hp : putB i t conf data = putS [i.toNat,t.toNat,conf.length] ++ putS (conf.map Int.toNat) ++ (num7 data.length ++ data):=by simp [putB,he]
 have g1:=putS_len [i.toNat,t.toNat,conf.length] (by simp;omega)
 have g2:=num7_len data.length (by omega)
 simp only [List.length_cons,List.length_nil] at g1
 have g3 : ∀ k,(putS ((conf.map Int.toNat).take k)).length≤70:=fun k=>by
  have:=putS_len ((conf.map Int.toNat).take k) (fun m hm=>by
   obtain ⟨x,hx,rfl⟩:=List.mem_map.1 (List.mem_of_mem_take hm)
   have:=h9 x hx;omega)
  simp at this;omega
 simp only [zX]
 refine aBs 800 (fun Q hQ=>by simp only [zS,w1,w2,w3,simprocAttr];exact hQ) ?_
 refine RG.callo [] [960] (mementoref1_Put_con [i.toNat,t.toNat,conf.length] (by simp) (by simp;omega)) (.mk (tr_cons (tr_view (by simp) rfl (by simp [isDRows,urow,C.isD])) tr_nil) (trivial) (by simp) (by simp) (views1 rfl trivial) (by simp [lkE_cons,lkE_nil]) (by simp only [List.mem_singleton,forall_eq,Ent.pure];exact drows_brow _) (by simp) (by simp)) ?_
 refine aE ?_
 refine aR 1200 ?_
 refine aw_loop (X:={ k : Nat // k≤conf.length }) (fun k=>mkSt [(1,.c (.bp 16 0)),(3,.c (.osl 1000)),(4,I k.1)] [(16,.box (basC i t conf data)),(1000,.arr 5 1 ((putS [i.toNat,t.toNat,conf.length] ++ putS ((conf.map Int.toNat).take k.1)).map brow) false)]) (fun k=>conf.length - k.1) ⟨0,by omega⟩ ?_ ?_
 ·refine Le.lit [] [(1000,976)] _ _ ?_ ?_ ?_ ?_
  ·skip
   simp only [zL,simprocAttr]
  ·skip
   simp only [zL,simprocAttr]
   refine ⟨by simp [putS],drows_brow _⟩
  ·simp [rlook]
  ·simp
 rintro ⟨k,hk⟩
 simp only [zX]
 refine aR 1400 ?_
 refine aw_cond _ rfl trivial (fun ht=>?_) (fun hf=>?_)
 rotate_left
 ·have hk' : k = conf.length:=by simp at hf;omega
  have g4:=g3 k
  have htk : (conf.map Int.toNat).take k = conf.map Int.toNat:=List.take_of_length_le (by simp;omega)
  simp only [zX,↓reduceIte]
  refine aB 1600 ?_
  refine rO [] [] ((mementoref1_Lump_con data (by omega)).rows (drows_brow _)) ?_
  refine RG.go fun Q hQ=>?_
  simp only [zS,simprocAttr]
  refine ⟨⟨brow_len _,by simp only [List.length_map,List.length_append];omega⟩,hQ (RG.nil ?_)⟩
  simp only [zX]
  rw [← List.map_append,htk,← hp]
  exact Fin.data [1664] (.inr rfl) rfl trivial ⟨⟨_,_,rfl⟩,drows_brow _⟩
 have hk' : k < conf.length:=by simp at ht;omega
 have hw1 : IntKind.i64.wrap ((k : Int) + 1) = ((k + 1 : Nat) : Int):=by rw [w64 _ (by omega) (by omega)];rfl
 have hr : (List.map nrow conf)[(k : Int).toNat]?.getD [] = [.v (.int .i64 conf[k])]:=by simp [hk',nrow]
 obtain ⟨h10,h11⟩:=h9 conf[k] (List.getElem_mem hk')
 have hwk:=u64_nat (n:=conf[k]) h10 (by omega)
 have hps : putS ((conf.map Int.toNat).take (k + 1)) = putS ((conf.map Int.toNat).take k) ++ putS [conf[k].toNat]:=by
  rw [putS_take _ _ (by simpa using hk')];simp [putS]
 have g4:=g3 (k + 1)
 rw [hps,List.length_append] at g4
 simp only [zX]
 refine aw_reg 1600 (RG.go fun Q hQ=>?_)
 simp only [zS,hr,hwk,simprocAttr]
 refine ⟨by simp;omega,?_⟩
 refine hQ ?_
 refine RG.callo [] [1712] ((mementoref1_Put_con [conf[k].toNat] (by simp) (by simp;omega)).rows (drows_brow _)) (.mk (tr_cons (tr_view (by simp) rfl (by simp [isDRows,urow,C.isD])) tr_nil) (trivial) (by simp) (by simp) (views1 rfl trivial) (by simp [lkE_cons,lkE_nil]) (by simp) (by simp) (by simp)) ?_
 refine RG.go fun Q hQ=>?_
 simp only [zS,simprocAttr]
 refine ⟨⟨brow_len _,by simp only [List.length_map,List.length_append];omega⟩,hQ (RG.nil ?_)⟩
 simp only [zX]
 refine aS 2200 (fun Q hQ=>by simp only [zS,hw1,simprocAttr];exact hQ) ?_
 refine ⟨⟨k + 1,hk'⟩,?_,by simp;omega⟩
 refine Le.lit [] [(1000,1744)] _ _ ?_ ?_ ?_ ?_
 ·skip
  simp only [zL,simprocAttr]
 ·skip
  simp only [zL,simprocAttr]
  refine ⟨by rw [hps];simp,drows_brow _⟩
 ·simp [rlook]
 ·simp


def numsR (most : Nat) (l : List Nat) (e : Nat) : Nat→List Nat × List Nat × Nat
 | 0=>([],l,e)
 | k + 1=>((numsR most l e k).1 ++ [(numR most (numsR most l e k).2.1 (numsR most l e k).2.2).1],(numR most (numsR most l e k).2.1 (numsR most l e k).2.2).2.1,(numR most (numsR most l e k).2.1 (numsR most l e k).2.2).2.2)

theorem numsR_facts {most : Nat} {l : List Nat} {e : Nat} (hl : ∀ c ∈ l,c < 256) : ∀ k,(numsR most l e k).1.length = k∧(numsR most l e k).2.1.length≤l.length∧(∀ c ∈ (numsR most l e k).2.1,c < 256)∧∀ n ∈ (numsR most l e k).1,n≤most
 | 0=>⟨rfl,Nat.le_refl _,hl,by simp [numsR]⟩
 | k + 1=>by
  obtain ⟨h1,h2,h3,h4⟩:=numsR_facts (most:=most) (e:=e) hl k
  refine ⟨by simp [numsR,h1],Nat.le_trans numR_len h2,numR_mem h3,fun n hn=>?_⟩
  simp only [numsR,List.mem_append,List.mem_singleton] at hn
  rcases hn with hn | rfl
  ·exact h4 n hn
  ·exact numR_le

structure ReadB where
 i : Nat
 t : Nat
 c : List Int
 d : List Nat
 ok : Bool
 l : List Nat
 e : Nat

def readB (most : Nat) (l : List Nat) (e : Nat) : ReadB :=
 let a:=numR 1099511627776 l e
 let b:=numR 1099511627776 a.2.1 a.2.2
 let c:=numR 7 b.2.1 b.2.2
 let n:=numsR most c.2.1 c.2.2 c.1
 let d:=lumpR 32767 n.2.1 n.2.2
 if d.2.2 = 0∧baseRight a.1 b.1 (n.1.map fun (k : Nat)=>(k : Int)) d.1 = true then ⟨a.1,b.1,n.1.map fun (k : Nat)=>(k : Int),d.1,true,d.2.1,d.2.2⟩ else ⟨0,0,[],[],false,d.2.1,d.2.2⟩

theorem entry_ReadBase_con (l : List Nat) (e : Nat) (hl : ∀ c ∈ l,c < 256) (hb : l.length≤140737488355328) : Con Tryz.prog 79 [.c (.bp 0 0)] [Rd l e] (.tup [.agg (basC (readB 9223372036854775807 l e).i (readB 9223372036854775807 l e).t (readB 9223372036854775807 l e).c (readB 9223372036854775807 l e).d),B (readB 9223372036854775807 l e).ok]) [Rd (readB 9223372036854775807 l e).l (readB 9223372036854775807 l e).e]:=by
 generalize hr : readB 9223372036854775807 l e = r
 unfold readB at hr
 have m1:=numR_mem (most:=1099511627776) (e:=e) hl
 have n1:=numR_len (most:=1099511627776) (l:=l) (e:=e)
 have w1:=w_nat (n:=(numR 1099511627776 l e).1) (by have:=numR_le (most:=1099511627776) (l:=l) (e:=e);omega)
 have c1:=pack_Reader_Num_con l e 1099511627776 hl hb
 generalize numR 1099511627776 l e = a at hr m1 n1 w1 c1
 obtain ⟨a,l1,e1⟩:=a
 simp only at hr m1 n1 w1 c1
 have m2:=numR_mem (most:=1099511627776) (e:=e1) m1
 have n2:=numR_len (most:=1099511627776) (l:=l1) (e:=e1)
 have w2:=w_nat (n:=(numR 1099511627776 l1 e1).1) (by have:=numR_le (most:=1099511627776) (l:=l1) (e:=e1);omega)
 have c2:=pack_Reader_Num_con l1 e1 1099511627776 m1 (by omega)
 generalize numR 1099511627776 l1 e1 = b at hr m2 n2 w2 c2
 obtain ⟨b,l2,e2⟩:=b
 simp only at hr m2 n2 w2 c2
 have m3:=numR_mem (most:=7) (e:=e2) m2
 have n3:=numR_len (most:=7) (l:=l2) (e:=e2)
 have k3:=numR_le (most:=7) (l:=l2) (e:=e2)
 have c3:=pack_Reader_Num_con l2 e2 7 m2 (by omega)
 generalize numR 7 l2 e2 = c at hr m3 n3 k3 c3
 obtain ⟨c,l3,e3⟩:=c
 simp only at hr m3 n3 k3 c3
 have hns:=numsR_facts (most:=9223372036854775807) (e:=e3) m3
 refine C_entry_ReadBase nl nl ?_
 simp only [cz,A_entry_ReadBase,argL,objL,List.length_nil,List.length_cons,Nat.zero_add,zX]
 refine aR 16 ?_
 refine aR 160 ?_
 refine aF ?_
 refine aB 320 ?_
 refine rO [0] [] (c1) ?_
 refine aM ?_
 refine rO [0] [] (c2) ?_
 refine RG.go fun Q hQ=>?_
 simp only [zS,simprocAttr]
 simp only [w1,w2]
 refine hQ (RG.nil ?_)
 simp only [zX]
 refine aB 600 ?_
 refine rO [0] [] (c3) ?_
 refine aE ?_
 refine aw_loop (X:={ k : Nat // k≤c }) (fun k=>mkSt [(0,.c (.bp 0 0)),(2,.c (.bp 16 0)),(3,B false),(4,.c (.bp 432 0)),(16,.c (.v (.int .u64 c))),(17,.c (.v (.int .u64 k.1)))]
  [(0,Rd (numsR 9223372036854775807 l3 e3 k.1).2.1 (numsR 9223372036854775807 l3 e3 k.1).2.2),(16,.box [.v (.int .i64 0),.v (.int .i64 0),.v (.slice none 0 0),.v (.slice none 0 0)]),(432,.box [.v (.int .i64 a),.v (.int .i64 b),.osl 1000,.v (.slice none 0 0)]),
   (1000,.arr 3 1 (((numsR 9223372036854775807 l3 e3 k.1).1.map fun (n : Nat)=>(n : Int)).map nrow) false)]) (fun k=>c - k.1) ⟨0,by omega⟩ ?_ ?_
 ·refine (Le.ownB 432 2 1000 _ 3 1 rfl rfl rfl (by decide)).trans (Le.lit [] [] _ _ ?_ ?_ ?_ ?_)
  ·skip
   simp only [zL,simprocAttr]
  ·simp only [List.set_cons_succ,List.set_cons_zero]
   simp only [zL,simprocAttr]
   simp [numsR]
  ·simp [rlook]
  ·simp [rlook]
 rintro ⟨k,hk⟩
 obtain ⟨f1,f2,f3,f4⟩:=hns k
 have hk1 : numsR 9223372036854775807 l3 e3 (k + 1) = ((numsR 9223372036854775807 l3 e3 k).1 ++ [(numR 9223372036854775807 (numsR 9223372036854775807 l3 e3 k).2.1 (numsR 9223372036854775807 l3 e3 k).2.2).1],(numR 9223372036854775807 (numsR 9223372036854775807 l3 e3 k).2.1 (numsR 9223372036854775807 l3 e3 k).2.2).2.1,(numR 9223372036854775807 (numsR 9223372036854775807 l3 e3 k).2.1 (numsR 9223372036854775807 l3 e3 k).2.2).2.2):=rfl
 simp only [zX]
 refine aR 700 ?_
 refine aw_cond _ rfl trivial (fun ht=>?_) (fun hf=>?_)
 ·have hk' : k < c:=by simp at ht;omega
  have cn:=pack_Reader_Num_con (numsR 9223372036854775807 l3 e3 k).2.1 (numsR 9223372036854775807 l3 e3 k).2.2 9223372036854775807 f3 (by omega)
  have wn:=w_nat (n:=(numR 9223372036854775807 (numsR 9223372036854775807 l3 e3 k).2.1 (numsR 9223372036854775807 l3 e3 k).2.2).1) (by have:=numR_le (most:=9223372036854775807) (l:=(numsR 9223372036854775807 l3 e3 k).2.1) (e:=(numsR 9223372036854775807 l3 e3 k).2.2);omega)
  have hw1 : IntKind.u64.wrap ((k : Int) + 1) = ((k + 1 : Nat) : Int):=by rw [w_u64];omega
  generalize numsR 9223372036854775807 l3 e3 k = q at *
  obtain ⟨qs,lq,eq⟩:=q
  simp only at f1 f2 f3 f4 hk1 cn wn
  generalize numR 9223372036854775807 lq eq = z at *
  obtain ⟨z,lz,ez⟩:=z
  simp only at hk1 cn wn
  simp only [zX]
  refine aBD 800 ?_
  refine rO [0] [] (cn) ?_
  refine RG.go fun Q hQ=>?_
  simp only [zS,simprocAttr]
  simp only [wn]
  refine ⟨⟨by simp,by simp;omega⟩,hQ (RG.nil ⟨by decide,?_⟩)⟩
  simp only [zX]
  refine aS 1200 (fun Q hQ=>by simp only [zS,hw1,simprocAttr];exact hQ) ?_
  refine ⟨⟨k + 1,hk'⟩,?_,by simp;omega⟩
  refine Le.lit [] [(1000,896)] _ _ ?_ ?_ ?_ ?_
  ·skip
   simp only [zL,simprocAttr]
  ·skip
   simp only [zL,simprocAttr]
   rw [hk1]
   refine ⟨⟨rfl,rfl⟩,by simp [nrow],drows_nrow _⟩
  ·simp [rlook]
  ·simp [rlook]
 have hkc : k = c:=by simp at hf;omega
 subst hkc
 have c4:=pack_Reader_Lump_con (numsR 9223372036854775807 l3 e3 k).2.1 (numsR 9223372036854775807 l3 e3 k).2.2 32767 f3 (by omega) (by omega)
 generalize numsR 9223372036854775807 l3 e3 k = q at *
 obtain ⟨qs,lq,eq⟩:=q
 simp only at f1 f2 f3 f4 hr c4
 generalize lumpR 32767 lq eq = d at *
 obtain ⟨d,l4,e4⟩:=d
 simp only at hr c4
 have hd:=drows_nrow (qs.map fun (n : Nat)=>(n : Int))
 have hlc : (qs.map fun (n : Nat)=>(n : Int)).length≤12:=by simp;omega
 generalize (qs.map fun (n : Nat)=>(n : Int)) = cs at *
 simp only [zX,↓reduceIte]
 refine aB 1400 ?_
 refine rO [0] [] (c4) ?_
 refine aE ?_
 refine aB 1600 ?_
 refine rO [0] [] (pack_rest_Err_con (l4.map brow) e4) ?_
 refine aM ?_
 refine RG.callg _ _ [1000] rfl (fun hg=>⟨_,entry_BaseRight_con a b cs d hlc,tr_cons (tr_opt (by simpa using hg) (by simp only [zT,simprocAttr];exact ⟨_,_,_,⟨rfl,rfl,rfl⟩,hd⟩)) tr_nil,views1 rfl trivial,.inl trivial⟩) ?_
 refine RG.go fun Q hQ=>?_
 simp only [zS,simprocAttr]
 refine ⟨fun h=>by rw [h];rfl,hQ (RG.nil ?_)⟩
 simp only [zX]
 refine aw_cond _ rfl trivial (fun ht=>?_) (fun hf=>?_)
 ·have hn : ¬ (e4 = 0∧baseRight a b cs d = true):=by
   rintro ⟨h1,h2⟩;rw [h2] at ht;simp at ht;omega
  rw [if_neg hn] at hr
  subst hr
  simp only [zX]
  refine aR 1800 ?_
  refine Fin.objs [] [] (.inr rfl) rfl (by exact ⟨trivial,trivial⟩) ?_ ?_ (by simp [objL,rlook]) (by (simp [objL,rlook];done))
  ·simp only [zL,simprocAttr]
   all_goals (simp [basC,TrL,WkC,WkC0])
  ·simp only [zL,↓reduceIte]
 have hn : e4 = 0∧baseRight a b cs d = true:=by simp at hf;exact ⟨by omega,hf.2⟩
 rw [if_pos hn] at hr
 subst hr
 simp only [zX]
 refine aR 1800 ?_
 refine Fin.objs [1000] [] (.inr rfl) rfl (by exact ⟨trivial,trivial⟩) ?_ ?_ (by simp [objL,rlook]) (by (simp [objL,rlook];done))
 ·simp only [zL,simprocAttr]
  all_goals (simp [basC,TrL,WkC,WkC0];exact ⟨⟨_,_,rfl⟩,hd⟩)
 ·simp only [zL,simprocAttr]

theorem mementoref6_ReadBase_con (l : List Nat) (e : Nat) (hl : ∀ c ∈ l,c < 256) (hb : l.length≤140737488355328) : Con Tryz.prog 55 [.c (.bp 0 0)] [Rd l e] (.tup [.agg (basC (readB 7 l e).i (readB 7 l e).t (readB 7 l e).c (readB 7 l e).d),B (readB 7 l e).ok]) [Rd (readB 7 l e).l (readB 7 l e).e]:=by
 generalize hr : readB 7 l e = r
 unfold readB at hr
 have m1:=numR_mem (most:=1099511627776) (e:=e) hl
 have n1:=numR_len (most:=1099511627776) (l:=l) (e:=e)
 have w1:=w_nat (n:=(numR 1099511627776 l e).1) (by have:=numR_le (most:=1099511627776) (l:=l) (e:=e);omega)
 have c1:=mementoref1_Reader_Num_con l e 1099511627776 hl hb
 generalize numR 1099511627776 l e = a at hr m1 n1 w1 c1
 obtain ⟨a,l1,e1⟩:=a
 simp only at hr m1 n1 w1 c1
 have m2:=numR_mem (most:=1099511627776) (e:=e1) m1
 have n2:=numR_len (most:=1099511627776) (l:=l1) (e:=e1)
 have w2:=w_nat (n:=(numR 1099511627776 l1 e1).1) (by have:=numR_le (most:=1099511627776) (l:=l1) (e:=e1);omega)
 have c2:=mementoref1_Reader_Num_con l1 e1 1099511627776 m1 (by omega)
 generalize numR 1099511627776 l1 e1 = b at hr m2 n2 w2 c2
 obtain ⟨b,l2,e2⟩:=b
 simp only at hr m2 n2 w2 c2
 have m3:=numR_mem (most:=7) (e:=e2) m2
 have n3:=numR_len (most:=7) (l:=l2) (e:=e2)
 have k3:=numR_le (most:=7) (l:=l2) (e:=e2)
 have c3:=mementoref1_Reader_Num_con l2 e2 7 m2 (by omega)
 generalize numR 7 l2 e2 = c at hr m3 n3 k3 c3
 obtain ⟨c,l3,e3⟩:=c
 simp only at hr m3 n3 k3 c3
 have hns:=numsR_facts (most:=7) (e:=e3) m3
 have w3:=w_nat (n:=c) (by omega)
 refine C_mementoref6_ReadBase nl nl ?_
 simp only [cz,A_mementoref6_ReadBase,argL,objL,List.length_nil,List.length_cons,Nat.zero_add,zX]
 refine aR 16 ?_
 refine aR 160 ?_
 refine aB 320 ?_
 refine rO [0] [] (c1) ?_
 refine RG.go fun Q hQ=>?_
 simp only [zS,simprocAttr]
 simp only [w1]
 refine hQ (RG.nil ?_)
 simp only [zX]
 refine aB 480 ?_
 refine rO [0] [] (c2) ?_
 refine RG.go fun Q hQ=>?_
 simp only [zS,simprocAttr]
 simp only [w2]
 refine hQ (RG.nil ?_)
 simp only [zX]
 refine aB 600 ?_
 refine rO [0] [] (c3) ?_
 refine RG.go fun Q hQ=>?_
 simp only [zS,simprocAttr]
 simp only [w3]
 refine hQ (RG.nil ?_)
 simp only [zX]
 refine aR 660 ?_
 refine aw_loop (X:={ k : Nat // k≤c }) (fun k=>mkSt [(0,.c (.bp 0 0)),(2,.c (.bp 16 0)),(3,B false),(4,.c (.bp 160 0)),(5,I c),(6,I k.1)]
  [(0,Rd (numsR 7 l3 e3 k.1).2.1 (numsR 7 l3 e3 k.1).2.2),(16,.box [.v (.int .i64 0),.v (.int .i64 0),.v (.slice none 0 0),.v (.slice none 0 0)]),(160,.box [.v (.int .i64 a),.v (.int .i64 b),.osl 1000,.v (.slice none 0 0)]),
   (1000,.arr 3 1 (((numsR 7 l3 e3 k.1).1.map fun (n : Nat)=>(n : Int)).map nrow) false)]) (fun k=>c - k.1) ⟨0,by omega⟩ ?_ ?_
 ·refine (Le.ownB 160 2 1000 _ 3 1 rfl rfl rfl (by decide)).trans (Le.lit [] [] _ _ ?_ ?_ ?_ ?_)
  ·skip
   simp only [zL,simprocAttr]
  ·simp only [List.set_cons_succ,List.set_cons_zero]
   simp only [zL,simprocAttr]
   simp [numsR]
  ·simp [rlook]
  ·simp [rlook]
 rintro ⟨k,hk⟩
 obtain ⟨f1,f2,f3,f4⟩:=hns k
 have hk1 : numsR 7 l3 e3 (k + 1) = ((numsR 7 l3 e3 k).1 ++ [(numR 7 (numsR 7 l3 e3 k).2.1 (numsR 7 l3 e3 k).2.2).1],(numR 7 (numsR 7 l3 e3 k).2.1 (numsR 7 l3 e3 k).2.2).2.1,(numR 7 (numsR 7 l3 e3 k).2.1 (numsR 7 l3 e3 k).2.2).2.2):=rfl
 simp only [zX]
 refine aR 700 ?_
 refine aw_cond _ rfl trivial (fun ht=>?_) (fun hf=>?_)
 ·have hk' : k < c:=by simp at ht;omega
  have cn:=mementoref1_Reader_Num_con (numsR 7 l3 e3 k).2.1 (numsR 7 l3 e3 k).2.2 7 f3 (by omega)
  have wn:=w_nat (n:=(numR 7 (numsR 7 l3 e3 k).2.1 (numsR 7 l3 e3 k).2.2).1) (by have:=numR_le (most:=7) (l:=(numsR 7 l3 e3 k).2.1) (e:=(numsR 7 l3 e3 k).2.2);omega)
  have hw1 : IntKind.i64.wrap ((k : Int) + 1) = ((k + 1 : Nat) : Int):=by rw [w64 _ (by omega) (by omega)];rfl
  generalize numsR 7 l3 e3 k = q at *
  obtain ⟨qs,lq,eq⟩:=q
  simp only at f1 f2 f3 f4 hk1 cn wn
  generalize numR 7 lq eq = z at *
  obtain ⟨z,lz,ez⟩:=z
  simp only at hk1 cn wn
  simp only [zX]
  refine aBD 800 ?_
  refine rO [0] [] (cn) ?_
  refine RG.go fun Q hQ=>?_
  simp only [zS,simprocAttr]
  simp only [wn]
  refine ⟨⟨by simp,by simp;omega⟩,hQ (RG.nil ⟨by decide,?_⟩)⟩
  simp only [zX]
  refine aS 1200 (fun Q hQ=>by simp only [zS,hw1,simprocAttr];exact hQ) ?_
  refine ⟨⟨k + 1,hk'⟩,?_,by simp;omega⟩
  refine Le.lit [] [(1000,896)] _ _ ?_ ?_ ?_ ?_
  ·skip
   simp only [zL,simprocAttr]
  ·skip
   simp only [zL,simprocAttr]
   rw [hk1]
   refine ⟨⟨rfl,rfl⟩,by simp [nrow],drows_nrow _⟩
  ·simp [rlook]
  ·simp [rlook]
 have hkc : k = c:=by simp at hf;omega
 subst hkc
 have c4:=mementoref1_Reader_Lump_con (numsR 7 l3 e3 k).2.1 (numsR 7 l3 e3 k).2.2 32767 f3 (by omega) (by omega)
 generalize numsR 7 l3 e3 k = q at *
 obtain ⟨qs,lq,eq⟩:=q
 simp only at f1 f2 f3 f4 hr c4
 generalize lumpR 32767 lq eq = d at *
 obtain ⟨d,l4,e4⟩:=d
 simp only at hr c4
 have hd:=drows_nrow (qs.map fun (n : Nat)=>(n : Int))
 have hlc : (qs.map fun (n : Nat)=>(n : Int)).length≤12:=by simp;omega
 generalize (qs.map fun (n : Nat)=>(n : Int)) = cs at *
 simp only [zX,↓reduceIte]
 refine aB 1400 ?_
 refine rO [0] [] (c4) ?_
 refine aE ?_
 refine aB 1600 ?_
 refine RG.callg _ _ [1000] rfl (fun hg=>⟨_,mementoref6_BaseRight_con a b cs d (by omega),tr_cons (tr_opt (by simpa using hg) (by simp only [zT,simprocAttr];exact ⟨_,_,_,⟨rfl,rfl,rfl⟩,hd⟩)) tr_nil,views1 rfl trivial,.inl trivial⟩) ?_
 refine RG.go fun Q hQ=>?_
 simp only [zS,simprocAttr]
 refine ⟨fun h=>by rw [h];rfl,hQ (RG.nil ?_)⟩
 simp only [zX]
 refine aw_cond _ rfl trivial (fun ht=>?_) (fun hf=>?_)
 ·have hn : ¬ (e4 = 0∧baseRight a b cs d = true):=by
   rintro ⟨h1,h2⟩;rw [h2] at ht;simp at ht;omega
  rw [if_neg hn] at hr
  subst hr
  simp only [zX]
  refine aR 1800 ?_
  refine Fin.objs [] [] (.inr rfl) rfl (by exact ⟨trivial,trivial⟩) ?_ ?_ (by simp [objL,rlook]) (by (simp [objL,rlook];done))
  ·simp only [zL,simprocAttr]
   all_goals (simp [basC,TrL,WkC,WkC0])
  ·simp only [zL,↓reduceIte]
 have hn : e4 = 0∧baseRight a b cs d = true:=by simp at hf;exact ⟨by omega,hf.2⟩
 rw [if_pos hn] at hr
 subst hr
 simp only [zX]
 refine aR 1800 ?_
 refine Fin.objs [1000] [] (.inr rfl) rfl (by exact ⟨trivial,trivial⟩) ?_ ?_ (by simp [objL,rlook]) (by (simp [objL,rlook];done))
 ·simp only [zL,simprocAttr]
  all_goals (simp [basC,TrL,WkC,WkC0];exact ⟨⟨_,_,rfl⟩,hd⟩)
 ·simp only [zL,simprocAttr]


theorem rdN_num7 (r : List Nat) : ∀ (n i acc : Nat),n * 128 ^ i < 18446744073709551616→(i = 0∨0 < n)→rdN i acc (num7 n ++ r) = (acc + n * 128 ^ i,i + (num7 n).length,0):=by
 intro n
 induction n using Nat.strongRecOn with
 | ind n ih =>
  intro i acc hb hi
  have h9 : i = 9→n < 2:=by
   intro h
   subst h
   rcases Nat.lt_or_ge n 2 with h | h
   ·exact h
   ·have:=Nat.mul_le_mul_right (128 ^ 9) h
    omega
  by_cases hn : n < 128
  ·have e : num7 n = [n]:=by rw [num7,if_pos hn]
   rw [e,List.singleton_append,rdN,if_neg (by omega),if_neg (by omega),if_neg (by omega),Nat.mod_eq_of_lt hn]
   rfl
  ·have e : num7 n = (n % 128 + 128) :: num7 (n / 128):=by rw [num7,if_neg hn]
   rw [e,List.cons_append,rdN,if_neg (by omega),if_pos (by omega)]
   have hmul : n * 128 ^ i = n % 128 * 128 ^ i + n / 128 * 128 ^ (i + 1):=by
    have h1 : n / 128 * 128 ^ (i + 1) = 128 * (n / 128) * 128 ^ i:=by rw [Nat.pow_succ,Nat.mul_comm (128 ^ i) 128,← Nat.mul_assoc,Nat.mul_comm (n / 128) 128]
    rw [h1,← Nat.add_mul]
    congr 1
    omega
   rw [ih (n / 128) (by omega) (i + 1) _ (by omega) (.inr (by omega))]
   simp only [Nat.add_mod_right,Nat.mod_mod,List.length_cons,Prod.mk.injEq,and_true]
   constructor
   ·omega
   ·omega

theorem numR_num7 {most n : Nat} (r : List Nat) (h : n≤most) (hb : n < 18446744073709551616) : numR most (num7 n ++ r) 0 = (n,r,0):=by
 have hr:=rdN_num7 r n 0 0 (by simpa using hb) (.inl rfl)
 unfold numR
 rw [hr]
 simp [Nat.not_lt.2 h]

theorem lumpR_lump {most : Nat} (d r : List Nat) (h : d.length≤most) (hb : d.length < 18446744073709551616) : lumpR most (num7 d.length ++ d ++ r) 0 = (d,r,0):=by
 unfold lumpR
 rw [List.append_assoc,numR_num7 _ h hb]
 simp

theorem putS_cons (n : Nat) (l : List Nat) : putS (n :: l) = num7 n ++ putS l:=rfl

theorem readE_putE {i t k : Int} {d more : List Nat} (h : entryRight i t k d = true) : readE (putE i t k d ++ more) 0 = ⟨i.toNat,t.toNat,k.toNat,d,true,more,0⟩:=by
 obtain ⟨h1,h2,h3,h4,h5,h6,h7⟩:=entryRight_facts h
 have e : putE i t k d ++ more = num7 i.toNat ++ (num7 t.toNat ++ (num7 k.toNat ++ (num7 d.length ++ d ++ more))):=by
  rw [putE,if_pos h];simp [putS]
 unfold readE
 rw [e]
 simp only [numR_num7 (most:=1099511627776) (n:=i.toNat) _ (by omega) (by omega),numR_num7 (most:=1099511627776) (n:=t.toNat) _ (by omega) (by omega),numR_num7 (most:=2) (n:=k.toNat) _ (by omega) (by omega),
  lumpR_lump (most:=32767) d more (by omega) (by omega)]
 rw [Int.toNat_of_nonneg (by omega),Int.toNat_of_nonneg h3,Int.toNat_of_nonneg h5]
 simp [h]

theorem numsR_put {most : Nat} (r : List Nat) : ∀ (ns : List Nat),(∀ n ∈ ns,n≤most∧n < 18446744073709551616)→∀ k,k≤ns.length→numsR most (putS ns ++ r) 0 k = (ns.take k,putS (ns.drop k) ++ r,0):=by
 intro ns hns k
 induction k with
 | zero=>intro _;simp [numsR]
 | succ k ih =>
  intro hk
  have h:=ih (by omega)
  have hk' : k < ns.length:=by omega
  obtain ⟨h1,h2⟩:=hns ns[k] (List.getElem_mem hk')
  have e : putS (ns.drop k) ++ r = num7 ns[k] ++ (putS (ns.drop (k + 1)) ++ r):=by
   rw [List.drop_eq_getElem_cons hk',putS_cons,List.append_assoc]
  simp only [numsR,h]
  rw [e,numR_num7 _ h1 h2,take_one ns k hk']

theorem readB_putB {most : Nat} {i t : Int} {c : List Int} {d more : List Nat} (hm : 7≤most) (h : baseRight i t c d = true) : readB most (putB i t c d ++ more) 0 = ⟨i.toNat,t.toNat,c,d,true,more,0⟩:=by
 obtain ⟨h1,h2,h3,h4,h5,h6⟩:=baseRight_facts h
 obtain ⟨h7,h8,h9⟩:=rightS_facts h5
 have e : putB i t c d ++ more = num7 i.toNat ++ (num7 t.toNat ++ (num7 c.length ++ (putS (c.map Int.toNat) ++ (num7 d.length ++ d ++ more)))):=by
  rw [putB,if_pos h];simp [putS]
 have hns:=numsR_put (most:=most) (num7 d.length ++ d ++ more) (c.map Int.toNat) (fun n hn=>by
  obtain ⟨x,hx,rfl⟩:=List.mem_map.1 hn
  have:=h9 x hx;omega) c.length (by simp)
 have e1 : (c.map Int.toNat).take c.length = c.map Int.toNat:=List.take_of_length_le (by simp)
 have e2 : (c.map Int.toNat).drop c.length = []:=List.drop_eq_nil_of_le (by simp)
 rw [e1,e2] at hns
 have e3 : (c.map Int.toNat).map (fun (k : Nat)=>(k : Int)) = c:=by
  rw [List.map_map]
  refine (List.map_congr_left fun x hx=>?_).trans (List.map_id c)
  have:=(h9 x hx).1
  simp;omega
 unfold readB
 rw [e]
 simp only [numR_num7 (most:=1099511627776) (n:=i.toNat) _ (by omega) (by omega),numR_num7 (most:=1099511627776) (n:=t.toNat) _ (by omega) (by omega),numR_num7 (most:=7) (n:=c.length) _ (by omega) (by omega)]
 rw [hns]
 simp only [putS,List.flatMap_nil,List.nil_append]
 simp only [lumpR_lump (most:=32767) d more (by omega) (by omega),e3]
 rw [Int.toNat_of_nonneg h1,Int.toNat_of_nonneg h3]
 simp [h]

theorem num7_mem (n : Nat) : ∀ c ∈ num7 n,c < 256:=by
 induction n using Nat.strongRecOn with
 | ind n ih =>
  intro c hc
  rw [num7] at hc
  split at hc
  ·simp at hc;omega
  ·rcases List.mem_cons.1 hc with h | h
   ·omega
   ·exact ih (n / 128) (by omega) c h

theorem putS_mem (l : List Nat) : ∀ c ∈ putS l,c < 256:=by
 intro c hc
 obtain ⟨n,_,h⟩:=List.mem_flatMap.1 hc
 exact num7_mem n c h

theorem putE_mem {i t k : Int} {d : List Nat} (hd : ∀ c ∈ d,c < 256) : ∀ c ∈ putE i t k d,c < 256:=by
 intro c hc
 unfold putE at hc
 split at hc
 ·rcases List.mem_append.1 hc with h | h
  ·exact putS_mem _ c h
  ·rcases List.mem_append.1 h with h | h
   ·exact num7_mem _ c h
   ·exact hd c h
 ·simp at hc

theorem putE_len {i t k : Int} {d : List Nat} : (putE i t k d).length≤40000:=by
 unfold putE
 split
 ·rename_i h
  obtain ⟨h1,h2,h3,h4,h5,h6,h7⟩:=entryRight_facts h
  have g1:=putS_len [i.toNat,t.toNat,k.toNat] (by simp;omega)
  have g2:=num7_len d.length (by omega)
  simp only [List.length_cons,List.length_nil] at g1
  simp only [List.length_append];omega
 ·simp

theorem putB_mem {i t : Int} {c : List Int} {d : List Nat} (hd : ∀ c ∈ d,c < 256) : ∀ x ∈ putB i t c d,x < 256:=by
 intro x hc
 unfold putB at hc
 split at hc
 ·rcases List.mem_append.1 hc with h | h
  ·rcases List.mem_append.1 h with h | h
   ·exact putS_mem _ x h
   ·exact putS_mem _ x h
  ·rcases List.mem_append.1 h with h | h
   ·exact num7_mem _ x h
   ·exact hd x h
 ·simp at hc

theorem putB_len {i t : Int} {c : List Int} {d : List Nat} : (putB i t c d).length≤40000:=by
 unfold putB
 split
 ·rename_i h
  obtain ⟨h1,h2,h3,h4,h5,h6⟩:=baseRight_facts h
  obtain ⟨h7,h8,h9⟩:=rightS_facts h5
  have g1:=putS_len [i.toNat,t.toNat,c.length] (by simp;omega)
  have g2:=num7_len d.length (by omega)
  have g3:=putS_len (c.map Int.toNat) (fun n hn=>by
   obtain ⟨x,hx,rfl⟩:=List.mem_map.1 hn
   have:=h9 x hx;omega)
  simp only [List.length_cons,List.length_nil] at g1
  simp only [List.length_map] at g3
  simp only [List.length_append];omega
 ·simp

structure EN where
 i : Int
 t : Int
 k : Int
 d : List Nat

def erow (e : EN) : List C:=entC e.i e.t e.k e.d

def entAt (frm : Int) (n c : Nat) (t : Int) : EN :=
 if 230 < c then ⟨frm + n,t,2,[c % 5,c / 5 % 2]⟩ else if c / 5 % 2 = 1 then ⟨frm + n,t,1,[c,n % 256]⟩ else ⟨frm + n,t,0,[]⟩

def termT (l : List Nat) (k : Nat) : Nat:=1 + ((l.take k).map fun c=>c % 5 / 4).sum

def entsN (frm : Int) (l : List Nat) (n : Nat) : List EN:=(List.range n).map fun i=>entAt frm i (l.getD i 0) (termT l (i + 1))

theorem entsN_succ (frm : Int) (l : List Nat) (n : Nat) : entsN frm l (n + 1) = entsN frm l n ++ [entAt frm n (l.getD n 0) (termT l (n + 1))]:=by
 unfold entsN
 rw [List.range_succ,List.map_append];rfl

theorem termT_succ (l : List Nat) (k : Nat) (hk : k < l.length) : termT l (k + 1) = termT l k + l[k] % 5 / 4:=by
 unfold termT
 rw [take_one l k hk,List.map_append,List.sum_append]
 simp;omega

theorem termT_le (l : List Nat) : ∀ k,termT l k≤1 + k
 | 0=>by simp [termT]
 | k + 1=>by
  rcases Nat.lt_or_ge k l.length with h | h
  ·rw [termT_succ l k h];have:=termT_le l k;omega
  ·have : termT l (k + 1) = termT l k:=by unfold termT;rw [List.take_of_length_le (by omega),List.take_of_length_le h]
   rw [this];have:=termT_le l k;omega

theorem erow_data (es : List EN) : isDRows (es.map erow):=by
 intro r hr c hc
 obtain ⟨e,_,rfl⟩:=List.mem_map.1 hr
 simp [erow,entC] at hc
 rcases hc with rfl | rfl | rfl | rfl <;> rfl

theorem entsN_len (frm : Int) (l : List Nat) (n : Nat) : (entsN frm l n).length = n:=by simp [entsN]

theorem Entries_con (frm : Int) (l : List Nat) (h0 : 0≤frm) (h1 : frm≤1000000) (hb : l.length≤1000) (hl : ∀ c ∈ l,c < 256) : Con Tryz.prog 59 [I frm,.c (.sl (l.map brow))] [] (.c (.osl 0)) [.arr 58 4 ((entsN frm l l.length).map erow) false]:=by
 refine C_mementoseat_Entries nl nl ?_
 simp only [cz,A_mementoseat_Entries,argL,objL,List.length_nil,Nat.zero_add,zX]
 refine aS 16 (fun Q hQ=>by simp only [zS,reduceCtorEq,Nat.reduceAdd,Nat.reduceEqDiff,↓reduceIte];exact hQ) ?_
 refine aS 160 (fun Q hQ=>by simp only [zS,reduceCtorEq,Nat.reduceAdd,Nat.reduceEqDiff,↓reduceIte];exact hQ) ?_
 refine aS 320 (fun Q hQ=>by simp only [zS,reduceCtorEq,Nat.reduceAdd,Nat.reduceEqDiff,↓reduceIte];exact hQ) ?_
 refine aS 480 (fun Q hQ=>by simp only [zS,reduceCtorEq,Nat.reduceAdd,Nat.reduceEqDiff,↓reduceIte];exact hQ) ?_
 refine aw_loop (X:={ i : Nat // i≤l.length }) (fun i=>mkSt [(0,I frm),(1,.c (.sl (l.map brow))),(5,.c (.osl 1000)),(6,I (termT l i.1 : Nat)),(7,I i.1)] [(1000,.arr 58 4 ((entsN frm l i.1).map erow) false)]) (fun i=>l.length - i.1) ⟨0,by omega⟩ ?_ ?_
 ·refine (Le.own 5 1000 58 4 rfl rfl (by decide)).trans (Le.lit [] [] _ _ ?_ ?_ ?_ ?_)
  ·skip
   simp only [zL,Nat.reduceEqDiff,↓reduceIte,reduceCtorEq]
   simp [termT]
  ·skip
   simp only [zL,↓reduceIte,reduceCtorEq]
   simp [entsN]
  ·simp
  ·simp
 rintro ⟨i,hi⟩
 have hel:=entsN_len frm l i
 simp only [zX]
 refine aS 640 (fun Q hQ=>by simp only [zS,reduceCtorEq,Nat.reduceAdd,Nat.reduceEqDiff,↓reduceIte];exact hQ) ?_
 refine aw_cond _ rfl trivial (fun ht=>?_) (fun hf=>?_)
 rotate_left
 ·have hi' : i = l.length:=by simp at hf;omega
  subst hi'
  simp only [zX,↓reduceIte]
  refine aS 800 (fun Q hQ=>by simp only [zS,reduceCtorEq,Nat.reduceAdd,Nat.reduceEqDiff,↓reduceIte];exact hQ) ?_
  refine Fin.objs [] [(0,1000)] (.inr rfl) rfl (by exact trivial) ?_ ?_ (by simp [objL,rlook]) (by (simp [objL,rlook];done))
  ·simp only [zL,Nat.reduceEqDiff,↓reduceIte,reduceCtorEq]
  ·simp only [zL,↓reduceIte,reduceCtorEq]
   all_goals (exact erow_data _)
 have hi' : i < l.length:=by simp at ht;omega
 have hr : (List.map brow l)[(i : Int).toNat]?.getD [] = [.v (.int .u8 l[i])]:=by simp [hi',brow]
 have hc:=hl _ (List.getElem_mem hi')
 have htl:=termT_le l i
 have hts:=termT_succ l i hi'
 have hes:=entsN_succ frm l i
 rw [show l.getD i 0 = l[i] by simp [List.getD,hi']] at hes
 have hw1 : IntKind.i64.wrap ((i : Int) + 1) = ((i + 1 : Nat) : Int):=by rw [w64 _ (by omega) (by omega)];rfl
 generalize hcc : l[i] = c at *
 have q1 : (c : Int).tmod 5 = ((c % 5 : Nat) : Int):=by rw [Int.tmod_eq_emod_of_nonneg (by omega)];omega
 have q2 : IntKind.u8.wrap (((c % 5 : Nat) : Int).tdiv 4) = ((c % 5 / 4 : Nat) : Int):=by rw [Int.tdiv_eq_ediv_of_nonneg (by omega),w_u8];omega
 have q3 : IntKind.i64.wrap ((c % 5 / 4 : Nat) : Int) = ((c % 5 / 4 : Nat) : Int):=w64 _ (by omega) (by omega)
 have q4 : IntKind.i64.wrap (((termT l i : Nat) : Int) + ((c % 5 / 4 : Nat) : Int)) = ((termT l (i + 1) : Nat) : Int):=by rw [hts,w64 _ (by omega) (by omega)];omega
 have q5 : IntKind.i64.wrap (frm + (i : Int)) = frm + i:=w64 _ (by omega) (by omega)
 have q6 : IntKind.u8.wrap ((c : Int).tdiv 5) = ((c / 5 : Nat) : Int):=by rw [Int.tdiv_eq_ediv_of_nonneg (by omega),w_u8];omega
 have q7 : IntKind.i64.wrap ((c / 5 : Nat) : Int) = ((c / 5 : Nat) : Int):=w64 _ (by omega) (by omega)
 have q8 : ((c / 5 : Nat) : Int).tmod 2 = ((c / 5 % 2 : Nat) : Int):=by rw [Int.tmod_eq_emod_of_nonneg (by omega)];omega
 have q9 : IntKind.u8.wrap (i : Int) = ((i % 256 : Nat) : Int):=by rw [w_u8];omega
 simp only [zX]
 refine aw_reg 1000 (RG.go fun Q hQ=>?_)
 simp only [zS,reduceCtorEq,Nat.reduceAdd,Nat.reduceEqDiff,Nat.reduceLT,↓reduceIte,hr,q1,q2,q3,q4]
 refine ⟨⟨by omega,by simp;omega⟩,by decide,by decide,hQ (RG.nil ?_)⟩
 simp only [zX]
 refine aw_reg 1300 (RG.go fun Q hQ=>?_)
 simp only [zS,reduceCtorEq,Nat.reduceAdd,Nat.reduceEqDiff,Nat.reduceLeDiff,Nat.reduceLT,↓reduceIte,hr,q5,q6,q7,q8]
 refine ⟨⟨by omega,by simp;omega⟩,by decide,by decide,hQ (RG.nil ?_)⟩
 simp only [zX]
 refine aS 1700 (fun Q hQ=>by simp only [zS,reduceCtorEq,Nat.reduceAdd,Nat.reduceEqDiff,↓reduceIte];exact hQ) ?_
 refine aw_cond _ rfl trivial (fun ht1=>?_) (fun hf1=>?_)
 ·have hk : c / 5 % 2 = 1:=by simp at ht1;omega
  refine aw_reg 1900 (RG.go fun Q hQ=>?_)
  simp only [zS,reduceCtorEq,Nat.reduceAdd,Nat.reduceEqDiff,Nat.reduceLT,↓reduceIte,hr,q9]
  refine ⟨⟨by omega,by simp;omega⟩,hQ (RG.nil ?_)⟩
  simp only [zX]
  refine aw_reg 2100 (RG.go fun Q hQ=>?_)
  simp only [zS,reduceCtorEq,Nat.reduceAdd,Nat.reduceEqDiff,Nat.reduceLT,↓reduceIte,hr]
  refine ⟨⟨by omega,by simp;omega⟩,hQ (RG.nil ?_)⟩
  simp only [zX]
  refine aw_cond _ rfl trivial (fun ht2=>?_) (fun hf2=>?_)
  ·have hg : 230 < c:=by simp at ht2;omega
   have hea : entAt frm i c (termT l (i + 1)) = ⟨frm + i,(termT l (i + 1) : Nat),2,[c % 5,c / 5 % 2]⟩:=by unfold entAt;rw [if_pos hg]
   refine aw_draw 2300 (RG.go fun Q hQ=>?_)
   simp only [zS,reduceCtorEq,Nat.reduceAdd,Nat.reduceEqDiff,Nat.reduceLeDiff,Nat.reduceLT,↓reduceIte,hr,q1,q6,q8]
   refine ⟨⟨by omega,by simp;omega⟩,by decide,⟨by omega,by simp;omega⟩,by decide,by decide,?_⟩
   refine hQ (RG.nil ⟨by decide,?_⟩)
   simp only [zX]
   refine aw_reg 3000 (RG.go fun Q hQ=>?_)
   simp only [zS,reduceCtorEq,Nat.reduceAdd,Nat.reduceEqDiff,↓reduceIte]
   refine ⟨⟨by simp,by simp;omega⟩,hQ (RG.nil ?_)⟩
   simp only [zX]
   refine aS 3200 (fun Q hQ=>by simp only [zS,reduceCtorEq,Nat.reduceAdd,Nat.reduceEqDiff,↓reduceIte,hw1];exact hQ) ?_
   refine ⟨⟨i + 1,hi'⟩,?_,by simp;omega⟩
   refine (Le.tell [2476] 3048 58 4 _ ((entsN frm l (i + 1)).map erow) false rfl (by rw [hes,List.map_append,hea];refine tell_app ?_ _;exact ⟨⟨.inl rfl,.inl rfl,.inl rfl,.inr (.inr ⟨_,_,_,_,rfl,rfl,rfl,drows_brow [c % 5,c / 5 % 2]⟩),trivial⟩,trivial⟩)).trans (Le.lit [] [(1000,3048)] _ _ ?_ ?_ ?_ ?_)
   ·skip
    simp only [zL,Nat.reduceEqDiff,↓reduceIte,reduceCtorEq]
   ·skip
    simp only [zL,Nat.reduceEqDiff,↓reduceIte,reduceCtorEq]
    exact erow_data _
   ·simp
   ·simp
  have hg : ¬ 230 < c:=by simp at hf2;omega
  have hea : entAt frm i c (termT l (i + 1)) = ⟨frm + i,(termT l (i + 1) : Nat),1,[c,i % 256]⟩:=by unfold entAt;rw [if_neg hg,if_pos hk]
  simp only [zX]
  refine aw_reg 3000 (RG.go fun Q hQ=>?_)
  simp only [zS,reduceCtorEq,Nat.reduceAdd,Nat.reduceEqDiff,↓reduceIte]
  refine ⟨⟨by simp,by simp;omega⟩,hQ (RG.nil ?_)⟩
  simp only [zX]
  refine aS 3200 (fun Q hQ=>by simp only [zS,reduceCtorEq,Nat.reduceAdd,Nat.reduceEqDiff,↓reduceIte,hw1];exact hQ) ?_
  refine ⟨⟨i + 1,hi'⟩,?_,by simp;omega⟩
  refine (Le.tell [1996] 3048 58 4 _ ((entsN frm l (i + 1)).map erow) false rfl (by rw [hes,List.map_append,hea];refine tell_app ?_ _;exact ⟨⟨.inl rfl,.inl rfl,.inl (by rw [hk];rfl),.inr (.inr ⟨_,_,_,_,rfl,rfl,rfl,drows_brow [c,i % 256]⟩),trivial⟩,trivial⟩)).trans (Le.lit [] [(1000,3048)] _ _ ?_ ?_ ?_ ?_)
  ·skip
   simp only [zL,Nat.reduceEqDiff,↓reduceIte,reduceCtorEq]
  ·skip
   simp only [zL,Nat.reduceEqDiff,↓reduceIte,reduceCtorEq]
   exact erow_data _
  ·simp
  ·simp
 have hk : ¬ c / 5 % 2 = 1:=by simp at hf1;omega
 have hk0 : c / 5 % 2 = 0:=by omega
 simp only [zX]
 refine aw_reg 2100 (RG.go fun Q hQ=>?_)
 simp only [zS,reduceCtorEq,Nat.reduceAdd,Nat.reduceEqDiff,Nat.reduceLT,↓reduceIte,hr]
 refine ⟨⟨by omega,by simp;omega⟩,hQ (RG.nil ?_)⟩
 simp only [zX]
 refine aw_cond _ rfl trivial (fun ht2=>?_) (fun hf2=>?_)
 ·have hg : 230 < c:=by simp at ht2;omega
  have hea : entAt frm i c (termT l (i + 1)) = ⟨frm + i,(termT l (i + 1) : Nat),2,[c % 5,c / 5 % 2]⟩:=by unfold entAt;rw [if_pos hg]
  refine aw_draw 2300 (RG.go fun Q hQ=>?_)
  simp only [zS,reduceCtorEq,Nat.reduceAdd,Nat.reduceEqDiff,Nat.reduceLeDiff,Nat.reduceLT,↓reduceIte,hr,q1,q6,q8]
  refine ⟨⟨by omega,by simp;omega⟩,by decide,⟨by omega,by simp;omega⟩,by decide,by decide,?_⟩
  refine hQ (RG.nil ⟨by decide,?_⟩)
  simp only [zX]
  refine aw_reg 3000 (RG.go fun Q hQ=>?_)
  simp only [zS,reduceCtorEq,Nat.reduceAdd,Nat.reduceEqDiff,↓reduceIte]
  refine ⟨⟨by simp,by simp;omega⟩,hQ (RG.nil ?_)⟩
  simp only [zX]
  refine aS 3200 (fun Q hQ=>by simp only [zS,reduceCtorEq,Nat.reduceAdd,Nat.reduceEqDiff,↓reduceIte,hw1];exact hQ) ?_
  refine ⟨⟨i + 1,hi'⟩,?_,by simp;omega⟩
  refine (Le.tell [2476] 3048 58 4 _ ((entsN frm l (i + 1)).map erow) false rfl (by rw [hes,List.map_append,hea];refine tell_app ?_ _;exact ⟨⟨.inl rfl,.inl rfl,.inl rfl,.inr (.inr ⟨_,_,_,_,rfl,rfl,rfl,drows_brow [c % 5,c / 5 % 2]⟩),trivial⟩,trivial⟩)).trans (Le.lit [] [(1000,3048)] _ _ ?_ ?_ ?_ ?_)
  ·skip
   simp only [zL,Nat.reduceEqDiff,↓reduceIte,reduceCtorEq]
  ·skip
   simp only [zL,Nat.reduceEqDiff,↓reduceIte,reduceCtorEq]
   exact erow_data _
  ·simp
  ·simp
 have hg : ¬ 230 < c:=by simp at hf2;omega
 have hea : entAt frm i c (termT l (i + 1)) = ⟨frm + i,(termT l (i + 1) : Nat),0,[]⟩:=by unfold entAt;rw [if_neg hg,if_neg hk]
 simp only [zX]
 refine aw_reg 3000 (RG.go fun Q hQ=>?_)
 simp only [zS,reduceCtorEq,Nat.reduceAdd,Nat.reduceEqDiff,↓reduceIte]
 refine ⟨⟨by simp,by simp;omega⟩,hQ (RG.nil ?_)⟩
 simp only [zX]
 refine aS 3200 (fun Q hQ=>by simp only [zS,reduceCtorEq,Nat.reduceAdd,Nat.reduceEqDiff,↓reduceIte,hw1];exact hQ) ?_
 refine ⟨⟨i + 1,hi'⟩,?_,by simp;omega⟩
 refine (Le.tell [] 3048 58 4 _ ((entsN frm l (i + 1)).map erow) false rfl (by rw [hes,List.map_append,hea];refine tell_app ?_ _;exact ⟨⟨.inl rfl,.inl rfl,.inl (by rw [hk0];rfl),.inr (.inl ⟨rfl,rfl⟩),trivial⟩,trivial⟩)).trans (Le.lit [] [(1000,3048)] _ _ ?_ ?_ ?_ ?_)
 ·skip
  simp only [zL,Nat.reduceEqDiff,↓reduceIte,reduceCtorEq]
 ·skip
  simp only [zL,Nat.reduceEqDiff,↓reduceIte,reduceCtorEq]
  exact erow_data _
 ·simp
 ·simp

theorem readB_mem {most : Nat} {l : List Nat} {e : Nat} (hl : ∀ c ∈ l,c < 256) : (∀ c ∈ (readB most l e).d,c < 256)∧(∀ c ∈ (readB most l e).l,c < 256)∧(readB most l e).l.length≤l.length∧(readB most l e).c.length≤7:=by
 have m1:=numR_mem (most:=1099511627776) (e:=e) hl
 have n1:=numR_len (most:=1099511627776) (l:=l) (e:=e)
 unfold readB
 generalize numR 1099511627776 l e = a at *
 have m2:=numR_mem (most:=1099511627776) (e:=a.2.2) m1
 have n2:=numR_len (most:=1099511627776) (l:=a.2.1) (e:=a.2.2)
 simp only
 generalize numR 1099511627776 a.2.1 a.2.2 = b at *
 have m3:=numR_mem (most:=7) (e:=b.2.2) m2
 have n3:=numR_len (most:=7) (l:=b.2.1) (e:=b.2.2)
 have k3:=numR_le (most:=7) (l:=b.2.1) (e:=b.2.2)
 generalize numR 7 b.2.1 b.2.2 = c at *
 obtain ⟨f1,f2,f3,f4⟩:=numsR_facts (most:=most) (e:=c.2.2) m3 c.1
 generalize numsR most c.2.1 c.2.2 c.1 = q at *
 have m4:=lumpR_mem (most:=32767) (e:=q.2.2) f3
 have n4:=lumpR_len (most:=32767) (l:=q.2.1) (e:=q.2.2)
 generalize lumpR 32767 q.2.1 q.2.2 = d at *
 split
 ·exact ⟨m4.1,m4.2,by simp only;omega,by simp;omega⟩
 ·exact ⟨by simp,m4.2,by simp only;omega,by simp⟩

def xorB (a b : Nat) : Nat:=(bitsI .xor .u8 a b).toNat

theorem xorB_eq (a b : Nat) : bitsI .xor .u8 (a : Int) (b : Int) = ((xorB a b : Nat) : Int)∧xorB a b < 256:=by
 have h : ∀ n : Int,0≤IntKind.u8.wrap n∧IntKind.u8.wrap n < 256:=fun n=>by rw [w_u8];omega
 have h1 : 0≤bitsI .xor .u8 (a : Int) (b : Int)∧bitsI .xor .u8 (a : Int) (b : Int) < 256:=h _
 unfold xorB
 omega

end Go.Abs

namespace Go.Abs
open Go Go.Proofs
set_option maxRecDepth 100000
set_option linter.unusedSimpArgs false
set_option maxHeartbeats 8000000

def ugOk (gs : Nat) (want : Bool) (ops : List AO) : Bool:=ops.all fun o=>(match o.gd with | none=>true | some (a,b)=>a == gs && b == want) && (match o.dst with | none=>true | some d=>d != gs)
theorem RunL.unAll {P : Program} {gs : Nat} {want g t : Bool} {F : St→List Rec→Prop} (hw : (g && (t == want)) = true) : ∀ (ops : List AO) {fr : Nat} {st : St} {rs : List Rec},ugOk gs want ops = true→gval (st.sl gs) = some (g,t)→RunL P fr (ops.map fun o=>⟨o.op,o.dst,none,o.after⟩) st rs F→RunL P fr ops st rs F
 | [],_,_,_,_,_,h=>h
 | o :: ops,fr,st,rs,hu,hg,h=>by
  obtain ⟨r,h1,h2⟩:=h
  simp only [ugOk,List.all_cons,Bool.and_eq_true] at hu
  obtain ⟨⟨hu1,hu2⟩,hu3⟩:=hu
  have h1' : En0 P fr o.op st.sl st.σ r:=h1
  refine ⟨r,?_,RunL.unAll hw ops hu3 ?_ h2⟩
  ·unfold En
   cases hgd : o.gd with
   | none=>exact h1'
   | some p =>
    obtain ⟨a,b⟩:=p
    rw [hgd] at hu1
    simp only [Bool.and_eq_true,beq_iff_eq] at hu1
    obtain ⟨rfl,rfl⟩:=hu1
    exact .inr ⟨g,t,hg,hw,h1'⟩
  ·unfold St.put
   cases hd : o.dst with
   | none=>exact hg
   | some d =>
    rw [hd] at hu2
    have hne : d≠gs:=by intro h;simp [h] at hu2
    simp only [upd]
    rw [if_neg (by exact fun h=>hne h.symm)]
    exact hg
theorem RG.unAll {P : Program} {gs : Nat} {want g t : Bool} {fr : Nat} {ops : List AO} {l : SL} {es : EL} {ks : KL} {K : SL→EL→KL→Prop} (hw : (g && (t == want)) = true) (hu : ugOk gs want ops = true) (hg : gval (lk .dead l gs) = some (g,t)) (h : RG P fr (ops.map fun o=>⟨o.op,o.dst,none,o.after⟩) l es ks K) : RG P fr ops l es ks K :=
 fun rs hr=>RunL.unAll hw ops hu hg (h rs hr)
theorem RX.run2 {P : Program} {K : SL→EL→KL→Prop} (post : List AO) : ∀ (ops : List AO) {fr : Nat} {l : SL} {es : EL} {ks : KL},RX fr ops l es ks (fun fr ops l es ks=>RG P fr (ops ++ post) l es ks K)→RG P fr (ops ++ post) l es ks K
 | [],fr,l,es,ks,h=>h
 | o :: ops,fr,l,es,ks,h=>by
  unfold RX at h
  split at h
  ·exact h
  ·rename_i hc
   rw [List.cons_append]
   split at h
   ·rename_i hg
    split at h
    ·rename_i sv ups cond he
     obtain ⟨h1,h2,h3⟩:=h
     refine RG.step ⟨sv,ups,idsOf (ev (lk .dead l)) o.op.rds ++ [fr]⟩ ?_ (RX.run2 post ops h3)
     unfold En
     rw [hg]
     exact En0.of_eff hc he h1 h2
    ·exact h.elim
   ·rename_i gs want hg
    split at h
    ·rename_i g t hv
     split at h
     ·rename_i sv cond he
      obtain ⟨h1,h3⟩:=h
      refine RG.step ⟨.opt (g && (t == want)) sv,[],idsOf (ev (lk .dead l)) o.op.rds ++ [fr]⟩ ?_ (RX.run2 post ops h3)
      unfold En
      rw [hg]
      exact .inl ⟨g,t,sv,hv,rfl,fun hh=>En0.of_eff hc he (h1 hh).1 (h1 hh).2⟩
     ·obtain ⟨h1,h3⟩:=h
      refine RG.step ⟨.opt false (.c (.v (.bool false))),[],[]⟩ ?_ (RX.run2 post ops h3)
      unfold En
      rw [hg]
      exact .inl ⟨g,t,.c (.v (.bool false)),hv,by rw [h1],fun hh=>by rw [h1] at hh;cases hh⟩
    ·exact h.elim
theorem RG.cutGo {P : Program} {fr : Nat} {ops : List AO} {l : SL} {es : EL} {ks : KL} {K : SL→EL→KL→Prop} (k : Nat)
  (h : ∀ Q : Nat→List AO→SL→EL→KL→Prop,(∀ {fr pre l es ks},RG P fr (pre ++ ops.drop k) l es ks K→Q fr pre l es ks)→RX fr (ops.take k) l es ks Q) : RG P fr ops l es ks K:=by
 have:=RX.run2 (P:=P) (K:=K) (ops.drop k) (ops.take k) (h _ fun hh=>hh)
 rwa [List.take_append_drop] at this

def ug (gs : Nat) (want : Bool) (o : AO) : AO:=match o.gd with
 | none=>o
 | some (a,b)=>if a = gs∧b = want then ⟨o.op,o.dst,none,o.after⟩ else o
def ugS (gs : Nat) (ops : List AO) : Bool:=ops.all fun o=>match o.dst with | none=>true | some d=>d != gs
theorem RunL.unSome {P : Program} {gs : Nat} {want g t : Bool} {F : St→List Rec→Prop} (hw : (g && (t == want)) = true) : ∀ (ops : List AO) {fr : Nat} {st : St} {rs : List Rec},ugS gs ops = true→gval (st.sl gs) = some (g,t)→RunL P fr (ops.map (ug gs want)) st rs F→RunL P fr ops st rs F
 | [],_,_,_,_,_,h=>h
 | o :: ops,fr,st,rs,hu,hg,h=>by
  obtain ⟨r,h1,h2⟩:=h
  simp only [ugS,List.all_cons,Bool.and_eq_true] at hu
  obtain ⟨hu2,hu3⟩:=hu
  have hop : (ug gs want o).op = o.op∧(ug gs want o).dst = o.dst:=by
   unfold ug
   split
   ·exact ⟨rfl,rfl⟩
   ·split <;> exact ⟨rfl,rfl⟩
  rw [hop.2] at h2
  refine ⟨r,?_,RunL.unSome hw ops hu3 ?_ h2⟩
  ·unfold ug at h1
   split at h1
   ·exact h1
   ·rename_i a b hgd
    split at h1
    ·rename_i hab
     obtain ⟨rfl,rfl⟩:=hab
     have h1' : En0 P fr o.op st.sl st.σ r:=h1
     unfold En
     rw [hgd]
     exact .inr ⟨g,t,hg,hw,h1'⟩
    ·exact h1
  ·unfold St.put
   cases hd : o.dst with
   | none=>exact hg
   | some d =>
    rw [hd] at hu2
    have hne : d≠gs:=by intro h;simp [h] at hu2
    simp only [upd]
    rw [if_neg (by exact fun h=>hne h.symm)]
    exact hg
theorem RG.unSome {P : Program} {gs : Nat} {want g t : Bool} {fr : Nat} {ops : List AO} {l : SL} {es : EL} {ks : KL} {K : SL→EL→KL→Prop} (hw : (g && (t == want)) = true) (hu : ugS gs ops = true) (hg : gval (lk .dead l gs) = some (g,t)) (h : RG P fr (ops.map (ug gs want)) l es ks K) : RG P fr ops l es ks K :=
 fun rs hr=>RunL.unSome hw ops hu hg (h rs hr)

def w32 (c : BitVec 32) : Int:=(c.toNat : Int)
theorem w32_not (c : BitVec 32) : bitsI .xor .u32 (if IntKind.u32.signed = true then -1 else IntKind.u32.max) (w32 c) = w32 (~~~c):=bits_not c
theorem w32_shr (c : BitVec 32) : (w32 c).fdiv (2 ^ min 1 IntKind.u32.bits) = w32 c / 2∧(w32 c).fdiv (2 ^ min 8 IntKind.u32.bits) = w32 c / 256∧(w32 c).fdiv (2 ^ min 16 IntKind.u32.bits) = w32 c / 65536∧(w32 c).fdiv (2 ^ min 24 IntKind.u32.bits) = w32 c / 16777216:=by
 have h : 0≤w32 c:=by unfold w32;omega
 exact ⟨Int.fdiv_eq_ediv_of_nonneg _ (by decide),Int.fdiv_eq_ediv_of_nonneg _ (by decide),Int.fdiv_eq_ediv_of_nonneg _ (by decide),Int.fdiv_eq_ediv_of_nonneg _ (by decide)⟩
theorem w32_round (c : BitVec 32) : bitsI .xor .u32 ((w32 c).fdiv (2 ^ min 1 IntKind.u32.bits)) (IntKind.u32.wrap (2197175160 * bitsI .and .u32 (w32 c) 1)) = w32 (crcS c):=by rw [(w32_shr c).1];exact crc_round c
theorem w32_byte (c : BitVec 32) {x : Nat} (hx : x < 256) : bitsI .xor .u32 (w32 c) (x : Int) = w32 (c ^^^ BitVec.ofNat 32 x):=byte_xor c hx
theorem w32_zero : (0 : Int) = w32 0#32:=rfl
theorem w32_four (c : BitVec 32) : IntKind.u8.wrap (w32 c) = ((c.toNat % 256 : Nat) : Int)∧IntKind.u8.wrap (w32 c / 256) = ((c.toNat / 256 % 256 : Nat) : Int)∧IntKind.u8.wrap (w32 c / 65536) = ((c.toNat / 65536 % 256 : Nat) : Int)∧IntKind.u8.wrap (w32 c / 16777216) = ((c.toNat / 16777216 % 256 : Nat) : Int):=by
 unfold w32
 generalize c.toNat = n
 simp only [IntKind.wrap_u8]
 omega
theorem crcN_snoc : ∀ (n : Nat) (c : BitVec 32),crcN (n + 1) c = crcS (crcN n c)
 | 0,_=>rfl
 | n + 1,c=>crcN_snoc n (crcS c)
theorem crcB_snoc (c : BitVec 32) (l : List Nat) (x : Nat) : crcB c (l ++ [x]) = crcN 8 (crcB c l ^^^ BitVec.ofNat 32 x):=by simp [crcB,List.foldl_append,crcY]
theorem crc_More_con (c : BitVec 32) (l : List Nat) (h8 : ∀ x ∈ l,x < 256) (hl : l.length≤140737488355328) :
  Con Tryz.prog 90 [.c (.v (.int .u32 (w32 c))),.c (.sl (l.map brow))] [] (.c (.v (.int .u32 (w32 (crcM c l))))) []:=by
 refine C_crc_More nl nl ?_
 simp only [cz,A_crc_More,argL,objL,List.length_nil,Nat.zero_add,zX]
 refine aR 16 ?_
 refine aS 64 (fun Q hQ=>by simp (disch:=intros;contradiction) only [zS,w32_not,simprocAttr];exact hQ) ?_
 refine aS 144 (fun Q hQ=>by simp (disch:=intros;contradiction) only [zS,zW,simprocAttr];exact hQ) ?_
 refine aw_loopK (X:={ i : Nat // i≤l.length }) [10,11] (fun i=>[(0,.c (.v (.int .u32 (w32 (crcB (~~~c) (l.take i.1)))))),(12,I i.1)]) [] (fun i=>[]) (fun i=>l.length - i.1) (⟨0,by omega⟩) ?_ ?_
 ·skip
  simp only [keepS,keepE,lk_cons,List.cons_append,List.nil_append,simprocAttr]
  refine Le.lit [] [] _ _ ?_ ?_ ?_ ?_
  ·simp only [zL,simprocAttr]
   all_goals (try ((repeat' (rfl))))
  ·simp only [zL,simprocAttr]
  ·simp [rlook]
  ·(simp;done)
 rintro ⟨i,hi⟩
 simp only [keepS,keepE,lk_cons,List.cons_append,List.nil_append,simprocAttr]
 simp only [zX]
 refine aR 224 ?_
 refine aw_cond _ rfl trivial (fun ht=>?_) (fun hf=>?_)
 ·skip
  try simp at ht
  simp only [zX]
  have hi' : i < l.length:=by omega
  obtain ⟨x,hx⟩ : ∃ x,l[i] = x:=⟨_,rfl⟩
  have hx8:=h8 x (by rw [← hx];exact List.getElem_mem hi')
  have hnx : crcB (~~~c) (l.take (i + 1)) = crcN 8 (crcB (~~~c) (l.take i) ^^^ BitVec.ofNat 32 x):=by rw [take_one _ _ hi',crcB_snoc,hx]
  have hnx0:=hnx
  generalize hcb : crcB (~~~c) (l.take i) = cb at hnx
  have hb1:=w32_byte cb hx8
  have hb2 : IntKind.u32.wrap (x : Int) = x:=by rw [wrap_u32'];omega
  refine aS 272 (fun Q hQ=>by simp (disch:=first | (intros;contradiction) | omega | (simp only [zN];omega)) only [zS,zW,hx,brow,simprocAttr];repeat refine ⟨by (omega),?_⟩;exact hQ) ?_
  refine aS 352 (fun Q hQ=>by simp (disch:=intros;contradiction) only [zS,hb1,hb2,simprocAttr];exact hQ) ?_
  refine aR 464 ?_
  refine aw_loopK (X:={ k : Nat // k≤8 }) [10,11,12] (fun k=>[(0,.c (.v (.int .u32 (w32 (crcN k.1 (cb ^^^ BitVec.ofNat 32 x)))))),(20,I k.1)]) [] (fun k=>[]) (fun k=>8 - k.1) (⟨0,by omega⟩) ?_ ?_
  ·skip
   simp only [keepS,keepE,lk_cons,List.cons_append,List.nil_append,simprocAttr]
   refine Le.lit [] [] _ _ ?_ ?_ ?_ ?_
   ·simp only [zL,simprocAttr]
    all_goals (try ((repeat' (rfl))))
   ·simp only [zL,simprocAttr]
   ·simp [rlook]
   ·(simp;done)
  rintro ⟨k,hk⟩
  simp only [keepS,keepE,lk_cons,List.cons_append,List.nil_append,simprocAttr]
  simp only [zX]
  refine aR 512 ?_
  refine aw_cond _ rfl trivial (fun ht=>?_) (fun hf=>?_)
  ·skip
   try simp at ht
   simp only [zX]
   have hk' : k + 1≤8:=by omega
   have hs:=crcN_snoc k (cb ^^^ BitVec.ofNat 32 x)
   generalize hcn : crcN k (cb ^^^ BitVec.ofNat 32 x) = cn at hs
   have hr:=w32_round cn
   refine aR 560 ?_
   refine aS 640 (fun Q hQ=>by simp (disch:=intros;contradiction) only [zS,hr,simprocAttr];exact hQ) ?_
   refine aS 768 (fun Q hQ=>by simp (disch:=first | (intros;contradiction) | omega | (simp only [zN];omega)) only [zS,zW,simprocAttr];exact hQ) ?_
   refine ⟨⟨k + 1,hk'⟩,?_,by first | omega | (simp only;omega)⟩
   refine Le.lit [] [] _ _ ?_ ?_ ?_ ?_
   ·simp only [zL,simprocAttr]
    all_goals (rw [hs];(repeat' ((simp;done))))
   ·simp only [zL,simprocAttr]
   ·simp [rlook]
   ·(simp;done)
  try simp at hf
  simp only [zX,↓reduceIte]
  obtain rfl : k = 8:=by omega
  refine aS 832 (fun Q hQ=>by simp (disch:=first | (intros;contradiction) | omega | (simp only [zN];omega)) only [zS,zW,simprocAttr];exact hQ) ?_
  refine ⟨⟨i + 1,hi'⟩,?_,by first | omega | (simp only;omega)⟩
  refine Le.lit [] [] _ _ ?_ ?_ ?_ ?_
  ·simp only [zL,simprocAttr]
   all_goals (rw [hnx];(repeat' ((simp;done))))
  ·simp only [zL,simprocAttr]
  ·simp [rlook]
  ·(simp;done)
 try simp at hf
 simp only [zX,↓reduceIte]
 obtain rfl : i = l.length:=by omega
 refine aS 896 (fun Q hQ=>by simp (disch:=intros;contradiction) only [zS,zW,w32_not,w32_not,simprocAttr];exact hQ) ?_
 exact Fin.scalar (.inr rfl) rfl trivial rfl trivial

theorem crc_Sum_con (l : List Nat) (h8 : ∀ x ∈ l,x < 256) (hl : l.length≤140737488355328) :
  Con Tryz.prog 65 [.c (.sl [[.sl (l.map brow)]])] [] (.c (.v (.int .u32 (w32 (crcM 0#32 l))))) []:=by
 have cM:=crc_More_con 0#32 l h8 hl
 rw [← w32_zero] at cM
 refine C_crc_Sum nl nl ?_
 simp only [cz,A_crc_Sum,argL,objL,List.length_nil,zX]
 refine aR 16 ?_
 refine aR 64 ?_
 refine aR 112 ?_
 refine aw_loopK (X:={ i : Nat // i≤1 }) [6,7] (fun i=>[(3,.c (.v (.int .u32 (if i.1 = 0 then 0 else w32 (crcM 0#32 l))))),(8,I i.1)]) [] (fun i=>[]) (fun i=>1 - i.1) (⟨0,by omega⟩) ?_ ?_
 ·skip
  simp only [keepS,keepE,lk_cons,List.cons_append,List.nil_append,simprocAttr]
  refine Le.lit [] [] _ _ ?_ ?_ ?_ ?_
  ·simp only [zL,simprocAttr]
  ·simp only [zL,simprocAttr]
  ·simp [rlook]
  ·(simp;done)
 rintro ⟨i,hi⟩
 simp only [keepS,keepE,lk_cons,List.cons_append,List.nil_append,simprocAttr]
 simp only [zX]
 refine aR 192 ?_
 refine aw_cond _ rfl trivial (fun ht=>?_) (fun hf=>?_)
 ·skip
  try simp at ht
  simp only [zX]
  obtain rfl : i = 0:=by omega
  refine aR 240 ?_
  refine aB 320 ?_
  refine rC [] (cM) ?_
  refine aE ?_
  refine aS 416 (fun Q hQ=>by simp (disch:=first | (intros;contradiction) | omega | (simp only [zN];omega)) only [zS,zW,simprocAttr];exact hQ) ?_
  refine ⟨⟨1,by omega⟩,?_,by first | omega | (simp only;omega)⟩
  refine Le.lit [] [] _ _ ?_ ?_ ?_ ?_
  ·simp only [zL,simprocAttr]
  ·simp only [zL,simprocAttr]
  ·simp [rlook]
  ·(simp;done)
 try simp at hf
 simp only [zX,↓reduceIte]
 obtain rfl : i = 1:=by omega
 refine aR 480 ?_
 exact Fin.scalar (.inr rfl) rfl trivial rfl trivial

theorem crc_Four_con (c : BitVec 32) : Con Tryz.prog 64 [.c (.v (.int .u32 (w32 c)))] [] (.c (.osl 0)) [.arr 5 1 ((fourB c).map brow) false]:=by
 have hs:=w32_shr c
 have h0:=(w32_four c).1
 have h1:=(w32_four c).2.1
 have h2:=(w32_four c).2.2.1
 have h3:=(w32_four c).2.2.2
 have g1:=hs.2.1
 have g2:=hs.2.2.1
 have g3:=hs.2.2.2
 have hf : (fourB c).map brow = [[.v (.int .u8 ((c.toNat % 256 : Nat) : Int))],[.v (.int .u8 ((c.toNat / 256 % 256 : Nat) : Int))],[.v (.int .u8 ((c.toNat / 65536 % 256 : Nat) : Int))],[.v (.int .u8 ((c.toNat / 16777216 % 256 : Nat) : Int))]]:=rfl
 rw [hf]
 refine C_crc_Four nl nl ?_
 simp only [cz,A_crc_Four,argL,objL,List.length_nil,zX]
 refine aR 16 ?_
 refine aS 64 (fun Q hQ=>by simp (disch:=intros;contradiction) only [zS,g1,g2,g3,h0,h1,h2,h3,simprocAttr];exact hQ) ?_
 refine Fin.objs [] [(0,240)] (.inr rfl) rfl (by exact trivial) ?_ ?_ (by simp [objL,rlook]) (by (simp [objL,rlook];done))
 ·simp only [zL,simprocAttr]
 ·simp only [zL,simprocAttr]
  all_goals (try ((repeat' (((simp [C.isD];done))))))

theorem crc_Seal_con (l : List Nat) (h8 : ∀ x ∈ l,x < 256) (hl : l.length≤1000000000000) :
  Con Tryz.prog 27 [.c (.sl (l.map brow))] [] (.c (.osl 0)) [.arr 5 1 ((sealB l).map brow) false]:=by
 have cS:=crc_Sum_con l h8 (by omega)
 have cF:=crc_Four_con (crcM 0#32 l)
 refine C_crc_Seal nl nl ?_
 simp only [cz,A_crc_Seal,argL,objL,List.length_nil,zX]
 refine aR 16 ?_
 refine aBs 64 (fun Q hQ=>by simp (disch:=intros;contradiction) only [zS,zW,simprocAttr];repeat refine ⟨by (exact ⟨by (intro q hq;obtain ⟨_,_,rfl⟩:=List.mem_map.1 hq;rfl),by omega⟩),?_⟩;exact hQ) ?_
 refine rO [] [112] (cS) ?_
 refine aM ?_
 refine rO [] [] (cF) ?_
 refine RG.go fun Q hQ=>?_
 simp (disch:=intros;contradiction) only [zS,zW,simprocAttr]
 refine ⟨⟨brow_len _,by rw [fourB_len];omega⟩,hQ (RG.nil ?_)⟩
 simp only [zX]
 refine Fin.objs [] [(0,160)] (.inr rfl) rfl (by exact trivial) ?_ ?_ (by simp [objL,rlook]) (by (simp [objL,rlook];done))
 ·simp only [zL,simprocAttr]
 ·simp only [zL,simprocAttr]
  all_goals (simp only [sealB,List.map_append];(repeat' (first | (first | (simp [brow,C.isD];done) | (rw [← List.map_append];first | exact drows_brow _ | exact drows_nrow _ | exact drows_irow _ | exact drows_wrow _)) | refine ⟨?_,?_⟩)))

theorem crc_Open_con (l : List Nat) (h8 : ∀ x ∈ l,x < 256) (hl : l.length≤1000000000000) :
  Con Tryz.prog 48 [.c (.sl (l.map brow))] [] (.tup [.c (.sl ((openB l).1.map brow)),B (openB l).2]) []:=by
 by_cases h : l.length < 4
 ·have hd : decide ((l.length : Int) - 4 < 0) = true:=by simp;omega
  have ho : openB l = ([],false):=by unfold openB;rw [if_neg (by omega)]
  rw [ho]
  refine C_crc_Open nl nl ?_
  simp only [cz,A_crc_Open,argL,objL,List.length_nil,zX]
  refine aR 16 ?_
  refine aS 80 (fun Q hQ=>by simp (disch:=first | (intros;contradiction) | omega | (simp only [zN];omega)) only [zS,zW,simprocAttr];exact hQ) ?_
  refine aBDs 176 (fun Q hQ=>by simp (disch:=intros;contradiction) only [zS,zW,hd,simprocAttr];exact hQ) ?_
  refine RG.callg (res:=B true) _ _ [] rfl (fun hg=>by simp at hg) ?_
  refine aM ?_
  refine RG.callg (res:=B true) _ _ [] rfl (fun hg=>by simp at hg) ?_
  refine aM ?_
  refine RG.callg (res:=B true) _ _ [] rfl (fun hg=>by simp at hg) ?_
  refine aED ?_
  refine aT ?_
  refine aR 448 ?_
  refine Fin.data [] (.inr rfl) rfl (by (exact trivial)) ?_
  simp only [zL,simprocAttr]
  all_goals (simp)

 ·have hd : decide ((l.length : Int) - 4 < 0) = false:=by simp;omega
  have hn : ((l.length : Int) - 4).toNat = l.length - 4:=by omega
  have h8a : ∀ x ∈ l.take (l.length - 4),x < 256:=fun x hx=>h8 x (List.mem_of_mem_take hx)
  have h8b : ∀ x ∈ l.drop (l.length - 4),x < 256:=fun x hx=>h8 x (List.mem_of_mem_drop hx)
  have cS:=crc_Sum_con (l.take (l.length - 4)) h8a (by simp;omega)
  have cF:=crc_Four_con (crcM 0#32 (l.take (l.length - 4)))
  have cE:=bytes_Equal_con (l.drop (l.length - 4)) (fourB (crcM 0#32 (l.take (l.length - 4)))) h8b (fourB_by _)
  refine C_crc_Open nl nl ?_
  simp only [cz,A_crc_Open,argL,objL,List.length_nil,zX]
  refine aR 16 ?_
  refine aS 80 (fun Q hQ=>by simp (disch:=first | (intros;contradiction) | omega | (simp only [zN];omega)) only [zS,zW,simprocAttr];exact hQ) ?_
  refine aw_draw 176 (RG.cutGo 3 fun Q hQ=>?_)
  simp only [List.take_succ_cons,List.take_zero]
  simp (disch:=intros;contradiction) only [zS,hd,simprocAttr]
  refine hQ ?_
  simp only [List.nil_append,List.drop_succ_cons,List.drop_zero]
  refine RG.unAll (gs:=10) (want:=false) (g:=true) (t:=false) rfl rfl (by simp (disch:=first | (intros;contradiction) | omega) only [lk_cons,gval,simprocAttr]) ?_
  simp only [List.map_cons,List.map_nil]
  refine RG.go fun Q hQ=>?_
  simp (disch:=intros;contradiction) only [zS,zW,hn,simprocAttr]
  repeat refine ⟨by ((refine ⟨?_,?_⟩ <;> (repeat' (first | omega | (intro q hq;obtain ⟨_,_,rfl⟩:=List.mem_map.1 hq;rfl) | refine ⟨?_,?_⟩)))),?_⟩
  refine hQ ?_
  refine rO [] [320] (cS) ?_
  refine aM ?_
  refine rO [] [] (cF) ?_
  refine aM ?_
  refine rC [352] (cE) ?_
  refine aED ?_
  refine aw_cond _ rfl trivial (fun ht=>?_) (fun hf=>?_)
  ·skip
   try simp at ht
   simp only [zX]
   have ho : openB l = ([],false):=by unfold openB;rw [if_neg (by intro h2;simp [h2.2] at ht)]
   rw [ho]
   refine aR 448 ?_
   refine Fin.data [] (.inr rfl) rfl (by (exact trivial)) ?_
   simp only [zL,simprocAttr]
   all_goals (simp)
  try simp at hf
  simp only [zX]
  have ho : openB l = (l.take (l.length - 4),true):=by unfold openB;rw [if_pos ⟨by omega,by simpa using hf⟩]
  rw [ho]
  refine aw_reg 512 (RG.go fun Q hQ=>?_)
  simp (disch:=intros;contradiction) only [zS,zW,hn,simprocAttr]
  repeat refine ⟨by (first | exact ⟨by (intro q hq;obtain ⟨_,_,rfl⟩:=List.mem_map.1 hq;rfl),by omega⟩ | (refine ⟨?_,?_⟩ <;> (repeat' (first | omega | (intro q hq;obtain ⟨_,_,rfl⟩:=List.mem_map.1 hq;rfl) | refine ⟨?_,?_⟩)))),?_⟩
  refine hQ (RG.nil ?_)
  simp only [zX]
  refine Fin.data [560] (.inr rfl) rfl (by (exact trivial)) ?_
  simp only [zL,simprocAttr]
  all_goals ((repeat' (first | (first | exact drows_brow _ | (simp [C.isD];done)) | refine ⟨?_,?_⟩)))

end Go.Abs

namespace Go.Abs
open Go Go.Proofs
set_option maxRecDepth 100000
set_option linter.unusedSimpArgs false
set_option maxHeartbeats 8000000

structure MG where
 kind : Int
 grp : Int
 frm : Int
 to : Int
 term : Int
 idx : Int
 lterm : Int
 com : Int
 ok : Bool
 es : List EN
 bi : Int
 bt : Int
 bc : List Int
 bd : List Nat
 d : List Nat
 vol : Int
 chk : Int
 mark : Int
 floor : Int
def msgC (m : MG) : List C:=[.v (.int .i64 m.kind),.v (.int .i64 m.grp),.v (.int .i64 m.frm),.v (.int .i64 m.to),.v (.int .i64 m.term),.v (.int .i64 m.idx),.v (.int .i64 m.lterm),.v (.int .i64 m.com),.v (.bool m.ok),.sl (m.es.map erow),.v (.int .i64 m.bi),.v (.int .i64 m.bt),.sl (m.bc.map nrow),.sl (m.bd.map brow),.sl (m.d.map brow),.v (.int .i64 m.vol),.v (.int .i64 m.chk),.v (.int .i64 m.mark),.v (.int .i64 m.floor)]
def zeroM : MG:=⟨0,0,0,0,0,0,0,0,false,[],0,0,[],[],[],0,0,0,0⟩
def baseM (m : MG) : MG:=⟨m.kind,m.grp,m.frm,m.to,0,0,0,0,false,[],0,0,[],[],[],0,0,0,0⟩
def hasL (k : Int) : List Nat :=
 if k = 1∨k = 3 then [116,105] else if k = 2∨k = 4 then [116,111] else if k = 5 then [116,105,99,101] else if k = 6 then [116,111,120] else if k = 7 then [116,98] else if k = 8 then [100] else if k = 9 then [109] else []
def setF (m o : MG) (c : Nat) : MG :=
 if c = 116 then { o with term:=m.term }
 else if c = 105 then { o with idx:=m.idx,lterm:=m.lterm }
 else if c = 120 then { o with idx:=m.idx }
 else if c = 99 then { o with com:=m.com }
 else if c = 111 then { o with ok:=m.ok }
 else if c = 101 then { o with es:=m.es }
 else if c = 98 then { o with bi:=m.bi,bt:=m.bt,bc:=m.bc,bd:=m.bd }
 else if c = 100 then { o with d:=m.d }
 else { o with vol:=m.vol,chk:=m.chk,mark:=m.mark,floor:=m.floor }
def onlyM (m : MG) : MG:=(hasL m.kind).foldl (setF m) (baseM m)
theorem mg_eq {a b : MG} : a = b ↔ a.kind = b.kind∧a.grp = b.grp∧a.frm = b.frm∧a.to = b.to∧a.term = b.term∧a.idx = b.idx∧a.lterm = b.lterm∧a.com = b.com∧a.ok = b.ok∧a.es = b.es∧a.bi = b.bi∧a.bt = b.bt∧a.bc = b.bc∧a.bd = b.bd∧a.d = b.d∧a.vol = b.vol∧a.chk = b.chk∧a.mark = b.mark∧a.floor = b.floor:=by cases a;cases b;simp
theorem en_eq {a b : EN} : a = b ↔ a.i = b.i∧a.t = b.t∧a.k = b.k∧a.d = b.d:=by cases a;cases b;simp
instance : DecidableEq EN:=fun _ _=>decidable_of_iff _ en_eq.symm
instance : DecidableEq MG:=fun _ _=>decidable_of_iff _ mg_eq.symm
def entP (l : List EN) (j : Nat) : Prop:=∀ h : j < l.length,entryRight l[j].i l[j].t l[j].k l[j].d = true∧(0 < j→l[j].i = (l[j - 1]'(by omega)).i + 1)
instance (l : List EN) (j : Nat) : Decidable (entP l j):=by unfold entP;infer_instance
def entsR (l : List EN) : Bool:=decide (∀ j,j < l.length→entP l j)
def rightM (m : MG) : Bool :=
 decide (1≤m.kind) && decide (m.kind≤9) && decide (m = onlyM m) && decide (0≤m.grp) && decide (m.grp≤7) && decide (0≤m.frm) && decide (m.frm≤6) && decide (0≤m.to) && decide (m.to≤6)
 && timeS m.term && timeS m.idx && timeS m.lterm && timeS m.com && timeS m.mark && timeS m.floor && entsR m.es && decide (m.es.length≤4) && (decide (m.kind≠7) || baseRight m.bi m.bt m.bc m.bd) && decide (m.d.length≤65535)
 && decide (0≤m.vol) && decide (m.vol≤7) && decide (0≤m.chk) && decide (m.chk≤255)
def eB (e : EN) : List Nat:=putE e.i e.t e.k e.d
def esB (l : List EN) : List Nat:=l.flatMap eB
theorem esB_succ (l : List EN) (i : Nat) (h : i < l.length) : esB (l.take (i + 1)) = esB (l.take i) ++ eB l[i]:=by
 unfold esB;rw [take_one l i h,List.flatMap_append];simp
def headM (m : MG) : List Nat:=putS [m.kind.toNat,m.grp.toNat,m.frm.toNat,m.to.toNat,m.term.toNat,m.idx.toNat,m.lterm.toNat,m.com.toNat,(if m.ok then 1 else 0),m.es.length]
def midM (m : MG) : List Nat:=if m.kind = 7 then 1 :: putB m.bi m.bt m.bc m.bd else [0]
def tailM (m : MG) : List Nat:=putS [m.vol.toNat,m.chk.toNat,m.mark.toNat,m.floor.toNat]
def bodyM (m : MG) : List Nat:=headM m ++ (esB m.es ++ (midM m ++ (num7 m.d.length ++ m.d ++ tailM m)))
def putM (m : MG) : List Nat × Int:=if rightM m = true then (sealB (bodyM m),0) else ([],23)
def byM (m : MG) : Prop:=(∀ e ∈ m.es,∀ c ∈ e.d,c < 256)∧(∀ c ∈ m.bd,c < 256)∧(∀ c ∈ m.d,c < 256)
structure Mok (m : MG) : Prop where
 es : m.es.length≤1000000
 bc : m.bc.length≤12
 bd : m.bd.length≤1000000
 d : m.d.length≤1000000
 by' : byM m

structure MFacts (m : MG) : Prop where
 k1 : 1≤m.kind
 k9 : m.kind≤9
 only : m = onlyM m
 g0 : 0≤m.grp
 g7 : m.grp≤7
 f0 : 0≤m.frm
 f6 : m.frm≤6
 t0 : 0≤m.to
 t6 : m.to≤6
 term : 0≤m.term∧m.term≤1099511627776
 idx : 0≤m.idx∧m.idx≤1099511627776
 lterm : 0≤m.lterm∧m.lterm≤1099511627776
 com : 0≤m.com∧m.com≤1099511627776
 mark : 0≤m.mark∧m.mark≤1099511627776
 floor : 0≤m.floor∧m.floor≤1099511627776
 es : entsR m.es = true
 es4 : m.es.length≤4
 base : m.kind≠7∨baseRight m.bi m.bt m.bc m.bd = true
 d : m.d.length≤65535
 v0 : 0≤m.vol
 v7 : m.vol≤7
 c0 : 0≤m.chk
 c255 : m.chk≤255
theorem rightM_facts {m : MG} (h : rightM m = true) : MFacts m:=by
 unfold rightM timeS at h
 simp only [Bool.and_eq_true,Bool.or_eq_true,decide_eq_true_eq] at h
 obtain ⟨⟨⟨⟨⟨⟨⟨⟨⟨⟨⟨⟨⟨⟨⟨⟨⟨⟨⟨⟨⟨⟨h1,h2⟩,h3⟩,h4⟩,h5⟩,h6⟩,h7⟩,h8⟩,h9⟩,h10⟩,h11⟩,h12⟩,h13⟩,h14⟩,h15⟩,h16⟩,h17⟩,h18⟩,h19⟩,h20⟩,h21⟩,h22⟩,h23⟩:=h
 exact ⟨h1,h2,h3,h4,h5,h6,h7,h8,h9,h10,h11,h12,h13,h14,h15,h16,h17,h18,h19,h20,h21,h22,h23⟩
theorem rightM_of {m : MG} (h : MFacts m) : rightM m = true:=by
 obtain ⟨h1,h2,h3,h4,h5,h6,h7,h8,h9,h10,h11,h12,h13,h14,h15,h16,h17,h18,h19,h20,h21,h22,h23⟩:=h
 unfold rightM timeS
 simp only [Bool.and_eq_true,Bool.or_eq_true,decide_eq_true_eq]
 exact ⟨⟨⟨⟨⟨⟨⟨⟨⟨⟨⟨⟨⟨⟨⟨⟨⟨⟨⟨⟨⟨⟨h1,h2⟩,h3⟩,h4⟩,h5⟩,h6⟩,h7⟩,h8⟩,h9⟩,h10⟩,h11⟩,h12⟩,h13⟩,h14⟩,h15⟩,h16⟩,h17⟩,h18⟩,h19⟩,h20⟩,h21⟩,h22⟩,h23⟩
theorem entsR_each {l : List EN} (h : entsR l = true) : ∀ e ∈ l,entryRight e.i e.t e.k e.d = true:=by
 intro e he
 obtain ⟨j,hj,rfl⟩:=List.getElem_of_mem he
 unfold entsR at h
 exact ((of_decide_eq_true h) j hj hj).1
theorem only_base {m : MG} (h : m = onlyM m) (hk : m.kind≠7) : m.bi = 0∧m.bt = 0∧m.bc = []∧m.bd = []:=by
 rw [h]
 unfold onlyM hasL
 rw [if_neg hk]
 repeat' split
 all_goals exact ⟨rfl,rfl,rfl,rfl⟩

abbrev NR:=Nat × List Nat × Nat
def enOf (r : ReadE) : EN:=⟨(r.i : Int),(r.t : Int),(r.k : Int),r.d⟩
def jE : Nat→List EN→List Nat→Nat→List EN × List Nat × Nat
 | 0,acc,l,e=>(acc,l,e)
 | k + 1,acc,l,e=>jE k (acc ++ [enOf (readE l e)]) (readE l e).l (readE l e).e
theorem jE_put : ∀ (es acc : List EN) (more : List Nat),(∀ e ∈ es,entryRight e.i e.t e.k e.d = true)→jE es.length acc (esB es ++ more) 0 = (acc ++ es,more,0)
 | [],acc,more,_=>by simp [jE,esB]
 | x :: es,acc,more,h=>by
  have hx:=h x (by simp)
  obtain ⟨h1,h2,h3,h4,h5,h6,h7⟩:=entryRight_facts hx
  have e1 : esB (x :: es) ++ more = putE x.i x.t x.k x.d ++ (esB es ++ more):=by simp [esB,eB]
  rw [e1,List.length_cons]
  unfold jE
  rw [readE_putE hx]
  have e2 : enOf ⟨x.i.toNat,x.t.toNat,x.k.toNat,x.d,true,esB es ++ more,0⟩ = x:=by
   unfold enOf
   simp only
   rw [Int.toNat_of_nonneg (by omega),Int.toNat_of_nonneg h3,Int.toNat_of_nonneg h5]
  rw [e2]
  show jE es.length (acc ++ [x]) (esB es ++ more) 0 = _
  rw [jE_put es (acc ++ [x]) more fun e he=>h e (by simp [he])]
  simp

def jFin (a1 a2 a3 a4 a5 a6 a7 a8 a9 : Nat) (es : List EN) (bi bt : Nat) (bc : List Int) (bd d : List Nat) (v c k : Nat) (q : NR) : MG × Nat:=(⟨a1,a2,a3,a4,a5,a6,a7,a8,decide (a9 = 1),es,bi,bt,bc,bd,d,v,c,k,q.1⟩,q.2.2)
def jm17 (B : Nat→Nat) (a1 a2 a3 a4 a5 a6 a7 a8 a9 : Nat) (es : List EN) (bi bt : Nat) (bc : List Int) (bd d : List Nat) (v c : Nat) (q : NR) : MG × Nat:=jFin a1 a2 a3 a4 a5 a6 a7 a8 a9 es bi bt bc bd d v c q.1 (numR (B 14) q.2.1 q.2.2)
def jm16 (B : Nat→Nat) (a1 a2 a3 a4 a5 a6 a7 a8 a9 : Nat) (es : List EN) (bi bt : Nat) (bc : List Int) (bd d : List Nat) (v : Nat) (q : NR) : MG × Nat:=jm17 B a1 a2 a3 a4 a5 a6 a7 a8 a9 es bi bt bc bd d v q.1 (numR (B 13) q.2.1 q.2.2)
def jm15 (B : Nat→Nat) (a1 a2 a3 a4 a5 a6 a7 a8 a9 : Nat) (es : List EN) (bi bt : Nat) (bc : List Int) (bd d : List Nat) (q : NR) : MG × Nat:=jm16 B a1 a2 a3 a4 a5 a6 a7 a8 a9 es bi bt bc bd d q.1 (numR (B 12) q.2.1 q.2.2)
def jm14 (B : Nat→Nat) (a1 a2 a3 a4 a5 a6 a7 a8 a9 : Nat) (es : List EN) (bi bt : Nat) (bc : List Int) (bd : List Nat) (q : List Nat × List Nat × Nat) : MG × Nat:=jm15 B a1 a2 a3 a4 a5 a6 a7 a8 a9 es bi bt bc bd q.1 (numR (B 11) q.2.1 q.2.2)
def jm13 (B : Nat→Nat) (a1 a2 a3 a4 a5 a6 a7 a8 a9 : Nat) (es : List EN) (r : ReadB) : MG × Nat:=jm14 B a1 a2 a3 a4 a5 a6 a7 a8 a9 es r.i r.t r.c r.d (lumpR 65535 r.l r.e)
def jm12 (B : Nat→Nat) (a1 a2 a3 a4 a5 a6 a7 a8 a9 : Nat) (es : List EN) (q : NR) : MG × Nat:=jm13 B a1 a2 a3 a4 a5 a6 a7 a8 a9 es (if q.1 = 1 then readB (B 15) q.2.1 q.2.2 else ⟨0,0,[],[],false,q.2.1,q.2.2⟩)
def jm11 (B : Nat→Nat) (a1 a2 a3 a4 a5 a6 a7 a8 a9 : Nat) (q : List EN × List Nat × Nat) : MG × Nat:=jm12 B a1 a2 a3 a4 a5 a6 a7 a8 a9 q.1 (numR (B 10) q.2.1 q.2.2)
def jm10 (B : Nat→Nat) (a1 a2 a3 a4 a5 a6 a7 a8 a9 : Nat) (q : NR) : MG × Nat:=jm11 B a1 a2 a3 a4 a5 a6 a7 a8 a9 (jE q.1 [] q.2.1 q.2.2)
def jm9 (B : Nat→Nat) (a1 a2 a3 a4 a5 a6 a7 a8 : Nat) (q : NR) : MG × Nat:=jm10 B a1 a2 a3 a4 a5 a6 a7 a8 q.1 (numR (B 9) q.2.1 q.2.2)
def jm8 (B : Nat→Nat) (a1 a2 a3 a4 a5 a6 a7 : Nat) (q : NR) : MG × Nat:=jm9 B a1 a2 a3 a4 a5 a6 a7 q.1 (numR (B 8) q.2.1 q.2.2)
def jm7 (B : Nat→Nat) (a1 a2 a3 a4 a5 a6 : Nat) (q : NR) : MG × Nat:=jm8 B a1 a2 a3 a4 a5 a6 q.1 (numR (B 7) q.2.1 q.2.2)
def jm6 (B : Nat→Nat) (a1 a2 a3 a4 a5 : Nat) (q : NR) : MG × Nat:=jm7 B a1 a2 a3 a4 a5 q.1 (numR (B 6) q.2.1 q.2.2)
def jm5 (B : Nat→Nat) (a1 a2 a3 a4 : Nat) (q : NR) : MG × Nat:=jm6 B a1 a2 a3 a4 q.1 (numR (B 5) q.2.1 q.2.2)
def jm4 (B : Nat→Nat) (a1 a2 a3 : Nat) (q : NR) : MG × Nat:=jm5 B a1 a2 a3 q.1 (numR (B 4) q.2.1 q.2.2)
def jm3 (B : Nat→Nat) (a1 a2 : Nat) (q : NR) : MG × Nat:=jm4 B a1 a2 q.1 (numR (B 3) q.2.1 q.2.2)
def jm2 (B : Nat→Nat) (a1 : Nat) (q : NR) : MG × Nat:=jm3 B a1 q.1 (numR (B 2) q.2.1 q.2.2)
def jm1 (B : Nat→Nat) (q : NR) : MG × Nat:=jm2 B q.1 (numR (B 1) q.2.1 q.2.2)
def jM (B : Nat→Nat) (l : List Nat) : MG × Nat:=jm1 B (numR (B 0) l 0)
def wideB (B : Nat→Nat) : Prop:=9≤B 0∧7≤B 1∧6≤B 2∧6≤B 3∧1099511627776≤B 4∧1099511627776≤B 5∧1099511627776≤B 6∧1099511627776≤B 7∧1≤B 8∧4≤B 9∧1≤B 10∧7≤B 11∧255≤B 12∧1099511627776≤B 13∧1099511627776≤B 14∧7≤B 15
theorem jM_put {B : Nat→Nat} (hB : wideB B) {m : MG} (h : rightM m = true) : jM B (bodyM m) = (m,0):=by
 have F:=rightM_facts h
 obtain ⟨b0,b1,b2,b3,b4,b5,b6,b7,b8,b9,b10,b11,b12,b13,b14,b15⟩:=hB
 have k1:=F.k1;have k9:=F.k9;have g0:=F.g0;have g7:=F.g7;have f0:=F.f0;have f6:=F.f6;have t0:=F.t0;have t6:=F.t6
 have te:=F.term;have ix:=F.idx;have lt:=F.lterm;have co:=F.com;have ma:=F.mark;have fl:=F.floor;have e4:=F.es4;have dl:=F.d
 have v0:=F.v0;have v7:=F.v7;have c0:=F.c0;have c255:=F.c255
 have hok : (if m.ok then 1 else 0 : Nat)≤1:=by split <;> omega
 have e : bodyM m = num7 m.kind.toNat ++ (num7 m.grp.toNat ++ (num7 m.frm.toNat ++ (num7 m.to.toNat ++ (num7 m.term.toNat ++ (num7 m.idx.toNat ++ (num7 m.lterm.toNat ++ (num7 m.com.toNat ++ (num7 (if m.ok then 1 else 0) ++ (num7 m.es.length ++ (esB m.es ++ (midM m ++ (num7 m.d.length ++ m.d ++ tailM m)))))))))))):=by
  unfold bodyM headM putS
  simp only [List.flatMap_cons,List.flatMap_nil,List.append_assoc,List.append_nil]
 rw [e]
 unfold jM
 rw [numR_num7 _ (by omega) (by omega)];unfold jm1;simp only
 rw [numR_num7 _ (by omega) (by omega)];unfold jm2;simp only
 rw [numR_num7 _ (by omega) (by omega)];unfold jm3;simp only
 rw [numR_num7 _ (by omega) (by omega)];unfold jm4;simp only
 rw [numR_num7 _ (by omega) (by omega)];unfold jm5;simp only
 rw [numR_num7 _ (by omega) (by omega)];unfold jm6;simp only
 rw [numR_num7 _ (by omega) (by omega)];unfold jm7;simp only
 rw [numR_num7 _ (by omega) (by omega)];unfold jm8;simp only
 rw [numR_num7 _ (by omega) (by omega)];unfold jm9;simp only
 rw [numR_num7 _ (by omega) (by omega)];unfold jm10;simp only
 rw [jE_put m.es [] _ (entsR_each F.es)];unfold jm11;simp only
 have hmid : jm12 B m.kind.toNat m.grp.toNat m.frm.toNat m.to.toNat m.term.toNat m.idx.toNat m.lterm.toNat m.com.toNat (if m.ok then 1 else 0) ([] ++ m.es) (numR (B 10) (midM m ++ (num7 m.d.length ++ m.d ++ tailM m)) 0)
   = jm14 B m.kind.toNat m.grp.toNat m.frm.toNat m.to.toNat m.term.toNat m.idx.toNat m.lterm.toNat m.com.toNat (if m.ok then 1 else 0) ([] ++ m.es) m.bi.toNat m.bt.toNat m.bc m.bd (lumpR 65535 (num7 m.d.length ++ m.d ++ tailM m) 0):=by
  by_cases hk : m.kind = 7
  ·have hb : baseRight m.bi m.bt m.bc m.bd = true:=F.base.resolve_left (by simp [hk])
   have e1 : midM m ++ (num7 m.d.length ++ m.d ++ tailM m) = num7 1 ++ (putB m.bi m.bt m.bc m.bd ++ (num7 m.d.length ++ m.d ++ tailM m)):=by
    unfold midM;rw [if_pos hk,show num7 1 = [1] by rw [num7,if_pos (by decide)]];rfl
   rw [e1,numR_num7 _ (by omega) (by omega)]
   unfold jm12 jm13
   simp only [if_true]
   rw [readB_putB b15 hb]
  ·obtain ⟨z1,z2,z3,z4⟩:=only_base F.only hk
   have e1 : midM m ++ (num7 m.d.length ++ m.d ++ tailM m) = num7 0 ++ (num7 m.d.length ++ m.d ++ tailM m):=by
    unfold midM;rw [if_neg hk,show num7 0 = [0] by rw [num7,if_pos (by decide)]]
   rw [e1,numR_num7 _ (by omega) (by omega)]
   unfold jm12 jm13
   simp only [show ((0 : Nat) = 1) = False by simp,if_false]
   rw [z1,z2,z3,z4]
   rfl
 rw [hmid]
 rw [lumpR_lump _ _ (by omega) (by omega)];unfold jm14;simp only
 have e2 : tailM m = num7 m.vol.toNat ++ (num7 m.chk.toNat ++ (num7 m.mark.toNat ++ (num7 m.floor.toNat ++ []))):=by
  unfold tailM putS
  simp only [List.flatMap_cons,List.flatMap_nil,List.append_nil]
 rw [e2]
 rw [numR_num7 _ (by omega) (by omega)];unfold jm15;simp only
 rw [numR_num7 _ (by omega) (by omega)];unfold jm16;simp only
 rw [numR_num7 _ (by omega) (by omega)];unfold jm17;simp only
 rw [numR_num7 _ (by omega) (by omega)];unfold jFin;simp only
 have hb0 : 0≤m.bi∧0≤m.bt:=by
  by_cases hk : m.kind = 7
  ·have hb : baseRight m.bi m.bt m.bc m.bd = true:=F.base.resolve_left (by simp [hk])
   obtain ⟨h1,h2,h3,h4,h5,h6⟩:=baseRight_facts hb
   exact ⟨h1,h3⟩
  ·obtain ⟨z1,z2,z3,z4⟩:=only_base F.only hk
   rw [z1,z2];exact ⟨Int.le_refl _,Int.le_refl _⟩
 rw [Int.toNat_of_nonneg (by omega),Int.toNat_of_nonneg g0,Int.toNat_of_nonneg f0,Int.toNat_of_nonneg t0,Int.toNat_of_nonneg te.1,Int.toNat_of_nonneg ix.1,Int.toNat_of_nonneg lt.1,Int.toNat_of_nonneg co.1,Int.toNat_of_nonneg hb0.1,Int.toNat_of_nonneg hb0.2,Int.toNat_of_nonneg v0,Int.toNat_of_nonneg c0,Int.toNat_of_nonneg ma.1,Int.toNat_of_nonneg fl.1]
 have hokd : decide ((if m.ok = true then 1 else 0 : Nat) = 1) = m.ok:=by cases m.ok <;> rfl
 rw [hokd,List.nil_append]
def readM (B : Nat→Nat) (l : List Nat) : MG × Int :=
 if (openB l).2 = false then (zeroM,24) else if rightM (jM B (openB l).1).1 = true∧sealB (bodyM (jM B (openB l).1).1) = l then ((jM B (openB l).1).1,0) else (zeroM,20)
theorem readM_ok {B : Nat→Nat} (hB : wideB B) {m : MG} (h : rightM m = true) : readM B (sealB (bodyM m)) = (m,0):=by
 unfold readM
 rw [open_seal]
 simp only [jM_put hB h]
 rw [if_neg (by simp),if_pos (by simp [h])]
theorem readM_agree {B B' : Nat→Nat} (hB : wideB B) (hB' : wideB B') (l : List Nat) : readM B l = readM B' l:=by
 by_cases h1 : (openB l).2 = false
 ·unfold readM;rw [if_pos h1,if_pos h1]
 ·by_cases h2 : rightM (jM B (openB l).1).1 = true∧sealB (bodyM (jM B (openB l).1).1) = l
  ·rw [← h2.2,readM_ok hB h2.1,readM_ok hB' h2.1]
  ·by_cases h3 : rightM (jM B' (openB l).1).1 = true∧sealB (bodyM (jM B' (openB l).1).1) = l
   ·rw [← h3.2,readM_ok hB h3.1,readM_ok hB' h3.1]
   ·unfold readM;rw [if_neg h1,if_neg h1,if_neg h2,if_neg h3]

end Go.Abs

namespace Go.Abs
open Go Go.Proofs
set_option maxRecDepth 100000
set_option linter.unusedSimpArgs false
set_option maxHeartbeats 8000000

def hasB (k : Int) : ByteArray :=
 if k = 1∨k = 3 then ⟨#[116,105]⟩ else if k = 2∨k = 4 then ⟨#[116,111]⟩ else if k = 5 then ⟨#[116,105,99,101]⟩ else if k = 6 then ⟨#[116,111,120]⟩ else if k = 7 then ⟨#[116,98]⟩ else if k = 8 then ⟨#[100]⟩ else if k = 9 then ⟨#[109]⟩ else ⟨#[]⟩
theorem hasB_at (k : Int) (i : Nat) : (hasB k).data[i]? = ((hasL k)[i]?).map UInt8.ofNat:=by
 unfold hasB hasL
 repeat' split
 all_goals (rcases i with _ | _ | _ | _ | i <;> simp)
theorem msg_has_con (k : Int) : Con Tryz.prog 68 [I k] [] (.c (.v (.string (hasB k)))) []:=by
 refine C_msg_has nl nl ?_
 simp only [cz,A_msg_has,argL,objL,List.length_nil,zX]
 refine aR 16 ?_
 refine aR 64 ?_
 refine aR 112 ?_
 refine aw_cond _ rfl trivial (fun ht=>?_) (fun hf=>?_)
 ·skip
  try simp at ht
  simp only [zX]
  have hh : hasB k = ⟨#[116,105]⟩:=by unfold hasB;simp [ht]
  rw [hh]
  refine aw_cond _ rfl trivial (fun ht=>?_) (fun hf=>by simp [ht] at hf)
  simp only [zX]
  refine aR 176 ?_
  exact Fin.scalar (.inr rfl) rfl trivial rfl trivial
 try simp at hf
 have n1:=hf
 refine aR 224 ?_
 refine aw_cond _ rfl trivial (fun ht=>?_) (fun hf=>?_)
 ·skip
  try simp at ht
  simp only [zX]
  have hh : hasB k = ⟨#[116,105]⟩:=by unfold hasB;simp [ht]
  rw [hh]
  refine aR 288 ?_
  exact Fin.scalar (.inr rfl) rfl trivial rfl trivial
 try simp at hf
 simp only [zX]
 have n3:=hf
 refine aR 336 ?_
 refine aw_cond _ rfl trivial (fun ht=>?_) (fun hf=>?_)
 ·skip
  try simp at ht
  simp only [zX]
  have hh : hasB k = ⟨#[116,111]⟩:=by unfold hasB;simp [ht]
  rw [hh]
  refine aw_cond _ rfl trivial (fun ht=>?_) (fun hf=>by simp [ht] at hf)
  simp only [zX]
  refine aR 400 ?_
  exact Fin.scalar (.inr rfl) rfl trivial rfl trivial
 try simp at hf
 have n2:=hf
 refine aR 448 ?_
 refine aw_cond _ rfl trivial (fun ht=>?_) (fun hf=>?_)
 ·skip
  try simp at ht
  simp only [zX]
  have hh : hasB k = ⟨#[116,111]⟩:=by unfold hasB;simp [ht]
  rw [hh]
  refine aR 512 ?_
  exact Fin.scalar (.inr rfl) rfl trivial rfl trivial
 try simp at hf
 simp only [zX]
 have n4:=hf
 refine aR 560 ?_
 refine aw_cond _ rfl trivial (fun ht=>?_) (fun hf=>?_)
 ·skip
  try simp at ht
  simp only [zX]
  have hh : hasB k = ⟨#[116,105,99,101]⟩:=by unfold hasB;simp [ht]
  rw [hh]
  refine aR 624 ?_
  exact Fin.scalar (.inr rfl) rfl trivial rfl trivial
 try simp at hf
 simp only [zX]
 have n5:=hf
 refine aR 672 ?_
 refine aw_cond _ rfl trivial (fun ht=>?_) (fun hf=>?_)
 ·skip
  try simp at ht
  simp only [zX]
  have hh : hasB k = ⟨#[116,111,120]⟩:=by unfold hasB;simp [ht]
  rw [hh]
  refine aR 736 ?_
  exact Fin.scalar (.inr rfl) rfl trivial rfl trivial
 try simp at hf
 simp only [zX]
 have n6:=hf
 refine aR 784 ?_
 refine aw_cond _ rfl trivial (fun ht=>?_) (fun hf=>?_)
 ·skip
  try simp at ht
  simp only [zX]
  have hh : hasB k = ⟨#[116,98]⟩:=by unfold hasB;simp [ht]
  rw [hh]
  refine aR 848 ?_
  exact Fin.scalar (.inr rfl) rfl trivial rfl trivial
 try simp at hf
 simp only [zX]
 have n7:=hf
 refine aR 896 ?_
 refine aw_cond _ rfl trivial (fun ht=>?_) (fun hf=>?_)
 ·skip
  try simp at ht
  simp only [zX]
  have hh : hasB k = ⟨#[100]⟩:=by unfold hasB;simp [ht]
  rw [hh]
  refine aR 960 ?_
  exact Fin.scalar (.inr rfl) rfl trivial rfl trivial
 try simp at hf
 simp only [zX]
 have n8:=hf
 refine aR 1008 ?_
 refine aw_cond _ rfl trivial (fun ht=>?_) (fun hf=>?_)
 ·skip
  try simp at ht
  simp only [zX]
  have hh : hasB k = ⟨#[109]⟩:=by unfold hasB;simp [ht]
  rw [hh]
  refine aR 1072 ?_
  exact Fin.scalar (.inr rfl) rfl trivial rfl trivial
 try simp at hf
 simp only [zX]
 have n9:=hf
 have hh : hasB k = ⟨#[]⟩:=by unfold hasB;simp [n1,n2,n3,n4,n5,n6,n7,n8,n9]
 rw [hh]
 refine aR 1120 ?_
 exact Fin.scalar (.inr rfl) rfl trivial rfl trivial

theorem msg_within_con (most : Int) (l : List Int) (hl : l.length≤1000000) : Con Tryz.prog 36 [I most,.c (.sl (l.map nrow))] [] (B (l.all fun n=>decide (0≤n) && decide (n≤most))) []:=by
 refine C_msg_within nl nl ?_
 simp only [cz,A_msg_within,argL,objL,List.length_nil,Nat.zero_add,zX]
 refine aR 16 ?_
 refine aS 64 (fun Q hQ=>by simp (disch:=intros;contradiction) only [zS,zW,simprocAttr];exact hQ) ?_
 refine aw_loopK (X:={ i : Nat // i≤l.length∧(l.take i).all (fun n=>decide (0≤n) && decide (n≤most)) = true }) [0,7,8] (fun i=>[(9,I i.1)]) [] (fun i=>[]) (fun i=>l.length - i.1) (⟨0,by omega,by simp⟩) ?_ ?_
 ·skip
  simp only [keepS,keepE,lk_cons,List.cons_append,List.nil_append,simprocAttr]
  refine Le.lit [] [] _ _ ?_ ?_ ?_ ?_
  ·simp only [zL,simprocAttr]
  ·simp only [zL,simprocAttr]
  ·simp [rlook]
  ·(simp;done)
 rintro ⟨i,hi,ha⟩
 simp only [keepS,keepE,lk_cons,List.cons_append,List.nil_append,simprocAttr]
 simp only [zX]
 refine aR 144 ?_
 refine aw_cond _ rfl trivial (fun ht=>?_) (fun hf=>?_)
 ·skip
  try simp at ht
  simp only [zX]
  have hi' : i < l.length:=by omega
  refine aS 192 (fun Q hQ=>by simp (disch:=first | (intros;contradiction) | omega | (simp only [zN];omega)) only [zS,zW,nrow,simprocAttr];repeat refine ⟨by (omega),?_⟩;exact hQ) ?_
  refine aS 272 (fun Q hQ=>by simp (disch:=intros;contradiction) only [zS,simprocAttr];repeat refine ⟨by ((simp;done)),?_⟩;exact hQ) ?_
  refine aw_cond _ rfl trivial (fun ht=>?_) (fun hf=>?_)
  ·skip
   try simp at ht
   simp only [zX]
   refine aR 416 ?_
   refine Fin.b (.inr rfl) rfl trivial ?_
   symm;rw [List.all_eq_false]
   exact ⟨l[i],List.getElem_mem hi',by simp;omega⟩
  try simp at hf
  simp only [zX]
  have ha' : (l.take (i + 1)).all (fun n=>decide (0≤n) && decide (n≤most)) = true:=by
   rw [take_one _ _ hi',List.all_append,ha];simp;omega
  refine aS 464 (fun Q hQ=>by simp (disch:=first | (intros;contradiction) | omega | (simp only [zN];omega)) only [zS,zW,simprocAttr];exact hQ) ?_
  refine ⟨⟨i + 1,by omega,ha'⟩,?_,by first | omega | (simp only;omega)⟩
  refine Le.lit [] [] _ _ ?_ ?_ ?_ ?_
  ·simp only [zL,simprocAttr]
   all_goals (try ((repeat' (rfl))))
  ·simp only [zL,simprocAttr]
  ·simp [rlook]
  ·(simp;done)
 try simp at hf
 simp only [zX,↓reduceIte]
 obtain rfl : i = l.length:=by omega
 rw [List.take_length] at ha
 rw [ha]
 refine aR 528 ?_
 exact Fin.scalar (.inr rfl) rfl trivial rfl trivial

theorem msg_entries_con (l : List EN) (hl : l.length≤1000000) : Con Tryz.prog 37 [.c (.sl (l.map erow))] [] (B (entsR l && decide (l.length≤4))) []:=by
 refine C_msg_entries nl nl ?_
 simp only [cz,A_msg_entries,argL,objL,List.length_nil,zX]
 refine aR 16 ?_
 refine aS 64 (fun Q hQ=>by simp (disch:=intros;contradiction) only [zS,zW,simprocAttr];exact hQ) ?_
 refine aw_loopK (X:={ i : Nat // i≤l.length∧∀ j,j < i→entP l j }) [0,5,6] (fun i=>[(7,I i.1)]) [] (fun i=>[]) (fun i=>l.length - i.1) (⟨0,by omega,by omega⟩) ?_ ?_
 ·skip
  simp only [keepS,keepE,lk_cons,List.cons_append,List.nil_append,simprocAttr]
  refine Le.lit [] [] _ _ ?_ ?_ ?_ ?_
  ·simp only [zL,simprocAttr]
  ·simp only [zL,simprocAttr]
  ·simp [rlook]
  ·(simp;done)
 rintro ⟨i,hi,ha⟩
 simp only [keepS,keepE,lk_cons,List.cons_append,List.nil_append,simprocAttr]
 simp only [zX]
 refine aR 144 ?_
 refine aw_cond _ rfl trivial (fun ht=>?_) (fun hf=>?_)
 ·skip
  try simp at ht
  simp only [zX]
  have hi' : i < l.length:=by omega
  have hno : ¬ entP l i→(entsR l && decide (l.length≤4)) = false:=by
   intro h
   have : entsR l = false:=by unfold entsR;exact decide_eq_false fun hh=>h (hh i hi')
   rw [this];rfl
  obtain ⟨w,hw⟩ : ∃ w,l[i] = w:=⟨_,rfl⟩
  have cR:=entry_Right_con w.i w.t w.k w.d
  have hnext : entP l i→∀ j,j < i + 1→entP l j:=fun h j hj=>by
   rcases Nat.lt_succ_iff_lt_or_eq.1 hj with h1 | rfl
   ·exact ha j h1
   ·exact h
  refine aS 192 (fun Q hQ=>by simp (disch:=first | (intros;contradiction) | omega | (simp only [zN];omega)) only [zS,zW,erow,hw,simprocAttr];repeat refine ⟨by (omega),?_⟩;exact hQ) ?_
  by_cases h0 : i = 0
  ·skip
   subst h0
   refine aBD 320 ?_
   refine rC [] (cR) ?_
   refine RG.go fun Q hQ=>?_
   simp (disch:=first | (intros;contradiction) | omega | (simp only [zN];omega)) only [zS,zW,erow,simprocAttr]
   repeat refine ⟨by ((simp;done)),?_⟩
   refine hQ (RG.nil ⟨by decide +kernel,?_⟩)
   simp only [zX]
   refine aw_cond _ rfl trivial (fun ht=>?_) (fun hf=>?_)
   ·skip
    try simp at ht
    simp only [zX]
    rw [hno (fun h=>by have:=(h hi').1;rw [hw] at this;simp [this] at ht)]
    refine aR 656 ?_
    exact Fin.scalar (.inr rfl) rfl trivial rfl trivial
   try simp at hf
   simp only [zX]
   refine aS 704 (fun Q hQ=>by simp (disch:=first | (intros;contradiction) | omega | (simp only [zN];omega)) only [zS,zW,simprocAttr];exact hQ) ?_
   refine ⟨⟨1,by omega,hnext fun _=>⟨by rw [hw];simpa using hf,by omega⟩⟩,?_,by first | omega | (simp only;omega)⟩
   refine Le.lit [] [] _ _ ?_ ?_ ?_ ?_
   ·simp only [zL,simprocAttr]
   ·simp only [zL]
   ·simp [rlook]
   ·(simp;done)
  have hd0 : decide ((i : Int) > 0) = true:=by simp;omega
  have hi1 : i - 1 < l.length:=by omega
  have hii : (i : Int) - 1 = ((i - 1 : Nat) : Int):=by omega
  have hP:=(ha (i - 1) (by omega) hi1).1
  obtain ⟨u,hu⟩ : ∃ u,l[i - 1] = u:=⟨_,rfl⟩
  rw [hu] at hP
  obtain ⟨p1,p2,p3,p4,p5,p6,p7⟩:=entryRight_facts hP
  have hwr : IntKind.i64.wrap (u.i + 1) = u.i + 1:=w64 _ (by omega) (by omega)
  cases hr : entryRight w.i w.t w.k w.d
  ·skip
   rw [hr] at cR
   refine aBD 768 ?_
   refine rC [] (cR) ?_
   refine aEDs (fun Q hQ=>by simp (disch:=first | (intros;contradiction) | omega | (simp only [zN];omega)) only [zS,zW,erow,hd0,hii,hu,hwr,simprocAttr];exact hQ) ?_
   refine aT ?_
   rw [hno (fun h=>by have:=(h hi').1;rw [hw] at this;simp [this] at hr)]
   refine aR 1104 ?_
   exact Fin.scalar (.inr rfl) rfl trivial rfl trivial
  rw [hr] at cR
  refine aBD 1152 ?_
  refine rC [] (cR) ?_
  refine RG.go fun Q hQ=>?_
  simp (disch:=first | (intros;contradiction) | omega | (simp only [zN];omega)) only [zS,zW,erow,hd0,hii,hu,hwr,simprocAttr]
  refine ⟨⟨by omega,by omega⟩,hQ (RG.nil ⟨by decide +kernel,?_⟩)⟩
  simp only [zX]
  refine aw_cond _ rfl trivial (fun ht=>?_) (fun hf=>?_)
  ·skip
   try simp at ht
   simp only [zX]
   rw [hno (fun h=>by have:=(h hi').2 (by omega);rw [hw,hu] at this;exact absurd this (by simpa using ht))]
   refine aR 1488 ?_
   exact Fin.scalar (.inr rfl) rfl trivial rfl trivial
  try simp at hf
  simp only [zX]
  refine aS 1536 (fun Q hQ=>by simp (disch:=first | (intros;contradiction) | omega | (simp only [zN];omega)) only [zS,zW,simprocAttr];exact hQ) ?_
  refine ⟨⟨i + 1,by omega,hnext fun _=>⟨by rw [hw];exact hr,fun _=>by rw [hw,hu];simpa using hf⟩⟩,?_,by first | omega | (simp only;omega)⟩
  refine Le.lit [] [] _ _ ?_ ?_ ?_ ?_
  ·simp only [zL,simprocAttr]
   all_goals (try ((repeat' (rfl))))
  ·simp only [zL]
  ·simp [rlook]
  ·(simp;done)
 try simp at hf
 simp only [zX,↓reduceIte]
 obtain rfl : i = l.length:=by omega
 have hE : entsR l = true:=by unfold entsR;exact decide_eq_true ha
 rw [hE]
 refine aw_reg 1600 (RG.go fun Q hQ=>?_)
 simp (disch:=intros;contradiction) only [zS,zW,simprocAttr]
 refine hQ (RG.nil ?_)
 simp only [zX]
 refine Fin.b (.inr rfl) rfl trivial ?_
 simp;omega

theorem msg_Same_con (a b : MG) (ha : Mok a) (hb : Mok b) : Con Tryz.prog 14 [.agg (msgC a),.agg (msgC b)] [] (B (decide (a = b))) []:=by
 obtain ⟨k,g,f,o,t,x,lt,c,ok,es,bi,bt,bc,bd,d,v,ch,mk,fl⟩:=a
 obtain ⟨k',g',f',o',t',x',lt',c',ok',es',bi',bt',bc',bd',d',v',ch',mk',fl'⟩:=b
 obtain ⟨a1,a2,a3,a4,a5,a6,a7⟩:=ha
 obtain ⟨b1,b2,b3,b4,b5,b6,b7⟩:=hb
 simp only at a1 a2 a3 a4 a5 a6 a7 b1 b2 b3 b4 b5 b6 b7
 refine C_msg_Same nl nl ?_
 simp only [cz,A_msg_Same,argL,objL,List.length_nil,Nat.zero_add,zX]
 refine aS 16 (fun Q hQ=>by simp (disch:=intros;contradiction) only [zS,msgC,simprocAttr];exact hQ) ?_
 refine aw_reg 96 (RG.go fun Q hQ=>?_)
 simp (disch:=intros;contradiction) only [zS,zW,simprocAttr]
 repeat refine ⟨by ((simp;done)),?_⟩
 refine hQ (RG.nil ?_)
 simp only [zX]
 refine aw_cond _ rfl trivial (fun ht=>?_) (fun hf=>?_)
 ·skip
  try simp at ht
  simp only [zX]
  refine aR 1248 ?_
  refine Fin.b (.inr rfl) rfl trivial ?_
  symm;apply decide_eq_false;intro h;cases h;simp at ht
 try simp at hf
 simp only [zX]
 obtain ⟨⟨⟨⟨⟨⟨⟨⟨⟨rfl,rfl⟩,rfl⟩,rfl⟩,rfl⟩,rfl⟩,rfl⟩,rfl⟩,rfl⟩,hlen⟩:=hf
 have hlen : es.length = es'.length:=by omega
 refine aS 1296 (fun Q hQ=>by simp (disch:=intros;contradiction) only [zS,zW,simprocAttr];exact hQ) ?_
 refine aw_loopK (X:={ i : Nat // i≤es.length∧es.take i = es'.take i }) [2,3,78,79] (fun i=>[(80,I i.1)]) [16,32] (fun i=>[]) (fun i=>es.length - i.1) (⟨0,by omega,by simp⟩) ?_ ?_
 ·skip
  simp only [keepS,keepE,Option.getD_some,lk_cons,lkE_cons,List.cons_append,List.nil_append,simprocAttr]
  refine Le.lit [] [] _ _ ?_ ?_ ?_ ?_
  ·simp only [zL,simprocAttr]
  ·simp only [zL,simprocAttr]
  ·simp [rlook]
  ·(simp;done)
 rintro ⟨i,hi,hs⟩
 simp only [keepS,keepE,Option.getD_some,lk_cons,lkE_cons,List.cons_append,List.nil_append,simprocAttr]
 simp only [zX]
 refine aR 1392 ?_
 refine aw_cond _ rfl trivial (fun ht=>?_) (fun hf=>?_)
 ·skip
  try simp at ht
  simp only [zX]
  have hi' : i < es.length:=by omega
  have hi2 : i < es'.length:=by omega
  obtain ⟨w,hw⟩ : ∃ w,es[i] = w:=⟨_,rfl⟩
  obtain ⟨u,hu⟩ : ∃ u,es'[i] = u:=⟨_,rfl⟩
  have cS:=entry_Same_con w.i w.t w.k w.d u.i u.t u.k u.d (by rw [← hw];exact a5 _ (List.getElem_mem hi')) (by rw [← hu];exact b5 _ (List.getElem_mem hi2))
  refine aS 1440 (fun Q hQ=>by simp (disch:=first | (intros;contradiction) | omega | (simp only [zN];omega)) only [zS,zW,erow,hw,simprocAttr];repeat refine ⟨by (omega),?_⟩;exact hQ) ?_
  refine aBDs 1568 (fun Q hQ=>by simp (disch:=first | (intros;contradiction) | omega | (simp only [zN];omega)) only [zS,zW,erow,hu,simprocAttr];repeat refine ⟨by (omega),?_⟩;exact hQ) ?_
  refine rC [] (cS) ?_
  refine aED ?_
  refine aw_cond _ rfl trivial (fun ht=>?_) (fun hf=>?_)
  ·skip
   try simp at ht
   simp only [zX]
   have hne : es≠es':=fun h=>by
    subst h
    have hwu : w = u:=hw.symm.trans hu
    subst hwu
    simp [sameE] at ht
   refine aR 1728 ?_
   refine Fin.b (.inr rfl) rfl trivial ?_
   symm;apply decide_eq_false;intro h;injection h;contradiction
  try simp at hf
  simp only [zX]
  have hwu : w = u:=by
   rw [en_eq]
   unfold sameE at hf
   simp at hf
   exact ⟨hf.1.1.1,hf.1.1.2,hf.1.2,hf.2⟩
  have hs' : es.take (i + 1) = es'.take (i + 1):=by rw [take_one _ _ hi',take_one _ _ hi2,hs,hw,hu,hwu]
  refine aS 1776 (fun Q hQ=>by simp (disch:=first | (intros;contradiction) | omega | (simp only [zN];omega)) only [zS,zW,simprocAttr];exact hQ) ?_
  refine ⟨⟨i + 1,by omega,hs'⟩,?_,by first | omega | (simp only;omega)⟩
  refine Le.lit [] [] _ _ ?_ ?_ ?_ ?_
  ·simp only [zL,simprocAttr]
   all_goals (try ((repeat' (rfl))))
  ·simp only [zL,simprocAttr]
  ·simp [rlook]
  ·(simp;done)
 try simp at hf
 simp only [zX,↓reduceIte]
 obtain rfl : i = es.length:=by omega
 rw [List.take_length,hlen,List.take_length] at hs
 subst hs
 have cB:=entry_SameBase_con bi bt bc bd bi' bt' bc' bd' (by omega) a6 b6
 have cE:=bytes_Equal_con d d' a7 b7
 refine aB 1840 ?_
 refine rC [] (cB) ?_
 refine aM ?_
 refine rG _ _ (cE) ?_
 refine aE ?_
 refine Fin.b (.inr rfl) rfl trivial ?_
 unfold sameB
 rw [Bool.eq_iff_iff]
 simp [and_assoc]

end Go.Abs

