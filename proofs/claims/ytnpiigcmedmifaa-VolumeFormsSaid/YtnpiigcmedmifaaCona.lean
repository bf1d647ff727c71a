/- What the functions that the law comes to do, part 1. No condition. -/
import Derived.Test.YtnpiigcmedmifaaCode
set_option linter.unusedVariables false
set_option linter.unusedSimpArgs false
set_option linter.unnecessarySimpa false
namespace Go.Abs
open Go Go.Proofs
set_option maxRecDepth 100000
set_option linter.unusedSimpArgs false

theorem slices_Clone_byte_byte_con (rows : List (List C)) (hd : isDRows rows) (h1 : ∀ r ∈ rows, r.length = 1) (hb : rows.length ≤ 140737488355328) : Con Try.prog 77 [.c (.sl rows)] [] (.c (.osl 0)) [.arr 5 1 rows false] := by
  by_cases hr : rows = []
  · subst hr
    refine Con.split1 ?_ fun b off cap => ?_
    · skip
      refine C_slices_Clone_byte_byte (Nat.le_of_ble_eq_true rfl) (Nat.le_of_ble_eq_true rfl) ?_
      simp only [A_slices_Clone_byte_byte, argL, objL, List.length_nil, x_seq]
      refine aw_reg 16 (RG.go fun Q hQ => ?_)
      simp only [RX, eff, ev_k, setS_cons, setS_nil, AOp.isCall, setD, setEs, presOf, AOp.needs, idsOf, AOp.rds, List.map_nil, List.nil_append, true_and, Bool.false_eq_true, reduceCtorEq, Nat.reduceAdd, ↓reduceIte]
      refine hQ _ _ _ _ _ (RG.nil ?_)
      simp only [x_seq, x_tn]
      refine aw_reg 160 (RG.go fun Q hQ => ?_)
      simp only [RX, eff, ev_t, lk_cons, setS_cons, setS_nil, AOp.isCall, setD, setEs, presOf, AOp.needs, SV.one?, SV.pre, idsOf, AOp.rds, AOp.ops, SV.ids, C.ids0, List.map_nil, List.nil_append, true_and, and_self, Bool.false_eq_true, Bool.not_false, reduceCtorEq, Nat.reduceAdd, Nat.reduceEqDiff, ↓reduceIte, List.append_nil]
      refine hQ _ _ _ _ _ (RG.nil ?_)
      simp only [x_tn]
      refine aw_cond _ rfl trivial (fun ht => ?_) (fun hf => by cases hf)
      simp only [x_seq]
      refine aw_reg 320 (RG.go fun Q hQ => ?_)
      simp only [RX, eff, ev_k, setS_cons, AOp.isCall, setD, setEs, presOf, AOp.needs, idsOf, AOp.rds, List.map_nil, List.nil_append, true_and, Bool.false_eq_true, reduceCtorEq, Nat.reduceAdd, ↓reduceIte]
      refine hQ _ _ _ _ _ (RG.nil ?_)
      simp only [x_ret, x_tn, x_tr]
      exact Fin.ownNil (.inr rfl) rfl trivial (by decide)
    · skip
      refine C_slices_Clone_byte_byte (Nat.le_of_ble_eq_true rfl) (Nat.le_of_ble_eq_true rfl) ?_
      simp only [A_slices_Clone_byte_byte, argL, objL, List.length_nil, x_seq]
      refine aw_reg 16 (RG.go fun Q hQ => ?_)
      simp only [RX, eff, ev_k, setS_cons, setS_nil, AOp.isCall, setD, setEs, presOf, AOp.needs, idsOf, AOp.rds, List.map_nil, List.nil_append, true_and, Bool.false_eq_true, reduceCtorEq, Nat.reduceAdd, ↓reduceIte]
      refine hQ _ _ _ _ _ (RG.nil ?_)
      simp only [x_seq, x_tn]
      refine aw_reg 160 (RG.go fun Q hQ => ?_)
      simp only [RX, eff, ev_t, lk_cons, setS_cons, setS_nil, AOp.isCall, setD, setEs, presOf, AOp.needs, SV.one?, SV.pre, idsOf, AOp.rds, AOp.ops, SV.ids, C.ids0, List.map_nil, List.nil_append, true_and, and_self, Bool.false_eq_true, reduceCtorEq, Nat.reduceAdd, Nat.reduceEqDiff, ↓reduceIte, List.append_nil]
      refine hQ _ _ _ _ _ (RG.nil ?_)
      simp only [x_tn]
      refine aw_cond _ rfl trivial (fun ht => by cases ht) (fun hf => ?_)
      simp only [x_seq, x_skip, x_tn]
      refine aw_reg 320 (RG.go fun Q hQ => ?_)
      simp only [RX, eff, Nat.reduceMul, ev_t, lk_cons, lkE_cons, lkE_nil, setS_cons, setS_nil, setE_cons, setE_nil, AOp.isCall, setD, setEs, presOf, AOp.needs, SV.one?, SV.pre, idsOf, AOp.rds, AOp.ops, SV.ids, C.ids0, rowsOf, srcOf, bSRows, List.length_nil, Option.map_some, List.map_cons, List.map_nil, List.nil_append, List.cons_append, and_true, true_and, and_self, Bool.false_eq_true, reduceCtorEq, Nat.reduceAdd, Nat.reduceEqDiff, Nat.reduceLeDiff, ↓reduceIte, List.append_nil, Nat.add_zero]
      refine ⟨by simp, hQ _ _ _ _ _ (RG.nil ?_)⟩
      simp only [x_ret, x_tn]
      refine Fin.objs [] [(0, 352)] (.inr rfl) rfl trivial ?_ ?_ ?_ ?_
      · skip
        simp only [mkSt_sl, lk_cons, lkE_cons, lkE_nil, WkSV, WkSV1, WkC, WkC0, rlook, frzEs, objL, ↓reduceIte, reduceCtorEq, and_true, ne_eq, not_false_eq_true]
      · skip
        simp only [allL, lkE_cons, lkE_nil, WkEnt, rlook, frzEs, objL, isDRows, Option.some.injEq, Nat.reduceEqDiff, ↓reduceIte, reduceCtorEq, true_and, and_true, exists_eq_left', ne_eq, true_or]
        simp
      · simp [objL]
      · simp
  · skip
    refine C_slices_Clone_byte_byte (Nat.le_of_ble_eq_true rfl) (Nat.le_of_ble_eq_true rfl) ?_
    simp only [A_slices_Clone_byte_byte, argL, objL, List.length_nil, x_seq]
    refine aw_reg 16 (RG.go fun Q hQ => ?_)
    simp only [RX, eff, ev_k, setS_cons, setS_nil, AOp.isCall, setD, setEs, presOf, AOp.needs, idsOf, AOp.rds, List.map_nil, List.nil_append, true_and, Bool.false_eq_true, reduceCtorEq, Nat.reduceAdd, ↓reduceIte]
    refine hQ _ _ _ _ _ (RG.nil ?_)
    simp only [x_seq, x_tn]
    refine aw_reg 160 (RG.go fun Q hQ => ?_)
    simp only [RX, eff, ev_t, lk_cons, setS_cons, setS_nil, AOp.isCall, setD, setEs, presOf, AOp.needs, SV.one?, SV.pre, idsOf, AOp.rds, AOp.ops, SV.ids, C.ids0, List.map_nil, List.nil_append, true_and, and_self, Bool.false_eq_true, reduceCtorEq, Nat.reduceAdd, Nat.reduceEqDiff, ↓reduceIte, List.append_nil]
    refine ⟨hr, hQ _ _ _ _ _ (RG.nil ?_)⟩
    simp only [x_tn]
    refine aw_cond _ rfl trivial (fun ht => by cases ht) (fun hf => ?_)
    simp only [x_seq, x_skip, x_tn]
    refine aw_reg 320 (RG.go fun Q hQ => ?_)
    simp only [RX, eff, ev_t, lk_cons, lkE_cons, lkE_nil, setS_cons, setS_nil, setE_cons, setE_nil, AOp.isCall, setD, setEs, presOf, AOp.needs, SV.one?, SV.pre, idsOf, AOp.rds, AOp.ops, SV.ids, C.ids0, rowsOf, srcOf, bSRows, List.length_nil, Option.map_some, List.map_cons, List.map_nil, List.nil_append, List.cons_append, true_and, and_self, Bool.false_eq_true, reduceCtorEq, Nat.reduceAdd, Nat.reduceEqDiff, ↓reduceIte, Nat.zero_add, List.append_nil]
    refine ⟨⟨h1, by omega⟩, hQ _ _ _ _ _ (RG.nil ?_)⟩
    simp only [x_ret, x_tn]
    refine Fin.objs [] [(0, 352)] (.inr rfl) rfl trivial ?_ ?_ ?_ ?_
    · skip
      simp only [mkSt_sl, lk_cons, lkE_cons, lkE_nil, WkSV, WkSV1, WkC, WkC0, rlook, frzEs, objL, ↓reduceIte, reduceCtorEq, and_true, ne_eq, not_false_eq_true]
    · skip
      simp only [allL, lkE_cons, lkE_nil, WkEnt, rlook, frzEs, objL, isDRows, Option.some.injEq, Nat.reduceEqDiff, ↓reduceIte, reduceCtorEq, true_and, and_true, exists_eq_left', ne_eq, true_or]
      exact hd
    · simp [objL]
    · simp


abbrev Rd (l : List Nat) (e : Nat) : Ent := .box [.sl (l.map brow), .v (.int .i64 e)]

end Go.Abs

namespace Go.Abs
open Go Go.Proofs
set_option maxRecDepth 100000
set_option linter.unusedSimpArgs false

end Go.Abs

namespace Go.Abs
open Go Go.Proofs
set_option maxRecDepth 100000
set_option linter.unusedSimpArgs false

theorem toList_go (b : ByteArray) : ∀ (k i : Nat) (r : List UInt8), b.size - i = k → ByteArray.toList.loop b i r = r.reverse ++ b.data.toList.drop i
  | 0, i, r, h => by
    rw [ByteArray.toList.loop, if_neg (by omega), List.drop_eq_nil_of_le (by have : b.data.toList.length = b.size := rfl; omega)]; simp
  | k + 1, i, r, h => by
    have hi : i < b.size := by omega
    rw [ByteArray.toList.loop, if_pos hi, toList_go b k (i + 1) _ (by omega)]
    have hi' : i < b.data.toList.length := hi
    rw [List.drop_eq_getElem_cons hi', List.reverse_cons, List.append_assoc]
    congr 1
    have : b.get! i = b.data.toList[i] := by
      have h2 : b.get! i = b.data[i]! := rfl
      rw [h2, getElem!_pos b.data i hi]; rfl
    rw [this]; rfl

theorem ba_toList (b : ByteArray) : b.toList = b.data.toList := by
  have := toList_go b _ 0 [] rfl
  simpa [ByteArray.toList] using this

theorem rowByte_map (l : List Nat) : (l.map brow).map rowByte = l.map UInt8.ofNat := by
  rw [List.map_map]
  refine List.map_congr_left fun n _ => ?_
  simp [brow, rowByte]

theorem u8_inj {a b : Nat} (ha : a < 256) (hb : b < 256) (h : UInt8.ofNat a = UInt8.ofNat b) : a = b := by
  have := congrArg UInt8.toNat h
  simp at this
  omega

theorem map_u8_inj : ∀ {l m : List Nat}, (∀ c ∈ l, c < 256) → (∀ c ∈ m, c < 256) → l.map UInt8.ofNat = m.map UInt8.ofNat → l = m
  | [], [], _, _, _ => rfl
  | a :: l, b :: m, hl, hm, h => by
    simp only [List.map_cons, List.cons.injEq] at h
    rw [u8_inj (hl a (by simp)) (hm b (by simp)) h.1, map_u8_inj (fun c hc => hl c (by simp [hc])) (fun c hc => hm c (by simp [hc])) h.2]
  | [], _ :: _, _, _, h => by simp at h
  | _ :: _, [], _, _, h => by simp at h

theorem str_eq (l m : List Nat) (hl : ∀ c ∈ l, c < 256) (hm : ∀ c ∈ m, c < 256) :
    ((⟨((l.map brow).map rowByte).toArray⟩ : ByteArray).toList == (⟨((m.map brow).map rowByte).toArray⟩ : ByteArray).toList) = decide (l = m) := by
  rw [ba_toList, ba_toList, rowByte_map, rowByte_map]
  by_cases h : l = m
  · subst h; simp
  · have : l.map UInt8.ofNat ≠ m.map UInt8.ofNat := fun hh => h (map_u8_inj hl hm hh)
    simp [h, this]

theorem isByteRow_brow (l : List Nat) : ∀ r ∈ l.map brow, isByteRow r := by
  intro r hr
  obtain ⟨n, _, rfl⟩ := List.mem_map.1 hr
  exact ⟨n, rfl⟩

end Go.Abs

namespace Go.Abs
open Go Go.Proofs
set_option maxRecDepth 100000
set_option linter.unusedSimpArgs false
set_option maxHeartbeats 2000000

structure IT where
  b : Int
  d : List Nat
structure WR where
  s : Int
  its : List IT
structure VOL where
  id : Int
  blocks : Int
  size : Int
  per : Int
  place : List Int
  total : Int
  next : Int
  hid : Bool
  floor : Int
  pins : List Int
  ws : List WR
structure CMD where
  kind : Int
  vol : Int
  blocks : Int
  size : Int
  per : Int
  place : List Int
  total : Int
  at' : Int
  index : Int
  items : List IT

def nrow (n : Int) : List C := [.v (.int .i64 n)]
def itC (b : Int) (d : List Nat) : List C := [.v (.int .i64 b), .sl (d.map brow)]
def irow (x : IT) : List C := itC x.b x.d
def wrC (s : Int) (its : List IT) : List C := [.v (.int .i64 s), .sl (its.map irow)]
def wrow (w : WR) : List C := wrC w.s w.its
def vC (id blocks size per : Int) (place : List Int) (total next : Int) (hid : Bool) (floor : Int) (pins : List Int) (ws : List WR) : List C :=
  [.v (.int .i64 id), .v (.int .i64 blocks), .v (.int .i64 size), .v (.int .i64 per), .sl (place.map nrow), .v (.int .i64 total), .v (.int .i64 next), .v (.bool hid), .v (.int .i64 floor), .sl (pins.map nrow), .sl (ws.map wrow)]
def volC (v : VOL) : List C := vC v.id v.blocks v.size v.per v.place v.total v.next v.hid v.floor v.pins v.ws
def cC (kind vol blocks size per : Int) (place : List Int) (total at' index : Int) (items : List IT) : List C :=
  [.v (.int .i64 kind), .v (.int .i64 vol), .v (.int .i64 blocks), .v (.int .i64 size), .v (.int .i64 per), .sl (place.map nrow), .v (.int .i64 total), .v (.int .i64 at'), .v (.int .i64 index), .sl (items.map irow)]
def cmdC (c : CMD) : List C := cC c.kind c.vol c.blocks c.size c.per c.place c.total c.at' c.index c.items

theorem drows_nrow (l : List Int) : isDRows (l.map nrow) := by
  intro r hr c hc
  obtain ⟨p, _, rfl⟩ := List.mem_map.1 hr
  simp only [nrow, List.mem_singleton] at hc
  subst hc; rfl
theorem drows_irow (l : List IT) : isDRows (l.map irow) := by
  intro r hr c hc
  obtain ⟨p, _, rfl⟩ := List.mem_map.1 hr
  simp only [irow, itC, List.mem_cons, List.not_mem_nil, or_false] at hc
  rcases hc with rfl | rfl <;> rfl
theorem drows_wrow (l : List WR) : isDRows (l.map wrow) := by
  intro r hr c hc
  obtain ⟨p, _, rfl⟩ := List.mem_map.1 hr
  simp only [wrow, wrC, List.mem_cons, List.not_mem_nil, or_false] at hc
  rcases hc with rfl | rfl <;> rfl
theorem nrow_len (l : List Int) : ∀ r ∈ l.map nrow, r.length = 1 := by
  intro r hr; obtain ⟨p, _, rfl⟩ := List.mem_map.1 hr; rfl
theorem irow_len (l : List IT) : ∀ r ∈ l.map irow, r.length = 2 := by
  intro r hr; obtain ⟨p, _, rfl⟩ := List.mem_map.1 hr; rfl
theorem wrow_len (l : List WR) : ∀ r ∈ l.map wrow, r.length = 2 := by
  intro r hr; obtain ⟨p, _, rfl⟩ := List.mem_map.1 hr; rfl

def i64 (n : Int) : Prop := -9223372036854775808 ≤ n ∧ n ≤ 9223372036854775807

theorem all_succ {α : Type} {p : α → Bool} {l : List α} {i : Nat} (hi : i < l.length) : (l.take (i + 1)).all p = ((l.take i).all p && p l[i]) := by
  rw [take_one l i hi, List.all_append]; simp
theorem all_no {α : Type} {p : α → Bool} {l : List α} {i : Nat} (hi : i < l.length) (h : p l[i] = false) : l.all p = false := by
  rw [Bool.eq_false_iff]; intro ha
  have := List.all_eq_true.1 ha _ (List.getElem_mem hi)
  rw [h] at this; cases this
theorem map_get {α β : Type} (f : α → β) {l : List α} {i : Nat} (hi : i < l.length) (d : β) : ((l.map f)[((i : Int)).toNat]?).getD d = f l[i] := by
  simp [hi]
theorem wi (i n : Nat) (h : i < n) (hn : n ≤ 9223372036854775807) : IntKind.i64.wrap ((i : Int) + 1) = ((i + 1 : Nat) : Int) := by
  rw [w64 _ (by omega) (by omega)]; rfl

theorem min_if (a b : Int) : min a b = if b < a then b else a := by split <;> omega
def lenV (v : VOL) : Int := v.ws.length
def lowL (n : Int) (pins : List Int) : Int := pins.foldl min n
def lowV (v : VOL) : Int := lowL v.ws.length v.pins
def chunksN (b p : Int) : Int := (b + p - 1).tdiv p
def inR (n a b : Int) : Bool := decide (a ≤ n) && decide (n ≤ b)

theorem volume_Len_con (v : VOL) : Con Try.prog 22 [.agg (volC v)] [] (I (lenV v)) [] := by
  refine C_volume_Len (Nat.le_of_ble_eq_true rfl) (Nat.le_of_ble_eq_true rfl) ?_
  simp only [A_volume_Len, argL, objL, List.length_nil, x_seq]
  refine aw_reg 16 (RG.go fun Q hQ => ?_)
  simp only [RX, eff, ev_t, ev_k, lk_cons, lkE_nil, setS_cons, setS_nil, setE_nil, AOp.isCall, setD, setEs, presOf, AOp.needs, SV.pre, SV.cells, idsOf, AOp.rds, AOp.ops, SV.ids, List.map_cons, List.map_nil, List.nil_append, true_and, and_self, Bool.false_eq_true, reduceCtorEq, Nat.reduceAdd, Nat.reduceEqDiff, ↓reduceIte, List.append_nil, volC, vC]
  repeat refine ⟨by (first | omega | (simp; omega) | (simp; done) | exact ⟨by omega, by omega⟩ | exact ⟨by omega, by simp; omega⟩ | exact ⟨by simp; omega, by simp; omega⟩ | exact ⟨by simp, by simp; omega⟩ | (intro h; rw [h]; rfl) | (intro h; refine ⟨fun h2 => ?_, h⟩; rw [h, h2]; rfl) | (intro h; refine ⟨?_, h⟩; simp [inR] at h; omega) | (intro h; simp [inR] at h; omega) | assumption), ?_⟩
  refine hQ _ _ _ _ _ (RG.nil ?_)
  try simp only [x_seq, x_tn]
  refine aw_reg 80 (RG.go fun Q hQ => ?_)
  simp only [RX, eff, ev_t, lk_cons, lkE_cons, setS_cons, setS_nil, AOp.isCall, setD, setEs, presOf, AOp.needs, SV.one?, SV.pre, idsOf, AOp.rds, AOp.ops, SV.ids, C.ids0, rowsOf, List.getElem?_cons_zero, List.getElem?_cons_succ, Option.map_some, List.map_nil, List.nil_append, List.cons_append, true_and, and_self, Bool.false_eq_true, reduceCtorEq, Nat.reduceAdd, Nat.reduceEqDiff, ↓reduceIte, Option.bind_some, Nat.zero_add, List.append_nil]
  repeat refine ⟨by (first | omega | (simp; omega) | (simp; done) | exact ⟨by omega, by omega⟩ | exact ⟨by omega, by simp; omega⟩ | exact ⟨by simp; omega, by simp; omega⟩ | exact ⟨by simp, by simp; omega⟩ | (intro h; rw [h]; rfl) | (intro h; refine ⟨fun h2 => ?_, h⟩; rw [h, h2]; rfl) | (intro h; refine ⟨?_, h⟩; simp [inR] at h; omega) | (intro h; simp [inR] at h; omega) | assumption), ?_⟩
  refine hQ _ _ _ _ _ (RG.nil ?_)
  try simp only [x_ret, x_tn]
  exact Fin.i (.inr rfl) rfl trivial (by simp [lenV])

theorem volume_within_con (n a b : Int) : Con Try.prog 51 [I n, I a, I b] [] (B (inR n a b)) [] := by
  refine C_volume_within (Nat.le_of_ble_eq_true rfl) (Nat.le_of_ble_eq_true rfl) ?_
  simp only [A_volume_within, argL, objL, List.length_nil, Nat.reduceAdd, Nat.zero_add, x_seq]
  refine aw_reg 16 (RG.go fun Q hQ => ?_)
  simp only [RX, eff, ev_k, setS_cons, setS_nil, AOp.isCall, setD, setEs, presOf, AOp.needs, idsOf, AOp.rds, List.map_nil, List.nil_append, true_and, Bool.false_eq_true, reduceCtorEq, Nat.reduceAdd, Nat.reduceEqDiff, ↓reduceIte]
  repeat refine ⟨by (first | omega | (simp; omega) | (simp; done) | exact ⟨by omega, by omega⟩ | exact ⟨by omega, by simp; omega⟩ | exact ⟨by simp; omega, by simp; omega⟩ | exact ⟨by simp, by simp; omega⟩ | (intro h; rw [h]; rfl) | (intro h; refine ⟨fun h2 => ?_, h⟩; rw [h, h2]; rfl) | (intro h; refine ⟨?_, h⟩; simp [inR] at h; omega) | (intro h; simp [inR] at h; omega) | assumption), ?_⟩
  refine hQ _ _ _ _ _ (RG.nil ?_)
  try simp only [x_seq, x_tn]
  refine aw_reg 64 (RG.go fun Q hQ => ?_)
  simp only [RX, eff, ev_t, ev_k, lk_cons, setS_cons, setS_nil, AOp.isCall, setD, setEs, presOf, AOp.needs, SV.one?, SV.pre, gval, binV, idsOf, AOp.rds, AOp.ops, SV.ids, C.ids0, Option.map_some, List.map_nil, List.nil_append, and_true, true_and, and_self, Bool.true_and, Bool.false_eq_true, beq_true, implies_true, imp_self, Bool.if_false_right, Bool.decide_eq_true, reduceCtorEq, ge_iff_le, Nat.reduceAdd, Nat.reduceEqDiff, ↓reduceIte, List.append_nil]
  repeat refine ⟨by (first | omega | (simp; omega) | (simp; done) | exact ⟨by omega, by omega⟩ | exact ⟨by omega, by simp; omega⟩ | exact ⟨by simp; omega, by simp; omega⟩ | exact ⟨by simp, by simp; omega⟩ | (intro h; rw [h]; rfl) | (intro h; refine ⟨fun h2 => ?_, h⟩; rw [h, h2]; rfl) | (intro h; refine ⟨?_, h⟩; simp [inR] at h; omega) | (intro h; simp [inR] at h; omega) | assumption), ?_⟩
  refine hQ _ _ _ _ _ (RG.nil ?_)
  try simp only [x_ret, x_tn]
  refine Fin.b (.inr rfl) rfl trivial ?_
  simp [inR]

theorem lowL_succ (n : Int) (l : List Int) (i : Nat) (hi : i < l.length) : lowL n (l.take (i + 1)) = min (lowL n (l.take i)) l[i] := by
  rw [take_one l i hi]; simp only [lowL, List.foldl_append]; rfl

theorem volume_Low_con (v : VOL) (hb : v.pins.length ≤ 1000000) : Con Try.prog 24 [.agg (volC v)] [] (I (lowV v)) [] := by
  refine C_volume_Low (Nat.le_of_ble_eq_true rfl) (Nat.le_of_ble_eq_true rfl) ?_
  simp only [A_volume_Low, argL, objL, List.length_nil, x_seq]
  refine aw_reg 16 (RG.go fun Q hQ => ?_)
  simp only [RX, eff, ev_t, ev_k, lk_cons, lkE_nil, setS_cons, setS_nil, setE_nil, AOp.isCall, setD, setEs, presOf, AOp.needs, SV.pre, SV.cells, idsOf, AOp.rds, AOp.ops, SV.ids, List.map_cons, List.map_nil, List.nil_append, true_and, and_self, Bool.false_eq_true, reduceCtorEq, Nat.reduceAdd, Nat.reduceEqDiff, ↓reduceIte, List.append_nil, volC, vC]
  repeat refine ⟨by (first | omega | (simp; omega) | (simp; done) | exact ⟨by omega, by omega⟩ | exact ⟨by omega, by simp; omega⟩ | exact ⟨by simp; omega, by simp; omega⟩ | exact ⟨by simp, by simp; omega⟩ | (intro h; rw [h]; rfl) | (intro h; refine ⟨fun h2 => ?_, h⟩; rw [h, h2]; rfl) | (intro h; refine ⟨?_, h⟩; simp [inR] at h; omega) | (intro h; simp [inR] at h; omega) | assumption), ?_⟩
  refine hQ _ _ _ _ _ (RG.nil ?_)
  try simp only [x_seq, x_tn]
  refine aw_reg 80 (RG.go fun Q hQ => ?_)
  simp only [RX, eff, ev_t, lk_cons, lkE_cons, setS_cons, setS_nil, AOp.isCall, setD, setEs, presOf, AOp.needs, SV.one?, SV.pre, idsOf, AOp.rds, AOp.ops, SV.ids, C.ids0, List.take_succ_cons, List.take_zero, List.drop_zero, List.length_cons, List.length_nil, List.map_nil, List.nil_append, List.cons_append, true_and, and_self, Bool.false_eq_true, reduceCtorEq, Nat.reduceAdd, Nat.reduceEqDiff, ↓reduceIte, Nat.zero_add, Nat.le_refl, List.append_nil]
  repeat refine ⟨by (first | omega | (simp; omega) | (simp; done) | exact ⟨by omega, by omega⟩ | exact ⟨by omega, by simp; omega⟩ | exact ⟨by simp; omega, by simp; omega⟩ | exact ⟨by simp, by simp; omega⟩ | (intro h; rw [h]; rfl) | (intro h; refine ⟨fun h2 => ?_, h⟩; rw [h, h2]; rfl) | (intro h; refine ⟨?_, h⟩; simp [inR] at h; omega) | (intro h; simp [inR] at h; omega) | assumption), ?_⟩
  refine hQ _ _ _ _ _ ?_
  refine RG.call [] (volume_Len_con v) (by (repeat' (first | exact tr_nil | refine tr_cons ?_ ?_ | exact tr_v | exact tr_sl | exact tr_nils | exact tr_agg (by repeat' (first | exact trivial | rfl | exact rfl | refine ⟨?_, ?_⟩)) | exact tr_opt (by simpa using hg) tr_v | exact tr_opt (by simpa using hg) tr_sl | exact tr_opt (by simpa using hg) (tr_agg (by repeat' (first | exact trivial | rfl | exact rfl | refine ⟨?_, ?_⟩)))))) trivial (by (first | exact .inl trivial | exact .inr ⟨rfl, trivial⟩)) ?_
  refine RG.go fun Q hQ => ?_
  simp only [RX, eff, ev_t, lk_cons, setS_cons, setS_nil, AOp.isCall, setD, setEs, presOf, AOp.needs, idsOf, AOp.rds, List.map_nil, List.nil_append, true_and, Bool.false_eq_true, reduceCtorEq, Nat.reduceAdd, Nat.reduceEqDiff, ↓reduceIte]
  repeat refine ⟨by (first | omega | (simp; omega) | (simp; done) | exact ⟨by omega, by omega⟩ | exact ⟨by omega, by simp; omega⟩ | exact ⟨by simp; omega, by simp; omega⟩ | exact ⟨by simp, by simp; omega⟩ | (intro h; rw [h]; rfl) | (intro h; refine ⟨fun h2 => ?_, h⟩; rw [h, h2]; rfl) | (intro h; refine ⟨?_, h⟩; simp [inR] at h; omega) | (intro h; simp [inR] at h; omega) | assumption), ?_⟩
  refine hQ _ _ _ _ _ (RG.nil ?_)
  try simp only [x_seq, x_tn]
  refine aw_reg 160 (RG.go fun Q hQ => ?_)
  simp only [RX, eff, ev_t, ev_k, lk_cons, lkE_cons, setS_cons, setS_nil, AOp.isCall, setD, setEs, presOf, AOp.needs, SV.one?, SV.pre, idsOf, AOp.rds, AOp.ops, SV.ids, C.ids0, rowsOf, List.getElem?_cons_zero, List.getElem?_cons_succ, Option.map_some, List.map_nil, List.nil_append, List.cons_append, true_and, and_self, Bool.false_eq_true, reduceCtorEq, Nat.reduceAdd, Nat.reduceEqDiff, ↓reduceIte, Option.bind_some, Nat.zero_add, List.append_nil]
  repeat refine ⟨by (first | omega | (simp; omega) | (simp; done) | exact ⟨by omega, by omega⟩ | exact ⟨by omega, by simp; omega⟩ | exact ⟨by simp; omega, by simp; omega⟩ | exact ⟨by simp, by simp; omega⟩ | (intro h; rw [h]; rfl) | (intro h; refine ⟨fun h2 => ?_, h⟩; rw [h, h2]; rfl) | (intro h; refine ⟨?_, h⟩; simp [inR] at h; omega) | (intro h; simp [inR] at h; omega) | assumption), ?_⟩
  refine hQ _ _ _ _ _ (RG.nil ?_)
  try simp only [x_block, x_tn]
  refine aw_loopK (X := { i : Nat // i ≤ v.pins.length }) [9, 10] (fun i => [(3, I (lowL (lenV v) (v.pins.take i.1))), (11, I i.1)]) [] (fun i => []) (fun i => v.pins.length - i.1) (⟨0, by omega⟩) ?_ ?_
  · skip
    simp only [keepS, keepE, lk_cons, List.cons_append, List.nil_append, Nat.reduceEqDiff, ↓reduceIte, reduceCtorEq]
    refine Le.lit [] [] _ _ ?_ ?_ ?_ ?_
    · simp only [Int.cast_ofNat_Int, allL, lk_cons, lkE_nil, WkSV, WkSV1, WkC, WkC0, rlook, frzEs, Nat.reduceEqDiff, ↓reduceIte, reduceCtorEq, and_true, ne_eq, not_true_eq_false]
      all_goals (rfl)
    · simp only [allL]
      all_goals (try ((repeat' (first | (first | exact drows_brow _ | exact drows_nrow _ | exact drows_irow _ | exact drows_wrow _ | assumption | (simp [isDRows, brow, C.isD]; done) | (rw [← List.map_append]; first | exact drows_brow _ | exact drows_nrow _ | exact drows_irow _ | exact drows_wrow _)) | rfl | refine ⟨?_, ?_⟩ | (left; (first | exact drows_brow _ | exact drows_nrow _ | exact drows_irow _ | exact drows_wrow _ | assumption | (simp [isDRows, brow, C.isD]; done) | (rw [← List.map_append]; first | exact drows_brow _ | exact drows_nrow _ | exact drows_irow _ | exact drows_wrow _)))))))
    · simp [rlook]
    · first | (simp; done) | (intro k hk; simp [rlook]; omega)
  rintro ⟨i, hi⟩
  simp only [keepS, keepE, lk_cons, List.cons_append, List.nil_append, Nat.reduceEqDiff, ↓reduceIte, reduceCtorEq]
  try simp only [x_seq]
  refine aw_reg 256 (RG.go fun Q hQ => ?_)
  simp only [RX, eff, ev_t, lk_cons, setS_cons, setS_nil, AOp.isCall, setD, setEs, presOf, AOp.needs, SV.one?, SV.pre, binV, idsOf, AOp.rds, AOp.ops, SV.ids, C.ids0, Option.map_some, List.map_nil, List.nil_append, true_and, and_self, Bool.false_eq_true, Nat.reduceAdd, Nat.reduceEqDiff, ↓reduceIte, List.append_nil]
  repeat refine ⟨by (first | omega | (simp; omega) | (simp; done) | exact ⟨by omega, by omega⟩ | exact ⟨by omega, by simp; omega⟩ | exact ⟨by simp; omega, by simp; omega⟩ | exact ⟨by simp, by simp; omega⟩ | (intro h; rw [h]; rfl) | (intro h; refine ⟨fun h2 => ?_, h⟩; rw [h, h2]; rfl) | (intro h; refine ⟨?_, h⟩; simp [inR] at h; omega) | (intro h; simp [inR] at h; omega) | assumption), ?_⟩
  refine hQ _ _ _ _ _ (RG.nil ?_)
  try simp only [x_seq, x_tn]
  refine aw_cond _ rfl trivial (fun ht => ?_) (fun hf => ?_)
  · have hi' : i < v.pins.length := by simpa using ht
    have hr : ((v.pins.map nrow)[((i : Int)).toNat]?).getD [] = [.v (.int .i64 v.pins[i])] := map_get nrow hi' []
    try simp only [x_seq, x_block, x_skip, x_tn]
    refine aw_reg 304 (RG.go fun Q hQ => ?_)
    simp only [RX, eff, ev_t, lk_cons, setS_cons, setS_nil, AOp.isCall, setD, setEs, presOf, AOp.needs, SV.one?, SV.pre, idsOf, AOp.rds, AOp.ops, SV.ids, C.ids0, Option.getD_some, List.length_cons, List.length_nil, List.getElem?_cons_zero, List.map_nil, List.nil_append, and_true, true_and, and_self, Bool.false_eq_true, Nat.reduceAdd, Nat.reduceEqDiff, Nat.reduceLT, ↓reduceIte, Nat.zero_add, List.append_nil, C_default, hr]
    repeat refine ⟨by (first | omega | (simp; omega) | (simp; done) | exact ⟨by omega, by omega⟩ | exact ⟨by omega, by simp; omega⟩ | exact ⟨by simp; omega, by simp; omega⟩ | exact ⟨by simp, by simp; omega⟩ | (intro h; rw [h]; rfl) | (intro h; refine ⟨fun h2 => ?_, h⟩; rw [h, h2]; rfl) | (intro h; refine ⟨?_, h⟩; simp [inR] at h; omega) | (intro h; simp [inR] at h; omega) | assumption), ?_⟩
    refine hQ _ _ _ _ _ (RG.nil ?_)
    try simp only [x_tn]
    refine aw_reg 384 (RG.go fun Q hQ => ?_)
    simp only [RX, eff, foldMx, ev_t, lk_cons, setS_cons, setS_nil, AOp.isCall, setD, setEs, presOf, AOp.needs, SV.one?, SV.pre, idsOf, AOp.rds, AOp.ops, SV.ids, C.ids0, Option.map_some, List.map_cons, List.map_nil, List.nil_append, true_and, and_self, Bool.false_eq_true, Nat.reduceAdd, Nat.reduceEqDiff, ↓reduceIte, List.append_nil]
    repeat refine ⟨by (first | omega | (simp; omega) | (simp; done) | exact ⟨by omega, by omega⟩ | exact ⟨by omega, by simp; omega⟩ | exact ⟨by simp; omega, by simp; omega⟩ | exact ⟨by simp, by simp; omega⟩ | (intro h; rw [h]; rfl) | (intro h; refine ⟨fun h2 => ?_, h⟩; rw [h, h2]; rfl) | (intro h; refine ⟨?_, h⟩; simp [inR] at h; omega) | (intro h; simp [inR] at h; omega) | assumption), ?_⟩
    refine hQ _ _ _ _ _ (RG.nil ?_)
    try simp only [x_tn, x_bn]
    refine aw_reg 480 (RG.go fun Q hQ => ?_)
    simp only [RX, eff, ev_t, ev_k, lk_cons, setS_cons, setS_nil, AOp.isCall, setD, setEs, presOf, AOp.needs, SV.one?, SV.pre, binV, idsOf, AOp.rds, AOp.ops, SV.ids, C.ids0, Option.map_some, List.map_nil, List.nil_append, true_and, and_self, Bool.false_eq_true, Nat.reduceAdd, Nat.reduceEqDiff, ↓reduceIte, List.append_nil, wi i _ hi' (by omega)]
    repeat refine ⟨by (first | omega | (simp; omega) | (simp; done) | exact ⟨by omega, by omega⟩ | exact ⟨by omega, by simp; omega⟩ | exact ⟨by simp; omega, by simp; omega⟩ | exact ⟨by simp, by simp; omega⟩ | (intro h; rw [h]; rfl) | (intro h; refine ⟨fun h2 => ?_, h⟩; rw [h, h2]; rfl) | (intro h; refine ⟨?_, h⟩; simp [inR] at h; omega) | (intro h; simp [inR] at h; omega) | assumption), ?_⟩
    refine hQ _ _ _ _ _ (RG.nil ?_)
    try simp only [x_ln]
    refine ⟨⟨i + 1, hi'⟩, ?_, by simp only; omega⟩
    refine Le.lit [] [] _ _ ?_ ?_ ?_ ?_
    · simp only [allL, lk_cons, lkE_nil, WkSV, WkSV1, WkC, WkC0, rlook, frzEs, Nat.reduceEqDiff, ↓reduceIte, and_true, ne_eq, not_true_eq_false]
      all_goals (rw [lowL_succ _ _ _ hi', min_if])
    · simp only [allL]
      all_goals (try ((repeat' (first | (first | exact drows_brow _ | exact drows_nrow _ | exact drows_irow _ | exact drows_wrow _ | assumption | (simp [isDRows, brow, C.isD]; done) | (rw [← List.map_append]; first | exact drows_brow _ | exact drows_nrow _ | exact drows_irow _ | exact drows_wrow _)) | rfl | refine ⟨?_, ?_⟩ | (left; (first | exact drows_brow _ | exact drows_nrow _ | exact drows_irow _ | exact drows_wrow _ | assumption | (simp [isDRows, brow, C.isD]; done) | (rw [← List.map_append]; first | exact drows_brow _ | exact drows_nrow _ | exact drows_irow _ | exact drows_wrow _)))))))
    · simp [rlook]
    · first | (simp; done) | (intro k hk; simp [rlook]; omega)
  have hi' : i = v.pins.length := by simp at hf; omega
  try simp only [x_seq, x_exit, x_tn, x_tx, x_bx, x_lx, ↓reduceIte]
  refine aw_reg 544 (RG.go fun Q hQ => ?_)
  simp only [RX, eff, ev_t, lk_cons, setS_cons, setS_nil, AOp.isCall, setD, setEs, presOf, AOp.needs, idsOf, AOp.rds, List.map_nil, List.nil_append, true_and, Bool.false_eq_true, Nat.reduceAdd, Nat.reduceEqDiff, ↓reduceIte]
  repeat refine ⟨by (first | omega | (simp; omega) | (simp; done) | exact ⟨by omega, by omega⟩ | exact ⟨by omega, by simp; omega⟩ | exact ⟨by simp; omega, by simp; omega⟩ | exact ⟨by simp, by simp; omega⟩ | (intro h; rw [h]; rfl) | (intro h; refine ⟨fun h2 => ?_, h⟩; rw [h, h2]; rfl) | (intro h; refine ⟨?_, h⟩; simp [inR] at h; omega) | (intro h; simp [inR] at h; omega) | assumption), ?_⟩
  refine hQ _ _ _ _ _ (RG.nil ?_)
  try simp only [x_ret, x_tn]
  exact Fin.i (.inr rfl) rfl trivial (by rw [hi', List.take_length]; rfl)

end Go.Abs

namespace Go.Abs
open Go Go.Proofs
set_option maxRecDepth 100000
set_option linter.unusedSimpArgs false
set_option maxHeartbeats 2000000

theorem slices_Clone_int_int_con (rows : List (List C)) (hd : isDRows rows) (h1 : ∀ r ∈ rows, r.length = 1) (hb : rows.length ≤ 1000000) : Con Try.prog 40 [.c (.sl rows)] [] (.c (.osl 0)) [.arr 3 1 rows false] := by
  by_cases hr : rows = []
  · subst hr
    refine Con.split1 ?_ fun b off cap => ?_
    · skip
      refine C_slices_Clone_int_int (Nat.le_of_ble_eq_true rfl) (Nat.le_of_ble_eq_true rfl) ?_
      simp only [A_slices_Clone_int_int, argL, objL, List.length_nil, x_seq]
      refine aw_reg 16 (RG.go fun Q hQ => ?_)
      simp only [RX, eff, ev_k, setS_cons, setS_nil, AOp.isCall, setD, setEs, presOf, AOp.needs, idsOf, AOp.rds, List.map_nil, List.nil_append, true_and, Bool.false_eq_true, reduceCtorEq, Nat.reduceAdd, ↓reduceIte]
      refine hQ _ _ _ _ _ (RG.nil ?_)
      simp only [x_seq, x_tn]
      refine aw_reg 160 (RG.go fun Q hQ => ?_)
      simp only [RX, eff, ev_t, lk_cons, setS_cons, setS_nil, AOp.isCall, setD, setEs, presOf, AOp.needs, SV.one?, SV.pre, idsOf, AOp.rds, AOp.ops, SV.ids, C.ids0, List.map_nil, List.nil_append, true_and, and_self, Bool.false_eq_true, Bool.not_false, reduceCtorEq, Nat.reduceAdd, Nat.reduceEqDiff, ↓reduceIte, List.append_nil]
      refine hQ _ _ _ _ _ (RG.nil ?_)
      simp only [x_tn]
      refine aw_cond _ rfl trivial (fun ht => ?_) (fun hf => by cases hf)
      simp only [x_seq]
      refine aw_reg 320 (RG.go fun Q hQ => ?_)
      simp only [RX, eff, ev_k, setS_cons, AOp.isCall, setD, setEs, presOf, AOp.needs, idsOf, AOp.rds, List.map_nil, List.nil_append, true_and, Bool.false_eq_true, reduceCtorEq, Nat.reduceAdd, ↓reduceIte]
      refine hQ _ _ _ _ _ (RG.nil ?_)
      simp only [x_ret, x_tn, x_tr]
      exact Fin.ownNil (.inr rfl) rfl trivial (by decide)
    · skip
      refine C_slices_Clone_int_int (Nat.le_of_ble_eq_true rfl) (Nat.le_of_ble_eq_true rfl) ?_
      simp only [A_slices_Clone_int_int, argL, objL, List.length_nil, x_seq]
      refine aw_reg 16 (RG.go fun Q hQ => ?_)
      simp only [RX, eff, ev_k, setS_cons, setS_nil, AOp.isCall, setD, setEs, presOf, AOp.needs, idsOf, AOp.rds, List.map_nil, List.nil_append, true_and, Bool.false_eq_true, reduceCtorEq, Nat.reduceAdd, ↓reduceIte]
      refine hQ _ _ _ _ _ (RG.nil ?_)
      simp only [x_seq, x_tn]
      refine aw_reg 160 (RG.go fun Q hQ => ?_)
      simp only [RX, eff, ev_t, lk_cons, setS_cons, setS_nil, AOp.isCall, setD, setEs, presOf, AOp.needs, SV.one?, SV.pre, idsOf, AOp.rds, AOp.ops, SV.ids, C.ids0, List.map_nil, List.nil_append, true_and, and_self, Bool.false_eq_true, reduceCtorEq, Nat.reduceAdd, Nat.reduceEqDiff, ↓reduceIte, List.append_nil]
      refine hQ _ _ _ _ _ (RG.nil ?_)
      simp only [x_tn]
      refine aw_cond _ rfl trivial (fun ht => by cases ht) (fun hf => ?_)
      simp only [x_seq, x_skip, x_tn]
      refine aw_reg 320 (RG.go fun Q hQ => ?_)
      simp only [RX, eff, Nat.reduceMul, ev_t, lk_cons, lkE_cons, lkE_nil, setS_cons, setS_nil, setE_cons, setE_nil, AOp.isCall, setD, setEs, presOf, AOp.needs, SV.one?, SV.pre, idsOf, AOp.rds, AOp.ops, SV.ids, C.ids0, rowsOf, srcOf, bSRows, List.length_nil, Option.map_some, List.map_cons, List.map_nil, List.nil_append, List.cons_append, and_true, true_and, and_self, Bool.false_eq_true, reduceCtorEq, Nat.reduceAdd, Nat.reduceEqDiff, Nat.reduceLeDiff, ↓reduceIte, List.append_nil, Nat.add_zero]
      refine ⟨by simp, hQ _ _ _ _ _ (RG.nil ?_)⟩
      simp only [x_ret, x_tn]
      refine Fin.objs [] [(0, 352)] (.inr rfl) rfl trivial ?_ ?_ ?_ ?_
      · skip
        simp only [mkSt_sl, lk_cons, lkE_cons, lkE_nil, WkSV, WkSV1, WkC, WkC0, rlook, frzEs, objL, ↓reduceIte, reduceCtorEq, and_true, ne_eq, not_false_eq_true]
      · skip
        simp only [allL, lkE_cons, lkE_nil, WkEnt, rlook, frzEs, objL, isDRows, Option.some.injEq, Nat.reduceEqDiff, ↓reduceIte, reduceCtorEq, true_and, and_true, exists_eq_left', ne_eq, true_or]
        simp
      · simp [objL]
      · simp
  · skip
    refine C_slices_Clone_int_int (Nat.le_of_ble_eq_true rfl) (Nat.le_of_ble_eq_true rfl) ?_
    simp only [A_slices_Clone_int_int, argL, objL, List.length_nil, x_seq]
    refine aw_reg 16 (RG.go fun Q hQ => ?_)
    simp only [RX, eff, ev_k, setS_cons, setS_nil, AOp.isCall, setD, setEs, presOf, AOp.needs, idsOf, AOp.rds, List.map_nil, List.nil_append, true_and, Bool.false_eq_true, reduceCtorEq, Nat.reduceAdd, ↓reduceIte]
    refine hQ _ _ _ _ _ (RG.nil ?_)
    simp only [x_seq, x_tn]
    refine aw_reg 160 (RG.go fun Q hQ => ?_)
    simp only [RX, eff, ev_t, lk_cons, setS_cons, setS_nil, AOp.isCall, setD, setEs, presOf, AOp.needs, SV.one?, SV.pre, idsOf, AOp.rds, AOp.ops, SV.ids, C.ids0, List.map_nil, List.nil_append, true_and, and_self, Bool.false_eq_true, reduceCtorEq, Nat.reduceAdd, Nat.reduceEqDiff, ↓reduceIte, List.append_nil]
    refine ⟨hr, hQ _ _ _ _ _ (RG.nil ?_)⟩
    simp only [x_tn]
    refine aw_cond _ rfl trivial (fun ht => by cases ht) (fun hf => ?_)
    simp only [x_seq, x_skip, x_tn]
    refine aw_reg 320 (RG.go fun Q hQ => ?_)
    simp only [RX, eff, ev_t, lk_cons, lkE_cons, lkE_nil, setS_cons, setS_nil, setE_cons, setE_nil, AOp.isCall, setD, setEs, presOf, AOp.needs, SV.one?, SV.pre, idsOf, AOp.rds, AOp.ops, SV.ids, C.ids0, rowsOf, srcOf, bSRows, List.length_nil, Option.map_some, List.map_cons, List.map_nil, List.nil_append, List.cons_append, true_and, and_self, Bool.false_eq_true, reduceCtorEq, Nat.reduceAdd, Nat.reduceEqDiff, ↓reduceIte, Nat.zero_add, List.append_nil]
    refine ⟨⟨h1, by omega⟩, hQ _ _ _ _ _ (RG.nil ?_)⟩
    simp only [x_ret, x_tn]
    refine Fin.objs [] [(0, 352)] (.inr rfl) rfl trivial ?_ ?_ ?_ ?_
    · skip
      simp only [mkSt_sl, lk_cons, lkE_cons, lkE_nil, WkSV, WkSV1, WkC, WkC0, rlook, frzEs, objL, ↓reduceIte, reduceCtorEq, and_true, ne_eq, not_false_eq_true]
    · skip
      simp only [allL, lkE_cons, lkE_nil, WkEnt, rlook, frzEs, objL, isDRows, Option.some.injEq, Nat.reduceEqDiff, ↓reduceIte, reduceCtorEq, true_and, and_true, exists_eq_left', ne_eq, true_or]
      exact hd
    · simp [objL]
    · simp



theorem slices_Clone_int64_int64_con (rows : List (List C)) (hd : isDRows rows) (h1 : ∀ r ∈ rows, r.length = 1) (hb : rows.length ≤ 1000000) : Con Try.prog 64 [.c (.sl rows)] [] (.c (.osl 0)) [.arr 2 1 rows false] := by
  by_cases hr : rows = []
  · subst hr
    refine Con.split1 ?_ fun b off cap => ?_
    · skip
      refine C_slices_Clone_int64_int64 (Nat.le_of_ble_eq_true rfl) (Nat.le_of_ble_eq_true rfl) ?_
      simp only [A_slices_Clone_int64_int64, argL, objL, List.length_nil, x_seq]
      refine aw_reg 16 (RG.go fun Q hQ => ?_)
      simp only [RX, eff, ev_k, setS_cons, setS_nil, AOp.isCall, setD, setEs, presOf, AOp.needs, idsOf, AOp.rds, List.map_nil, List.nil_append, true_and, Bool.false_eq_true, reduceCtorEq, Nat.reduceAdd, ↓reduceIte]
      refine hQ _ _ _ _ _ (RG.nil ?_)
      simp only [x_seq, x_tn]
      refine aw_reg 160 (RG.go fun Q hQ => ?_)
      simp only [RX, eff, ev_t, lk_cons, setS_cons, setS_nil, AOp.isCall, setD, setEs, presOf, AOp.needs, SV.one?, SV.pre, idsOf, AOp.rds, AOp.ops, SV.ids, C.ids0, List.map_nil, List.nil_append, true_and, and_self, Bool.false_eq_true, Bool.not_false, reduceCtorEq, Nat.reduceAdd, Nat.reduceEqDiff, ↓reduceIte, List.append_nil]
      refine hQ _ _ _ _ _ (RG.nil ?_)
      simp only [x_tn]
      refine aw_cond _ rfl trivial (fun ht => ?_) (fun hf => by cases hf)
      simp only [x_seq]
      refine aw_reg 320 (RG.go fun Q hQ => ?_)
      simp only [RX, eff, ev_k, setS_cons, AOp.isCall, setD, setEs, presOf, AOp.needs, idsOf, AOp.rds, List.map_nil, List.nil_append, true_and, Bool.false_eq_true, reduceCtorEq, Nat.reduceAdd, ↓reduceIte]
      refine hQ _ _ _ _ _ (RG.nil ?_)
      simp only [x_ret, x_tn, x_tr]
      exact Fin.ownNil (.inr rfl) rfl trivial (by decide)
    · skip
      refine C_slices_Clone_int64_int64 (Nat.le_of_ble_eq_true rfl) (Nat.le_of_ble_eq_true rfl) ?_
      simp only [A_slices_Clone_int64_int64, argL, objL, List.length_nil, x_seq]
      refine aw_reg 16 (RG.go fun Q hQ => ?_)
      simp only [RX, eff, ev_k, setS_cons, setS_nil, AOp.isCall, setD, setEs, presOf, AOp.needs, idsOf, AOp.rds, List.map_nil, List.nil_append, true_and, Bool.false_eq_true, reduceCtorEq, Nat.reduceAdd, ↓reduceIte]
      refine hQ _ _ _ _ _ (RG.nil ?_)
      simp only [x_seq, x_tn]
      refine aw_reg 160 (RG.go fun Q hQ => ?_)
      simp only [RX, eff, ev_t, lk_cons, setS_cons, setS_nil, AOp.isCall, setD, setEs, presOf, AOp.needs, SV.one?, SV.pre, idsOf, AOp.rds, AOp.ops, SV.ids, C.ids0, List.map_nil, List.nil_append, true_and, and_self, Bool.false_eq_true, reduceCtorEq, Nat.reduceAdd, Nat.reduceEqDiff, ↓reduceIte, List.append_nil]
      refine hQ _ _ _ _ _ (RG.nil ?_)
      simp only [x_tn]
      refine aw_cond _ rfl trivial (fun ht => by cases ht) (fun hf => ?_)
      simp only [x_seq, x_skip, x_tn]
      refine aw_reg 320 (RG.go fun Q hQ => ?_)
      simp only [RX, eff, Nat.reduceMul, ev_t, lk_cons, lkE_cons, lkE_nil, setS_cons, setS_nil, setE_cons, setE_nil, AOp.isCall, setD, setEs, presOf, AOp.needs, SV.one?, SV.pre, idsOf, AOp.rds, AOp.ops, SV.ids, C.ids0, rowsOf, srcOf, bSRows, List.length_nil, Option.map_some, List.map_cons, List.map_nil, List.nil_append, List.cons_append, and_true, true_and, and_self, Bool.false_eq_true, reduceCtorEq, Nat.reduceAdd, Nat.reduceEqDiff, Nat.reduceLeDiff, ↓reduceIte, List.append_nil, Nat.add_zero]
      refine ⟨by simp, hQ _ _ _ _ _ (RG.nil ?_)⟩
      simp only [x_ret, x_tn]
      refine Fin.objs [] [(0, 352)] (.inr rfl) rfl trivial ?_ ?_ ?_ ?_
      · skip
        simp only [mkSt_sl, lk_cons, lkE_cons, lkE_nil, WkSV, WkSV1, WkC, WkC0, rlook, frzEs, objL, ↓reduceIte, reduceCtorEq, and_true, ne_eq, not_false_eq_true]
      · skip
        simp only [allL, lkE_cons, lkE_nil, WkEnt, rlook, frzEs, objL, isDRows, Option.some.injEq, Nat.reduceEqDiff, ↓reduceIte, reduceCtorEq, true_and, and_true, exists_eq_left', ne_eq, true_or]
        simp
      · simp [objL]
      · simp
  · skip
    refine C_slices_Clone_int64_int64 (Nat.le_of_ble_eq_true rfl) (Nat.le_of_ble_eq_true rfl) ?_
    simp only [A_slices_Clone_int64_int64, argL, objL, List.length_nil, x_seq]
    refine aw_reg 16 (RG.go fun Q hQ => ?_)
    simp only [RX, eff, ev_k, setS_cons, setS_nil, AOp.isCall, setD, setEs, presOf, AOp.needs, idsOf, AOp.rds, List.map_nil, List.nil_append, true_and, Bool.false_eq_true, reduceCtorEq, Nat.reduceAdd, ↓reduceIte]
    refine hQ _ _ _ _ _ (RG.nil ?_)
    simp only [x_seq, x_tn]
    refine aw_reg 160 (RG.go fun Q hQ => ?_)
    simp only [RX, eff, ev_t, lk_cons, setS_cons, setS_nil, AOp.isCall, setD, setEs, presOf, AOp.needs, SV.one?, SV.pre, idsOf, AOp.rds, AOp.ops, SV.ids, C.ids0, List.map_nil, List.nil_append, true_and, and_self, Bool.false_eq_true, reduceCtorEq, Nat.reduceAdd, Nat.reduceEqDiff, ↓reduceIte, List.append_nil]
    refine ⟨hr, hQ _ _ _ _ _ (RG.nil ?_)⟩
    simp only [x_tn]
    refine aw_cond _ rfl trivial (fun ht => by cases ht) (fun hf => ?_)
    simp only [x_seq, x_skip, x_tn]
    refine aw_reg 320 (RG.go fun Q hQ => ?_)
    simp only [RX, eff, ev_t, lk_cons, lkE_cons, lkE_nil, setS_cons, setS_nil, setE_cons, setE_nil, AOp.isCall, setD, setEs, presOf, AOp.needs, SV.one?, SV.pre, idsOf, AOp.rds, AOp.ops, SV.ids, C.ids0, rowsOf, srcOf, bSRows, List.length_nil, Option.map_some, List.map_cons, List.map_nil, List.nil_append, List.cons_append, true_and, and_self, Bool.false_eq_true, reduceCtorEq, Nat.reduceAdd, Nat.reduceEqDiff, ↓reduceIte, Nat.zero_add, List.append_nil]
    refine ⟨⟨h1, by omega⟩, hQ _ _ _ _ _ (RG.nil ?_)⟩
    simp only [x_ret, x_tn]
    refine Fin.objs [] [(0, 352)] (.inr rfl) rfl trivial ?_ ?_ ?_ ?_
    · skip
      simp only [mkSt_sl, lk_cons, lkE_cons, lkE_nil, WkSV, WkSV1, WkC, WkC0, rlook, frzEs, objL, ↓reduceIte, reduceCtorEq, and_true, ne_eq, not_false_eq_true]
    · skip
      simp only [allL, lkE_cons, lkE_nil, WkEnt, rlook, frzEs, objL, isDRows, Option.some.injEq, Nat.reduceEqDiff, ↓reduceIte, reduceCtorEq, true_and, and_true, exists_eq_left', ne_eq, true_or]
      exact hd
    · simp [objL]
    · simp



theorem slices_Clone_api_Write_api_Write_con (rows : List (List C)) (hd : isDRows rows) (h1 : ∀ r ∈ rows, r.length = 2) (hb : rows.length ≤ 1000000) : Con Try.prog 65 [.c (.sl rows)] [] (.c (.osl 0)) [.arr 55 2 rows false] := by
  by_cases hr : rows = []
  · subst hr
    refine Con.split1 ?_ fun b off cap => ?_
    · skip
      refine C_slices_Clone_api_Write_api_Write (Nat.le_of_ble_eq_true rfl) (Nat.le_of_ble_eq_true rfl) ?_
      simp only [A_slices_Clone_api_Write_api_Write, argL, objL, List.length_nil, x_seq]
      refine aw_reg 16 (RG.go fun Q hQ => ?_)
      simp only [RX, eff, ev_k, setS_cons, setS_nil, AOp.isCall, setD, setEs, presOf, AOp.needs, idsOf, AOp.rds, List.map_nil, List.nil_append, true_and, Bool.false_eq_true, reduceCtorEq, Nat.reduceAdd, ↓reduceIte]
      refine hQ _ _ _ _ _ (RG.nil ?_)
      simp only [x_seq, x_tn]
      refine aw_reg 160 (RG.go fun Q hQ => ?_)
      simp only [RX, eff, ev_t, lk_cons, setS_cons, setS_nil, AOp.isCall, setD, setEs, presOf, AOp.needs, SV.one?, SV.pre, idsOf, AOp.rds, AOp.ops, SV.ids, C.ids0, List.map_nil, List.nil_append, true_and, and_self, Bool.false_eq_true, Bool.not_false, reduceCtorEq, Nat.reduceAdd, Nat.reduceEqDiff, ↓reduceIte, List.append_nil]
      refine hQ _ _ _ _ _ (RG.nil ?_)
      simp only [x_tn]
      refine aw_cond _ rfl trivial (fun ht => ?_) (fun hf => by cases hf)
      simp only [x_seq]
      refine aw_reg 320 (RG.go fun Q hQ => ?_)
      simp only [RX, eff, ev_k, setS_cons, AOp.isCall, setD, setEs, presOf, AOp.needs, idsOf, AOp.rds, List.map_nil, List.nil_append, true_and, Bool.false_eq_true, reduceCtorEq, Nat.reduceAdd, ↓reduceIte]
      refine hQ _ _ _ _ _ (RG.nil ?_)
      simp only [x_ret, x_tn, x_tr]
      exact Fin.ownNil (.inr rfl) rfl trivial (by decide)
    · skip
      refine C_slices_Clone_api_Write_api_Write (Nat.le_of_ble_eq_true rfl) (Nat.le_of_ble_eq_true rfl) ?_
      simp only [A_slices_Clone_api_Write_api_Write, argL, objL, List.length_nil, x_seq]
      refine aw_reg 16 (RG.go fun Q hQ => ?_)
      simp only [RX, eff, ev_k, setS_cons, setS_nil, AOp.isCall, setD, setEs, presOf, AOp.needs, idsOf, AOp.rds, List.map_nil, List.nil_append, true_and, Bool.false_eq_true, reduceCtorEq, Nat.reduceAdd, ↓reduceIte]
      refine hQ _ _ _ _ _ (RG.nil ?_)
      simp only [x_seq, x_tn]
      refine aw_reg 160 (RG.go fun Q hQ => ?_)
      simp only [RX, eff, ev_t, lk_cons, setS_cons, setS_nil, AOp.isCall, setD, setEs, presOf, AOp.needs, SV.one?, SV.pre, idsOf, AOp.rds, AOp.ops, SV.ids, C.ids0, List.map_nil, List.nil_append, true_and, and_self, Bool.false_eq_true, reduceCtorEq, Nat.reduceAdd, Nat.reduceEqDiff, ↓reduceIte, List.append_nil]
      refine hQ _ _ _ _ _ (RG.nil ?_)
      simp only [x_tn]
      refine aw_cond _ rfl trivial (fun ht => by cases ht) (fun hf => ?_)
      simp only [x_seq, x_skip, x_tn]
      refine aw_reg 320 (RG.go fun Q hQ => ?_)
      simp only [RX, eff, Nat.reduceMul, ev_t, lk_cons, lkE_cons, lkE_nil, setS_cons, setS_nil, setE_cons, setE_nil, AOp.isCall, setD, setEs, presOf, AOp.needs, SV.one?, SV.pre, idsOf, AOp.rds, AOp.ops, SV.ids, C.ids0, rowsOf, srcOf, bSRows, List.length_nil, Option.map_some, List.map_cons, List.map_nil, List.nil_append, List.cons_append, and_true, true_and, and_self, Bool.false_eq_true, reduceCtorEq, Nat.reduceAdd, Nat.reduceEqDiff, Nat.reduceLeDiff, ↓reduceIte, List.append_nil, Nat.add_zero]
      refine ⟨by simp, hQ _ _ _ _ _ (RG.nil ?_)⟩
      simp only [x_ret, x_tn]
      refine Fin.objs [] [(0, 352)] (.inr rfl) rfl trivial ?_ ?_ ?_ ?_
      · skip
        simp only [mkSt_sl, lk_cons, lkE_cons, lkE_nil, WkSV, WkSV1, WkC, WkC0, rlook, frzEs, objL, ↓reduceIte, reduceCtorEq, and_true, ne_eq, not_false_eq_true]
      · skip
        simp only [allL, lkE_cons, lkE_nil, WkEnt, rlook, frzEs, objL, isDRows, Option.some.injEq, Nat.reduceEqDiff, ↓reduceIte, reduceCtorEq, true_and, and_true, exists_eq_left', ne_eq, true_or]
        simp
      · simp [objL]
      · simp
  · skip
    refine C_slices_Clone_api_Write_api_Write (Nat.le_of_ble_eq_true rfl) (Nat.le_of_ble_eq_true rfl) ?_
    simp only [A_slices_Clone_api_Write_api_Write, argL, objL, List.length_nil, x_seq]
    refine aw_reg 16 (RG.go fun Q hQ => ?_)
    simp only [RX, eff, ev_k, setS_cons, setS_nil, AOp.isCall, setD, setEs, presOf, AOp.needs, idsOf, AOp.rds, List.map_nil, List.nil_append, true_and, Bool.false_eq_true, reduceCtorEq, Nat.reduceAdd, ↓reduceIte]
    refine hQ _ _ _ _ _ (RG.nil ?_)
    simp only [x_seq, x_tn]
    refine aw_reg 160 (RG.go fun Q hQ => ?_)
    simp only [RX, eff, ev_t, lk_cons, setS_cons, setS_nil, AOp.isCall, setD, setEs, presOf, AOp.needs, SV.one?, SV.pre, idsOf, AOp.rds, AOp.ops, SV.ids, C.ids0, List.map_nil, List.nil_append, true_and, and_self, Bool.false_eq_true, reduceCtorEq, Nat.reduceAdd, Nat.reduceEqDiff, ↓reduceIte, List.append_nil]
    refine ⟨hr, hQ _ _ _ _ _ (RG.nil ?_)⟩
    simp only [x_tn]
    refine aw_cond _ rfl trivial (fun ht => by cases ht) (fun hf => ?_)
    simp only [x_seq, x_skip, x_tn]
    refine aw_reg 320 (RG.go fun Q hQ => ?_)
    simp only [RX, eff, ev_t, lk_cons, lkE_cons, lkE_nil, setS_cons, setS_nil, setE_cons, setE_nil, AOp.isCall, setD, setEs, presOf, AOp.needs, SV.one?, SV.pre, idsOf, AOp.rds, AOp.ops, SV.ids, C.ids0, rowsOf, srcOf, bSRows, List.length_nil, Option.map_some, List.map_cons, List.map_nil, List.nil_append, List.cons_append, true_and, and_self, Bool.false_eq_true, reduceCtorEq, Nat.reduceAdd, Nat.reduceEqDiff, ↓reduceIte, Nat.zero_add, List.append_nil]
    refine ⟨⟨h1, by omega⟩, hQ _ _ _ _ _ (RG.nil ?_)⟩
    simp only [x_ret, x_tn]
    refine Fin.objs [] [(0, 352)] (.inr rfl) rfl trivial ?_ ?_ ?_ ?_
    · skip
      simp only [mkSt_sl, lk_cons, lkE_cons, lkE_nil, WkSV, WkSV1, WkC, WkC0, rlook, frzEs, objL, ↓reduceIte, reduceCtorEq, and_true, ne_eq, not_false_eq_true]
    · skip
      simp only [allL, lkE_cons, lkE_nil, WkEnt, rlook, frzEs, objL, isDRows, Option.some.injEq, Nat.reduceEqDiff, ↓reduceIte, reduceCtorEq, true_and, and_true, exists_eq_left', ne_eq, true_or]
      exact hd
    · simp [objL]
    · simp



theorem slices_Clone_api_Item_api_Item_con (rows : List (List C)) (hd : isDRows rows) (h1 : ∀ r ∈ rows, r.length = 2) (hb : rows.length ≤ 1000000) : Con Try.prog 76 [.c (.sl rows)] [] (.c (.osl 0)) [.arr 76 2 rows false] := by
  by_cases hr : rows = []
  · subst hr
    refine Con.split1 ?_ fun b off cap => ?_
    · skip
      refine C_slices_Clone_api_Item_api_Item (Nat.le_of_ble_eq_true rfl) (Nat.le_of_ble_eq_true rfl) ?_
      simp only [A_slices_Clone_api_Item_api_Item, argL, objL, List.length_nil, x_seq]
      refine aw_reg 16 (RG.go fun Q hQ => ?_)
      simp only [RX, eff, ev_k, setS_cons, setS_nil, AOp.isCall, setD, setEs, presOf, AOp.needs, idsOf, AOp.rds, List.map_nil, List.nil_append, true_and, Bool.false_eq_true, reduceCtorEq, Nat.reduceAdd, ↓reduceIte]
      refine hQ _ _ _ _ _ (RG.nil ?_)
      simp only [x_seq, x_tn]
      refine aw_reg 160 (RG.go fun Q hQ => ?_)
      simp only [RX, eff, ev_t, lk_cons, setS_cons, setS_nil, AOp.isCall, setD, setEs, presOf, AOp.needs, SV.one?, SV.pre, idsOf, AOp.rds, AOp.ops, SV.ids, C.ids0, List.map_nil, List.nil_append, true_and, and_self, Bool.false_eq_true, Bool.not_false, reduceCtorEq, Nat.reduceAdd, Nat.reduceEqDiff, ↓reduceIte, List.append_nil]
      refine hQ _ _ _ _ _ (RG.nil ?_)
      simp only [x_tn]
      refine aw_cond _ rfl trivial (fun ht => ?_) (fun hf => by cases hf)
      simp only [x_seq]
      refine aw_reg 320 (RG.go fun Q hQ => ?_)
      simp only [RX, eff, ev_k, setS_cons, AOp.isCall, setD, setEs, presOf, AOp.needs, idsOf, AOp.rds, List.map_nil, List.nil_append, true_and, Bool.false_eq_true, reduceCtorEq, Nat.reduceAdd, ↓reduceIte]
      refine hQ _ _ _ _ _ (RG.nil ?_)
      simp only [x_ret, x_tn, x_tr]
      exact Fin.ownNil (.inr rfl) rfl trivial (by decide)
    · skip
      refine C_slices_Clone_api_Item_api_Item (Nat.le_of_ble_eq_true rfl) (Nat.le_of_ble_eq_true rfl) ?_
      simp only [A_slices_Clone_api_Item_api_Item, argL, objL, List.length_nil, x_seq]
      refine aw_reg 16 (RG.go fun Q hQ => ?_)
      simp only [RX, eff, ev_k, setS_cons, setS_nil, AOp.isCall, setD, setEs, presOf, AOp.needs, idsOf, AOp.rds, List.map_nil, List.nil_append, true_and, Bool.false_eq_true, reduceCtorEq, Nat.reduceAdd, ↓reduceIte]
      refine hQ _ _ _ _ _ (RG.nil ?_)
      simp only [x_seq, x_tn]
      refine aw_reg 160 (RG.go fun Q hQ => ?_)
      simp only [RX, eff, ev_t, lk_cons, setS_cons, setS_nil, AOp.isCall, setD, setEs, presOf, AOp.needs, SV.one?, SV.pre, idsOf, AOp.rds, AOp.ops, SV.ids, C.ids0, List.map_nil, List.nil_append, true_and, and_self, Bool.false_eq_true, reduceCtorEq, Nat.reduceAdd, Nat.reduceEqDiff, ↓reduceIte, List.append_nil]
      refine hQ _ _ _ _ _ (RG.nil ?_)
      simp only [x_tn]
      refine aw_cond _ rfl trivial (fun ht => by cases ht) (fun hf => ?_)
      simp only [x_seq, x_skip, x_tn]
      refine aw_reg 320 (RG.go fun Q hQ => ?_)
      simp only [RX, eff, Nat.reduceMul, ev_t, lk_cons, lkE_cons, lkE_nil, setS_cons, setS_nil, setE_cons, setE_nil, AOp.isCall, setD, setEs, presOf, AOp.needs, SV.one?, SV.pre, idsOf, AOp.rds, AOp.ops, SV.ids, C.ids0, rowsOf, srcOf, bSRows, List.length_nil, Option.map_some, List.map_cons, List.map_nil, List.nil_append, List.cons_append, and_true, true_and, and_self, Bool.false_eq_true, reduceCtorEq, Nat.reduceAdd, Nat.reduceEqDiff, Nat.reduceLeDiff, ↓reduceIte, List.append_nil, Nat.add_zero]
      refine ⟨by simp, hQ _ _ _ _ _ (RG.nil ?_)⟩
      simp only [x_ret, x_tn]
      refine Fin.objs [] [(0, 352)] (.inr rfl) rfl trivial ?_ ?_ ?_ ?_
      · skip
        simp only [mkSt_sl, lk_cons, lkE_cons, lkE_nil, WkSV, WkSV1, WkC, WkC0, rlook, frzEs, objL, ↓reduceIte, reduceCtorEq, and_true, ne_eq, not_false_eq_true]
      · skip
        simp only [allL, lkE_cons, lkE_nil, WkEnt, rlook, frzEs, objL, isDRows, Option.some.injEq, Nat.reduceEqDiff, ↓reduceIte, reduceCtorEq, true_and, and_true, exists_eq_left', ne_eq, true_or]
        simp
      · simp [objL]
      · simp
  · skip
    refine C_slices_Clone_api_Item_api_Item (Nat.le_of_ble_eq_true rfl) (Nat.le_of_ble_eq_true rfl) ?_
    simp only [A_slices_Clone_api_Item_api_Item, argL, objL, List.length_nil, x_seq]
    refine aw_reg 16 (RG.go fun Q hQ => ?_)
    simp only [RX, eff, ev_k, setS_cons, setS_nil, AOp.isCall, setD, setEs, presOf, AOp.needs, idsOf, AOp.rds, List.map_nil, List.nil_append, true_and, Bool.false_eq_true, reduceCtorEq, Nat.reduceAdd, ↓reduceIte]
    refine hQ _ _ _ _ _ (RG.nil ?_)
    simp only [x_seq, x_tn]
    refine aw_reg 160 (RG.go fun Q hQ => ?_)
    simp only [RX, eff, ev_t, lk_cons, setS_cons, setS_nil, AOp.isCall, setD, setEs, presOf, AOp.needs, SV.one?, SV.pre, idsOf, AOp.rds, AOp.ops, SV.ids, C.ids0, List.map_nil, List.nil_append, true_and, and_self, Bool.false_eq_true, reduceCtorEq, Nat.reduceAdd, Nat.reduceEqDiff, ↓reduceIte, List.append_nil]
    refine ⟨hr, hQ _ _ _ _ _ (RG.nil ?_)⟩
    simp only [x_tn]
    refine aw_cond _ rfl trivial (fun ht => by cases ht) (fun hf => ?_)
    simp only [x_seq, x_skip, x_tn]
    refine aw_reg 320 (RG.go fun Q hQ => ?_)
    simp only [RX, eff, ev_t, lk_cons, lkE_cons, lkE_nil, setS_cons, setS_nil, setE_cons, setE_nil, AOp.isCall, setD, setEs, presOf, AOp.needs, SV.one?, SV.pre, idsOf, AOp.rds, AOp.ops, SV.ids, C.ids0, rowsOf, srcOf, bSRows, List.length_nil, Option.map_some, List.map_cons, List.map_nil, List.nil_append, List.cons_append, true_and, and_self, Bool.false_eq_true, reduceCtorEq, Nat.reduceAdd, Nat.reduceEqDiff, ↓reduceIte, Nat.zero_add, List.append_nil]
    refine ⟨⟨h1, by omega⟩, hQ _ _ _ _ _ (RG.nil ?_)⟩
    simp only [x_ret, x_tn]
    refine Fin.objs [] [(0, 352)] (.inr rfl) rfl trivial ?_ ?_ ?_ ?_
    · skip
      simp only [mkSt_sl, lk_cons, lkE_cons, lkE_nil, WkSV, WkSV1, WkC, WkC0, rlook, frzEs, objL, ↓reduceIte, reduceCtorEq, and_true, ne_eq, not_false_eq_true]
    · skip
      simp only [allL, lkE_cons, lkE_nil, WkEnt, rlook, frzEs, objL, isDRows, Option.some.injEq, Nat.reduceEqDiff, ↓reduceIte, reduceCtorEq, true_and, and_true, exists_eq_left', ne_eq, true_or]
      exact hd
    · simp [objL]
    · simp




theorem volume_shape_1_con (n : Int) : Con Try.prog 61 [I n] [] (B (!inR n 1 7)) [] := by
  refine C_volume_shape_1 (Nat.le_of_ble_eq_true rfl) (Nat.le_of_ble_eq_true rfl) ?_
  simp only [A_volume_shape_1, argL, objL, List.length_nil, x_seq]
  refine aw_reg 16 (RG.go fun Q hQ => ?_)
  simp only [RX, eff, ev_k, setS_cons, setS_nil, AOp.isCall, setD, setEs, presOf, AOp.needs, idsOf, AOp.rds, List.map_nil, List.nil_append, true_and, Bool.false_eq_true, reduceCtorEq, Nat.reduceAdd, ↓reduceIte]
  repeat refine ⟨by (first | omega | (simp; omega) | (simp; done) | exact ⟨by omega, by omega⟩ | exact ⟨by omega, by simp; omega⟩ | exact ⟨by simp; omega, by simp; omega⟩ | exact ⟨by simp, by simp; omega⟩ | (intro h; rw [h]; rfl) | (intro h; refine ⟨fun h2 => ?_, h⟩; rw [h, h2]; rfl) | (intro h; refine ⟨?_, h⟩; simp [inR] at h; omega) | (intro h; simp [inR] at h; omega) | assumption), ?_⟩
  refine hQ _ _ _ _ _ (RG.nil ?_)
  try simp only [x_seq, x_tn]
  refine aw_reg 64 (RG.go fun Q hQ => ?_)
  simp only [RX, eff, ev_t, lk_cons, setS_cons, setS_nil, AOp.isCall, setD, setEs, presOf, AOp.needs, idsOf, AOp.rds, List.map_nil, List.nil_append, true_and, Bool.false_eq_true, reduceCtorEq, Nat.reduceAdd, Nat.reduceEqDiff, ↓reduceIte]
  repeat refine ⟨by (first | omega | (simp; omega) | (simp; done) | exact ⟨by omega, by omega⟩ | exact ⟨by omega, by simp; omega⟩ | exact ⟨by simp; omega, by simp; omega⟩ | exact ⟨by simp, by simp; omega⟩ | (intro h; rw [h]; rfl) | (intro h; refine ⟨fun h2 => ?_, h⟩; rw [h, h2]; rfl) | (intro h; refine ⟨?_, h⟩; simp [inR] at h; omega) | (intro h; simp [inR] at h; omega) | assumption), ?_⟩
  refine hQ _ _ _ _ _ ?_
  refine RG.call [] (volume_within_con n 1 7) (by (repeat' (first | exact tr_nil | refine tr_cons ?_ ?_ | exact tr_v | exact tr_sl | exact tr_nils | exact tr_agg (by repeat' (first | exact trivial | rfl | exact rfl | refine ⟨?_, ?_⟩)) | exact tr_opt (by simpa using hg) tr_v | exact tr_opt (by simpa using hg) tr_sl | exact tr_opt (by simpa using hg) (tr_agg (by repeat' (first | exact trivial | rfl | exact rfl | refine ⟨?_, ?_⟩)))))) trivial (by (first | exact .inl trivial | exact .inr ⟨rfl, trivial⟩)) ?_
  refine RG.go fun Q hQ => ?_
  simp only [RX, eff, ev_t, lk_cons, setS_cons, setS_nil, AOp.isCall, setD, setEs, presOf, AOp.needs, SV.one?, SV.pre, unV, idsOf, AOp.rds, AOp.ops, SV.ids, C.ids0, Option.map_some, List.map_nil, List.nil_append, true_and, and_self, Bool.false_eq_true, reduceCtorEq, Nat.reduceAdd, Nat.reduceEqDiff, ↓reduceIte, List.append_nil]
  repeat refine ⟨by (first | omega | (simp; omega) | (simp; done) | exact ⟨by omega, by omega⟩ | exact ⟨by omega, by simp; omega⟩ | exact ⟨by simp; omega, by simp; omega⟩ | exact ⟨by simp, by simp; omega⟩ | (intro h; rw [h]; rfl) | (intro h; refine ⟨fun h2 => ?_, h⟩; rw [h, h2]; rfl) | (intro h; refine ⟨?_, h⟩; simp [inR] at h; omega) | (intro h; simp [inR] at h; omega) | assumption), ?_⟩
  refine hQ _ _ _ _ _ (RG.nil ?_)
  try simp only [x_ret, x_tn]
  exact Fin.b (.inr rfl) rfl trivial (by simp)

theorem slices_IndexFunc_int_int_con (l : List Int) (hb : l.length ≤ 1000000) : ∃ k : Int, (decide (k ≥ 0) = !(l.all fun n => inR n 1 7)) ∧ Con Try.prog 79 [.c (.sl (l.map nrow)), .c (.fn 61 [])] [] (I k) [] := by
  by_cases hall : (l.all fun n => inR n 1 7) = true
  · refine ⟨-1, by rw [hall]; rfl, ?_⟩
    refine C_slices_IndexFunc_int_int (Nat.le_of_ble_eq_true rfl) (Nat.le_of_ble_eq_true rfl) ?_
    simp only [A_slices_IndexFunc_int_int, argL, objL, List.length_nil, Nat.zero_add, x_seq]
    refine aw_reg 16 (RG.go fun Q hQ => ?_)
    simp only [RX, eff, ev_k, setS_cons, setS_nil, AOp.isCall, setD, setEs, presOf, AOp.needs, idsOf, AOp.rds, List.map_nil, List.nil_append, true_and, Bool.false_eq_true, reduceCtorEq, Nat.reduceAdd, Nat.reduceEqDiff, ↓reduceIte]
    repeat refine ⟨by (first | omega | (simp; omega) | (simp; done) | exact ⟨by omega, by omega⟩ | exact ⟨by omega, by simp; omega⟩ | exact ⟨by simp; omega, by simp; omega⟩ | exact ⟨by simp, by simp; omega⟩ | (intro h; rw [h]; rfl) | (intro h; refine ⟨fun h2 => ?_, h⟩; rw [h, h2]; rfl) | (intro h; refine ⟨?_, h⟩; simp [inR] at h; omega) | (intro h; simp [inR] at h; omega) | assumption), ?_⟩
    refine hQ _ _ _ _ _ (RG.nil ?_)
    try simp only [x_seq, x_tn]
    refine aw_reg 64 (RG.go fun Q hQ => ?_)
    simp only [RX, eff, ev_t, ev_k, lk_cons, setS_cons, setS_nil, AOp.isCall, setD, setEs, presOf, AOp.needs, SV.one?, SV.pre, idsOf, AOp.rds, AOp.ops, SV.ids, C.ids0, rowsOf, List.map_nil, List.nil_append, true_and, and_self, Bool.false_eq_true, reduceCtorEq, Nat.reduceAdd, Nat.reduceEqDiff, ↓reduceIte, Option.bind_some, List.append_nil]
    repeat refine ⟨by (first | omega | (simp; omega) | (simp; done) | exact ⟨by omega, by omega⟩ | exact ⟨by omega, by simp; omega⟩ | exact ⟨by simp; omega, by simp; omega⟩ | exact ⟨by simp, by simp; omega⟩ | (intro h; rw [h]; rfl) | (intro h; refine ⟨fun h2 => ?_, h⟩; rw [h, h2]; rfl) | (intro h; refine ⟨?_, h⟩; simp [inR] at h; omega) | (intro h; simp [inR] at h; omega) | assumption), ?_⟩
    refine hQ _ _ _ _ _ (RG.nil ?_)
    try simp only [x_block, x_tn]
    refine aw_loopK (X := { i : Nat // i ≤ l.length }) [0, 1, 7] (fun i => [(8, I i.1)]) [] (fun i => []) (fun i => l.length - i.1) (⟨0, by omega⟩) ?_ ?_
    · skip
      simp only [keepS, keepE, lk_cons, List.cons_append, List.nil_append, Nat.reduceEqDiff, ↓reduceIte, reduceCtorEq]
      refine Le.lit [] [] _ _ ?_ ?_ ?_ ?_
      · simp only [Int.cast_ofNat_Int, allL, lk_cons, lkE_nil, WkSV, WkSV1, WkC, WkC0, TrL, rlook, frzEs, Nat.reduceEqDiff, ↓reduceIte, reduceCtorEq, and_true, ne_eq, not_true_eq_false]
        all_goals (try ((repeat' (first | exact trivial | rfl | exact rfl | (refine ⟨⟨_, _, rfl⟩, ?_⟩; (first | exact drows_brow _ | exact drows_nrow _ | exact drows_irow _ | exact drows_wrow _ | assumption | (simp [isDRows, brow, C.isD]; done) | (rw [← List.map_append]; first | exact drows_brow _ | exact drows_nrow _ | exact drows_irow _ | exact drows_wrow _))) | (simp; done) | refine ⟨?_, ?_⟩))))
      · simp only [allL]
        all_goals (try ((repeat' (first | (first | exact drows_brow _ | exact drows_nrow _ | exact drows_irow _ | exact drows_wrow _ | assumption | (simp [isDRows, brow, C.isD]; done) | (rw [← List.map_append]; first | exact drows_brow _ | exact drows_nrow _ | exact drows_irow _ | exact drows_wrow _)) | rfl | refine ⟨?_, ?_⟩ | (left; (first | exact drows_brow _ | exact drows_nrow _ | exact drows_irow _ | exact drows_wrow _ | assumption | (simp [isDRows, brow, C.isD]; done) | (rw [← List.map_append]; first | exact drows_brow _ | exact drows_nrow _ | exact drows_irow _ | exact drows_wrow _)))))))
      · simp [rlook]
      · first | (simp; done) | (intro k hk; simp [rlook]; omega)
    rintro ⟨i, hi⟩
    simp only [keepS, keepE, lk_cons, List.cons_append, List.nil_append, Nat.reduceEqDiff, ↓reduceIte, reduceCtorEq]
    try simp only [x_seq]
    refine aw_reg 144 (RG.go fun Q hQ => ?_)
    simp only [RX, eff, ev_t, lk_cons, setS_cons, setS_nil, AOp.isCall, setD, setEs, presOf, AOp.needs, SV.one?, SV.pre, binV, idsOf, AOp.rds, AOp.ops, SV.ids, C.ids0, Option.map_some, List.map_nil, List.nil_append, true_and, and_self, Bool.false_eq_true, reduceCtorEq, Nat.reduceAdd, Nat.reduceEqDiff, ↓reduceIte, List.append_nil]
    repeat refine ⟨by (first | omega | (simp; omega) | (simp; done) | exact ⟨by omega, by omega⟩ | exact ⟨by omega, by simp; omega⟩ | exact ⟨by simp; omega, by simp; omega⟩ | exact ⟨by simp, by simp; omega⟩ | (intro h; rw [h]; rfl) | (intro h; refine ⟨fun h2 => ?_, h⟩; rw [h, h2]; rfl) | (intro h; refine ⟨?_, h⟩; simp [inR] at h; omega) | (intro h; simp [inR] at h; omega) | assumption), ?_⟩
    refine hQ _ _ _ _ _ (RG.nil ?_)
    try simp only [x_seq, x_tn]
    refine aw_cond _ rfl trivial (fun ht => ?_) (fun hf => ?_)
    · have hi' : i < l.length := by simpa using ht
      have hr : ((l.map nrow)[((i : Int)).toNat]?).getD [] = [.v (.int .i64 l[i])] := map_get nrow hi' []
      have hin : inR l[i] 1 7 = true := List.all_eq_true.1 hall _ (List.getElem_mem hi')
      try simp only [x_seq, x_block, x_skip, x_tn]
      refine aw_reg 192 (RG.go fun Q hQ => ?_)
      simp only [RX, eff, ev_t, lk_cons, setS_cons, setS_nil, AOp.isCall, setD, setEs, presOf, AOp.needs, idsOf, AOp.rds, List.map_nil, List.nil_append, true_and, Bool.false_eq_true, reduceCtorEq, Nat.reduceAdd, Nat.reduceEqDiff, ↓reduceIte]
      repeat refine ⟨by (first | omega | (simp; omega) | (simp; done) | exact ⟨by omega, by omega⟩ | exact ⟨by omega, by simp; omega⟩ | exact ⟨by simp; omega, by simp; omega⟩ | exact ⟨by simp, by simp; omega⟩ | (intro h; rw [h]; rfl) | (intro h; refine ⟨fun h2 => ?_, h⟩; rw [h, h2]; rfl) | (intro h; refine ⟨?_, h⟩; simp [inR] at h; omega) | (intro h; simp [inR] at h; omega) | assumption), ?_⟩
      refine hQ _ _ _ _ _ (RG.nil ?_)
      try simp only [x_seq, x_tn]
      refine aw_reg 256 (RG.go fun Q hQ => ?_)
      simp only [RX, eff, ev_t, lk_cons, setS_cons, setS_nil, AOp.isCall, setD, setEs, presOf, AOp.needs, SV.one?, SV.pre, idsOf, AOp.rds, AOp.ops, SV.ids, C.ids0, Option.getD_some, List.length_cons, List.length_nil, List.getElem?_cons_zero, List.map_nil, List.nil_append, and_true, true_and, and_self, Bool.false_eq_true, reduceCtorEq, Nat.reduceAdd, Nat.reduceEqDiff, Nat.reduceLT, ↓reduceIte, Nat.zero_add, List.append_nil, C_default, hr]
      repeat refine ⟨by (first | omega | (simp; omega) | (simp; done) | exact ⟨by omega, by omega⟩ | exact ⟨by omega, by simp; omega⟩ | exact ⟨by simp; omega, by simp; omega⟩ | exact ⟨by simp, by simp; omega⟩ | (intro h; rw [h]; rfl) | (intro h; refine ⟨fun h2 => ?_, h⟩; rw [h, h2]; rfl) | (intro h; refine ⟨?_, h⟩; simp [inR] at h; omega) | (intro h; simp [inR] at h; omega) | assumption), ?_⟩
      refine hQ _ _ _ _ _ ?_
      refine RG.callv [] rfl trivial (volume_shape_1_con l[i]) (tr_cons tr_v tr_nil) trivial (.inl trivial) ?_
      refine RG.go fun Q hQ => ?_
      simp only [RX, setS_cons, setS_nil, setD, Bool.not_true, reduceCtorEq, Nat.reduceAdd, Nat.reduceEqDiff, ↓reduceIte, hin]
      repeat refine ⟨by (first | omega | (simp; omega) | (simp; done) | exact ⟨by omega, by omega⟩ | exact ⟨by omega, by simp; omega⟩ | exact ⟨by simp; omega, by simp; omega⟩ | exact ⟨by simp, by simp; omega⟩ | (intro h; rw [h]; rfl) | (intro h; refine ⟨fun h2 => ?_, h⟩; rw [h, h2]; rfl) | (intro h; refine ⟨?_, h⟩; simp [inR] at h; omega) | (intro h; simp [inR] at h; omega) | assumption), ?_⟩
      refine hQ _ _ _ _ _ (RG.nil ?_)
      try simp only [x_tn]
      refine aw_cond _ rfl trivial (fun ht => by cases ht) (fun hf => ?_)
      try simp only [x_skip, x_tn, x_bn]
      refine aw_reg 432 (RG.go fun Q hQ => ?_)
      simp only [RX, eff, ev_t, ev_k, lk_cons, setS_cons, setS_nil, AOp.isCall, setD, setEs, presOf, AOp.needs, SV.one?, SV.pre, binV, idsOf, AOp.rds, AOp.ops, SV.ids, C.ids0, Option.map_some, List.map_nil, List.nil_append, true_and, and_self, Bool.false_eq_true, reduceCtorEq, Nat.reduceAdd, Nat.reduceEqDiff, ↓reduceIte, List.append_nil, wi i _ hi' (by omega)]
      repeat refine ⟨by (first | omega | (simp; omega) | (simp; done) | exact ⟨by omega, by omega⟩ | exact ⟨by omega, by simp; omega⟩ | exact ⟨by simp; omega, by simp; omega⟩ | exact ⟨by simp, by simp; omega⟩ | (intro h; rw [h]; rfl) | (intro h; refine ⟨fun h2 => ?_, h⟩; rw [h, h2]; rfl) | (intro h; refine ⟨?_, h⟩; simp [inR] at h; omega) | (intro h; simp [inR] at h; omega) | assumption), ?_⟩
      refine hQ _ _ _ _ _ (RG.nil ?_)
      try simp only [x_ln]
      refine ⟨⟨i + 1, hi'⟩, ?_, by simp only; omega⟩
      refine Le.lit [] [] _ _ ?_ ?_ ?_ ?_
      · simp only [allL, lk_cons, lkE_nil, WkSV, WkSV1, WkC, WkC0, TrL, rlook, frzEs, Nat.reduceEqDiff, ↓reduceIte, reduceCtorEq, and_true, ne_eq, not_true_eq_false]
        all_goals (try ((repeat' (first | exact trivial | rfl | exact rfl | (refine ⟨⟨_, _, rfl⟩, ?_⟩; (first | exact drows_brow _ | exact drows_nrow _ | exact drows_irow _ | exact drows_wrow _ | assumption | (simp [isDRows, brow, C.isD]; done) | (rw [← List.map_append]; first | exact drows_brow _ | exact drows_nrow _ | exact drows_irow _ | exact drows_wrow _))) | (simp; done) | refine ⟨?_, ?_⟩))))
      · simp only [allL]
        all_goals (try ((repeat' (first | (first | exact drows_brow _ | exact drows_nrow _ | exact drows_irow _ | exact drows_wrow _ | assumption | (simp [isDRows, brow, C.isD]; done) | (rw [← List.map_append]; first | exact drows_brow _ | exact drows_nrow _ | exact drows_irow _ | exact drows_wrow _)) | rfl | refine ⟨?_, ?_⟩ | (left; (first | exact drows_brow _ | exact drows_nrow _ | exact drows_irow _ | exact drows_wrow _ | assumption | (simp [isDRows, brow, C.isD]; done) | (rw [← List.map_append]; first | exact drows_brow _ | exact drows_nrow _ | exact drows_irow _ | exact drows_wrow _)))))))
      · simp [rlook]
      · first | (simp; done) | (intro k hk; simp [rlook]; omega)
    try simp only [x_seq, x_exit, x_tn, x_tx, x_bx, x_lx, ↓reduceIte]
    refine aw_reg 496 (RG.go fun Q hQ => ?_)
    simp only [RX, eff, ev_k, setS_cons, setS_nil, AOp.isCall, setD, setEs, presOf, AOp.needs, idsOf, AOp.rds, List.map_nil, List.nil_append, true_and, Bool.false_eq_true, reduceCtorEq, Nat.reduceAdd, Nat.reduceEqDiff, Int.reduceNeg, ↓reduceIte]
    repeat refine ⟨by (first | omega | (simp; omega) | (simp; done) | exact ⟨by omega, by omega⟩ | exact ⟨by omega, by simp; omega⟩ | exact ⟨by simp; omega, by simp; omega⟩ | exact ⟨by simp, by simp; omega⟩ | (intro h; rw [h]; rfl) | (intro h; refine ⟨fun h2 => ?_, h⟩; rw [h, h2]; rfl) | (intro h; refine ⟨?_, h⟩; simp [inR] at h; omega) | (intro h; simp [inR] at h; omega) | assumption), ?_⟩
    refine hQ _ _ _ _ _ (RG.nil ?_)
    try simp only [x_ret, x_tn]
    exact Fin.scalar (.inr rfl) rfl trivial rfl trivial
  · have hall' : ∃ x ∈ l, (!inR x 1 7) = true := by
      simp only [List.all_eq_true, Classical.not_forall] at hall
      obtain ⟨x, hx, hn⟩ := hall
      exact ⟨x, hx, by simpa using hn⟩
    have hk : l.findIdx (fun n => !inR n 1 7) < l.length := List.findIdx_lt_length_of_exists hall'
    have hk1 : (!inR l[l.findIdx (fun n => !inR n 1 7)] 1 7) = true := List.findIdx_getElem (p := fun n => !inR n 1 7) (w := hk)
    have hk2 : ∀ i (hi : i < l.length), i < l.findIdx (fun n => !inR n 1 7) → (!inR l[i] 1 7) = false := fun i hi h => by simpa using List.not_of_lt_findIdx h
    obtain ⟨k, hkk⟩ : ∃ k, k = l.findIdx (fun n => !inR n 1 7) := ⟨_, rfl⟩
    simp only [← hkk] at hk hk1 hk2
    refine ⟨k, by rw [Bool.eq_false_iff.2 hall]; simp, ?_⟩
    refine C_slices_IndexFunc_int_int (Nat.le_of_ble_eq_true rfl) (Nat.le_of_ble_eq_true rfl) ?_
    simp only [A_slices_IndexFunc_int_int, argL, objL, List.length_nil, Nat.zero_add, x_seq]
    refine aw_reg 16 (RG.go fun Q hQ => ?_)
    simp only [RX, eff, ev_k, setS_cons, setS_nil, AOp.isCall, setD, setEs, presOf, AOp.needs, idsOf, AOp.rds, List.map_nil, List.nil_append, true_and, Bool.false_eq_true, reduceCtorEq, Nat.reduceAdd, Nat.reduceEqDiff, ↓reduceIte]
    repeat refine ⟨by (first | omega | (simp; omega) | (simp; done) | exact ⟨by omega, by omega⟩ | exact ⟨by omega, by simp; omega⟩ | exact ⟨by simp; omega, by simp; omega⟩ | exact ⟨by simp, by simp; omega⟩ | (intro h; rw [h]; rfl) | (intro h; refine ⟨fun h2 => ?_, h⟩; rw [h, h2]; rfl) | (intro h; refine ⟨?_, h⟩; simp [inR] at h; omega) | (intro h; simp [inR] at h; omega) | assumption), ?_⟩
    refine hQ _ _ _ _ _ (RG.nil ?_)
    try simp only [x_seq, x_tn]
    refine aw_reg 64 (RG.go fun Q hQ => ?_)
    simp only [RX, eff, ev_t, ev_k, lk_cons, setS_cons, setS_nil, AOp.isCall, setD, setEs, presOf, AOp.needs, SV.one?, SV.pre, idsOf, AOp.rds, AOp.ops, SV.ids, C.ids0, rowsOf, List.map_nil, List.nil_append, true_and, and_self, Bool.false_eq_true, reduceCtorEq, Nat.reduceAdd, Nat.reduceEqDiff, ↓reduceIte, Option.bind_some, List.append_nil]
    repeat refine ⟨by (first | omega | (simp; omega) | (simp; done) | exact ⟨by omega, by omega⟩ | exact ⟨by omega, by simp; omega⟩ | exact ⟨by simp; omega, by simp; omega⟩ | exact ⟨by simp, by simp; omega⟩ | (intro h; rw [h]; rfl) | (intro h; refine ⟨fun h2 => ?_, h⟩; rw [h, h2]; rfl) | (intro h; refine ⟨?_, h⟩; simp [inR] at h; omega) | (intro h; simp [inR] at h; omega) | assumption), ?_⟩
    refine hQ _ _ _ _ _ (RG.nil ?_)
    try simp only [x_block, x_tn]
    refine aw_loopK (X := { i : Nat // i ≤ k }) [0, 1, 7] (fun i => [(8, I i.1)]) [] (fun i => []) (fun i => l.length - i.1) (⟨0, by omega⟩) ?_ ?_
    · skip
      simp only [keepS, keepE, lk_cons, List.cons_append, List.nil_append, Nat.reduceEqDiff, ↓reduceIte, reduceCtorEq]
      refine Le.lit [] [] _ _ ?_ ?_ ?_ ?_
      · simp only [Int.cast_ofNat_Int, allL, lk_cons, lkE_nil, WkSV, WkSV1, WkC, WkC0, TrL, rlook, frzEs, Nat.reduceEqDiff, ↓reduceIte, reduceCtorEq, and_true, ne_eq, not_true_eq_false]
        all_goals (try ((repeat' (first | exact trivial | rfl | exact rfl | (refine ⟨⟨_, _, rfl⟩, ?_⟩; (first | exact drows_brow _ | exact drows_nrow _ | exact drows_irow _ | exact drows_wrow _ | assumption | (simp [isDRows, brow, C.isD]; done) | (rw [← List.map_append]; first | exact drows_brow _ | exact drows_nrow _ | exact drows_irow _ | exact drows_wrow _))) | (simp; done) | refine ⟨?_, ?_⟩))))
      · simp only [allL]
        all_goals (try ((repeat' (first | (first | exact drows_brow _ | exact drows_nrow _ | exact drows_irow _ | exact drows_wrow _ | assumption | (simp [isDRows, brow, C.isD]; done) | (rw [← List.map_append]; first | exact drows_brow _ | exact drows_nrow _ | exact drows_irow _ | exact drows_wrow _)) | rfl | refine ⟨?_, ?_⟩ | (left; (first | exact drows_brow _ | exact drows_nrow _ | exact drows_irow _ | exact drows_wrow _ | assumption | (simp [isDRows, brow, C.isD]; done) | (rw [← List.map_append]; first | exact drows_brow _ | exact drows_nrow _ | exact drows_irow _ | exact drows_wrow _)))))))
      · simp [rlook]
      · first | (simp; done) | (intro k hk; simp [rlook]; omega)
    rintro ⟨i, hi⟩
    simp only [keepS, keepE, lk_cons, List.cons_append, List.nil_append, Nat.reduceEqDiff, ↓reduceIte, reduceCtorEq]
    try simp only [x_seq]
    refine aw_reg 144 (RG.go fun Q hQ => ?_)
    simp only [RX, eff, ev_t, lk_cons, setS_cons, setS_nil, AOp.isCall, setD, setEs, presOf, AOp.needs, SV.one?, SV.pre, binV, idsOf, AOp.rds, AOp.ops, SV.ids, C.ids0, Option.map_some, List.map_nil, List.nil_append, true_and, and_self, Bool.false_eq_true, reduceCtorEq, Nat.reduceAdd, Nat.reduceEqDiff, ↓reduceIte, List.append_nil]
    repeat refine ⟨by (first | omega | (simp; omega) | (simp; done) | exact ⟨by omega, by omega⟩ | exact ⟨by omega, by simp; omega⟩ | exact ⟨by simp; omega, by simp; omega⟩ | exact ⟨by simp, by simp; omega⟩ | (intro h; rw [h]; rfl) | (intro h; refine ⟨fun h2 => ?_, h⟩; rw [h, h2]; rfl) | (intro h; refine ⟨?_, h⟩; simp [inR] at h; omega) | (intro h; simp [inR] at h; omega) | assumption), ?_⟩
    refine hQ _ _ _ _ _ (RG.nil ?_)
    try simp only [x_seq, x_tn]
    refine aw_cond _ rfl trivial (fun ht => ?_) (fun hf => ?_)
    · have hi' : i < l.length := by omega
      have hr : ((l.map nrow)[((i : Int)).toNat]?).getD [] = [.v (.int .i64 l[i])] := map_get nrow hi' []
      try simp only [x_seq, x_block, x_skip, x_tn]
      refine aw_reg 192 (RG.go fun Q hQ => ?_)
      simp only [RX, eff, ev_t, lk_cons, setS_cons, setS_nil, AOp.isCall, setD, setEs, presOf, AOp.needs, idsOf, AOp.rds, List.map_nil, List.nil_append, true_and, Bool.false_eq_true, reduceCtorEq, Nat.reduceAdd, Nat.reduceEqDiff, ↓reduceIte]
      repeat refine ⟨by (first | omega | (simp; omega) | (simp; done) | exact ⟨by omega, by omega⟩ | exact ⟨by omega, by simp; omega⟩ | exact ⟨by simp; omega, by simp; omega⟩ | exact ⟨by simp, by simp; omega⟩ | (intro h; rw [h]; rfl) | (intro h; refine ⟨fun h2 => ?_, h⟩; rw [h, h2]; rfl) | (intro h; refine ⟨?_, h⟩; simp [inR] at h; omega) | (intro h; simp [inR] at h; omega) | assumption), ?_⟩
      refine hQ _ _ _ _ _ (RG.nil ?_)
      try simp only [x_seq, x_tn]
      refine aw_reg 256 (RG.go fun Q hQ => ?_)
      simp only [RX, eff, ev_t, lk_cons, setS_cons, setS_nil, AOp.isCall, setD, setEs, presOf, AOp.needs, SV.one?, SV.pre, idsOf, AOp.rds, AOp.ops, SV.ids, C.ids0, Option.getD_some, List.length_cons, List.length_nil, List.getElem?_cons_zero, List.map_nil, List.nil_append, and_true, true_and, and_self, Bool.false_eq_true, reduceCtorEq, Nat.reduceAdd, Nat.reduceEqDiff, Nat.reduceLT, ↓reduceIte, Nat.zero_add, List.append_nil, C_default, hr]
      repeat refine ⟨by (first | omega | (simp; omega) | (simp; done) | exact ⟨by omega, by omega⟩ | exact ⟨by omega, by simp; omega⟩ | exact ⟨by simp; omega, by simp; omega⟩ | exact ⟨by simp, by simp; omega⟩ | (intro h; rw [h]; rfl) | (intro h; refine ⟨fun h2 => ?_, h⟩; rw [h, h2]; rfl) | (intro h; refine ⟨?_, h⟩; simp [inR] at h; omega) | (intro h; simp [inR] at h; omega) | assumption), ?_⟩
      refine hQ _ _ _ _ _ ?_
      refine RG.callv [] rfl trivial (volume_shape_1_con l[i]) (tr_cons tr_v tr_nil) trivial (.inl trivial) ?_
      refine RG.go fun Q hQ => ?_
      simp only [RX, setS_cons, setS_nil, setD, reduceCtorEq, Nat.reduceAdd, Nat.reduceEqDiff, ↓reduceIte]
      repeat refine ⟨by (first | omega | (simp; omega) | (simp; done) | exact ⟨by omega, by omega⟩ | exact ⟨by omega, by simp; omega⟩ | exact ⟨by simp; omega, by simp; omega⟩ | exact ⟨by simp, by simp; omega⟩ | (intro h; rw [h]; rfl) | (intro h; refine ⟨fun h2 => ?_, h⟩; rw [h, h2]; rfl) | (intro h; refine ⟨?_, h⟩; simp [inR] at h; omega) | (intro h; simp [inR] at h; omega) | assumption), ?_⟩
      refine hQ _ _ _ _ _ (RG.nil ?_)
      try simp only [x_tn]
      refine aw_cond _ rfl trivial (fun ht => ?_) (fun hf => ?_)
      · have hik : i = k := by
          rcases Nat.lt_or_ge i k with h | h
          · rw [hk2 i hi' h] at ht; cases ht
          · omega
        subst hik
        try simp only [x_seq]
        refine aw_reg 400 (RG.go fun Q hQ => ?_)
        simp only [RX, eff, ev_t, lk_cons, setS_cons, setS_nil, AOp.isCall, setD, setEs, presOf, AOp.needs, idsOf, AOp.rds, List.map_nil, List.nil_append, true_and, Bool.false_eq_true, reduceCtorEq, Nat.reduceAdd, Nat.reduceEqDiff, ↓reduceIte]
        repeat refine ⟨by (first | omega | (simp; omega) | (simp; done) | exact ⟨by omega, by omega⟩ | exact ⟨by omega, by simp; omega⟩ | exact ⟨by simp; omega, by simp; omega⟩ | exact ⟨by simp, by simp; omega⟩ | (intro h; rw [h]; rfl) | (intro h; refine ⟨fun h2 => ?_, h⟩; rw [h, h2]; rfl) | (intro h; refine ⟨?_, h⟩; simp [inR] at h; omega) | (intro h; simp [inR] at h; omega) | assumption), ?_⟩
        refine hQ _ _ _ _ _ (RG.nil ?_)
        try simp only [x_ret, x_tn, x_tr, x_br, x_lr]
        exact Fin.scalar (.inr rfl) rfl trivial rfl trivial
      have hik : i < k := by
        rcases Nat.lt_or_ge i k with h | h
        · exact h
        · have : i = k := by omega
          subst this
          rw [hk1] at hf; cases hf
      try simp only [x_skip, x_tn, x_bn]
      refine aw_reg 432 (RG.go fun Q hQ => ?_)
      simp only [RX, eff, ev_t, ev_k, lk_cons, setS_cons, setS_nil, AOp.isCall, setD, setEs, presOf, AOp.needs, SV.one?, SV.pre, binV, idsOf, AOp.rds, AOp.ops, SV.ids, C.ids0, Option.map_some, List.map_nil, List.nil_append, true_and, and_self, Bool.false_eq_true, reduceCtorEq, Nat.reduceAdd, Nat.reduceEqDiff, ↓reduceIte, List.append_nil, wi i _ hi' (by omega)]
      repeat refine ⟨by (first | omega | (simp; omega) | (simp; done) | exact ⟨by omega, by omega⟩ | exact ⟨by omega, by simp; omega⟩ | exact ⟨by simp; omega, by simp; omega⟩ | exact ⟨by simp, by simp; omega⟩ | (intro h; rw [h]; rfl) | (intro h; refine ⟨fun h2 => ?_, h⟩; rw [h, h2]; rfl) | (intro h; refine ⟨?_, h⟩; simp [inR] at h; omega) | (intro h; simp [inR] at h; omega) | assumption), ?_⟩
      refine hQ _ _ _ _ _ (RG.nil ?_)
      try simp only [x_ln]
      refine ⟨⟨i + 1, hik⟩, ?_, by simp only; omega⟩
      refine Le.lit [] [] _ _ ?_ ?_ ?_ ?_
      · simp only [allL, lk_cons, lkE_nil, WkSV, WkSV1, WkC, WkC0, TrL, rlook, frzEs, Nat.reduceEqDiff, ↓reduceIte, reduceCtorEq, and_true, ne_eq, not_true_eq_false]
        all_goals (try ((repeat' (first | exact trivial | rfl | exact rfl | (refine ⟨⟨_, _, rfl⟩, ?_⟩; (first | exact drows_brow _ | exact drows_nrow _ | exact drows_irow _ | exact drows_wrow _ | assumption | (simp [isDRows, brow, C.isD]; done) | (rw [← List.map_append]; first | exact drows_brow _ | exact drows_nrow _ | exact drows_irow _ | exact drows_wrow _))) | (simp; done) | refine ⟨?_, ?_⟩))))
      · simp only [allL]
        all_goals (try ((repeat' (first | (first | exact drows_brow _ | exact drows_nrow _ | exact drows_irow _ | exact drows_wrow _ | assumption | (simp [isDRows, brow, C.isD]; done) | (rw [← List.map_append]; first | exact drows_brow _ | exact drows_nrow _ | exact drows_irow _ | exact drows_wrow _)) | rfl | refine ⟨?_, ?_⟩ | (left; (first | exact drows_brow _ | exact drows_nrow _ | exact drows_irow _ | exact drows_wrow _ | assumption | (simp [isDRows, brow, C.isD]; done) | (rw [← List.map_append]; first | exact drows_brow _ | exact drows_nrow _ | exact drows_irow _ | exact drows_wrow _)))))))
      · simp [rlook]
      · first | (simp; done) | (intro k hk; simp [rlook]; omega)
    simp at hf
    omega

theorem slices_ContainsFunc_int_int_con (l : List Int) (hb : l.length ≤ 1000000) : Con Try.prog 60 [.c (.sl (l.map nrow)), .c (.fn 61 [])] [] (B (!(l.all fun n => inR n 1 7))) [] := by
  obtain ⟨k, hk, hc⟩ := slices_IndexFunc_int_int_con l hb
  refine C_slices_ContainsFunc_int_int (Nat.le_of_ble_eq_true rfl) (Nat.le_of_ble_eq_true rfl) ?_
  simp only [A_slices_ContainsFunc_int_int, argL, objL, List.length_nil, Nat.zero_add, x_seq]
  refine aw_reg 16 (RG.go fun Q hQ => ?_)
  simp only [RX, eff, ev_k, setS_cons, setS_nil, AOp.isCall, setD, setEs, presOf, AOp.needs, idsOf, AOp.rds, List.map_nil, List.nil_append, true_and, Bool.false_eq_true, reduceCtorEq, Nat.reduceAdd, Nat.reduceEqDiff, ↓reduceIte]
  repeat refine ⟨by (first | omega | (simp; omega) | (simp; done) | exact ⟨by omega, by omega⟩ | exact ⟨by omega, by simp; omega⟩ | exact ⟨by simp; omega, by simp; omega⟩ | exact ⟨by simp, by simp; omega⟩ | (intro h; rw [h]; rfl) | (intro h; refine ⟨fun h2 => ?_, h⟩; rw [h, h2]; rfl) | (intro h; refine ⟨?_, h⟩; simp [inR] at h; omega) | (intro h; simp [inR] at h; omega) | assumption), ?_⟩
  refine hQ _ _ _ _ _ (RG.nil ?_)
  try simp only [x_seq, x_tn]
  refine aw_reg 64 (RG.go fun Q hQ => ?_)
  simp only [RX, eff, ev_t, lk_cons, setS_cons, setS_nil, AOp.isCall, setD, setEs, presOf, AOp.needs, idsOf, AOp.rds, List.map_nil, List.nil_append, true_and, Bool.false_eq_true, reduceCtorEq, Nat.reduceAdd, Nat.reduceEqDiff, ↓reduceIte]
  repeat refine ⟨by (first | omega | (simp; omega) | (simp; done) | exact ⟨by omega, by omega⟩ | exact ⟨by omega, by simp; omega⟩ | exact ⟨by simp; omega, by simp; omega⟩ | exact ⟨by simp, by simp; omega⟩ | (intro h; rw [h]; rfl) | (intro h; refine ⟨fun h2 => ?_, h⟩; rw [h, h2]; rfl) | (intro h; refine ⟨?_, h⟩; simp [inR] at h; omega) | (intro h; simp [inR] at h; omega) | assumption), ?_⟩
  refine hQ _ _ _ _ _ ?_
  refine RG.call [] hc (tr_cons tr_sl (tr_cons (.intro rfl trivial) tr_nil)) trivial (.inl trivial) ?_
  refine RG.go fun Q hQ => ?_
  simp only [RX, eff, ev_t, ev_k, lk_cons, setS_cons, setS_nil, AOp.isCall, setD, setEs, presOf, AOp.needs, SV.one?, SV.pre, binV, idsOf, AOp.rds, AOp.ops, SV.ids, C.ids0, Option.map_some, List.map_nil, List.nil_append, true_and, and_self, Bool.false_eq_true, reduceCtorEq, ge_iff_le, Nat.reduceAdd, Nat.reduceEqDiff, ↓reduceIte, List.append_nil]
  repeat refine ⟨by (first | omega | (simp; omega) | (simp; done) | exact ⟨by omega, by omega⟩ | exact ⟨by omega, by simp; omega⟩ | exact ⟨by simp; omega, by simp; omega⟩ | exact ⟨by simp, by simp; omega⟩ | (intro h; rw [h]; rfl) | (intro h; refine ⟨fun h2 => ?_, h⟩; rw [h, h2]; rfl) | (intro h; refine ⟨?_, h⟩; simp [inR] at h; omega) | (intro h; simp [inR] at h; omega) | assumption), ?_⟩
  refine hQ _ _ _ _ _ (RG.nil ?_)
  try simp only [x_ret, x_tn]
  exact Fin.b (.inr rfl) rfl trivial hk

def shapeP (id blocks size per : Int) (place : List Int) (total : Int) : Bool :=
  inR id 0 7 && inR blocks 1 256 && inR size 1 32 && inR per 1 blocks && decide ((place.length : Int) = chunksN blocks per) && inR total 0 1099511627776 && place.all fun n => inR n 1 7
def shapeV (v : VOL) : Bool := shapeP v.id v.blocks v.size v.per v.place v.total

end Go.Abs

namespace Go.Abs
open Go Go.Proofs
set_option maxRecDepth 100000
set_option linter.unusedSimpArgs false
set_option maxHeartbeats 2000000

theorem inR_iff (n a b : Int) : inR n a b = true ↔ a ≤ n ∧ n ≤ b := by simp [inR]

theorem volume_shape_con (v : VOL) (hb : v.place.length ≤ 1000000) : Con Try.prog 41 [.agg (volC v)] [] (B (shapeV v)) [] := by
  have hw : inR v.blocks 1 256 = true → inR v.per 1 v.blocks = true → IntKind.i64.wrap (IntKind.i64.wrap (v.blocks + v.per) - 1) = v.blocks + v.per - 1 := fun h1 h2 => by
    rw [inR_iff] at h1 h2
    rw [w64 (v.blocks + v.per) (by omega) (by omega), w64 _ (by omega) (by omega)]
  have hq : inR v.blocks 1 256 = true → inR v.per 1 v.blocks = true → IntKind.i64.wrap ((v.blocks + v.per - 1).tdiv v.per) = chunksN v.blocks v.per := fun h1 h2 => by
    rw [inR_iff] at h1 h2
    have h3 : (v.blocks + v.per - 1).tdiv v.per = (v.blocks + v.per - 1) / v.per := Int.tdiv_eq_ediv_of_nonneg (by omega)
    have h4 := Int.ediv_le_self v.per (show 0 ≤ v.blocks + v.per - 1 by omega)
    have h5 := Int.ediv_nonneg (show 0 ≤ v.blocks + v.per - 1 by omega) (show 0 ≤ v.per by omega)
    unfold chunksN
    rw [h3, w64 _ (by omega) (by omega)]
  refine C_volume_shape (Nat.le_of_ble_eq_true rfl) (Nat.le_of_ble_eq_true rfl) ?_
  simp only [A_volume_shape, argL, objL, List.length_nil, x_seq]
  refine aw_reg 16 (RG.go fun Q hQ => ?_)
  simp only [RX, eff, ev_t, ev_k, lk_cons, lkE_nil, setS_cons, setS_nil, setE_nil, AOp.isCall, setD, setEs, presOf, AOp.needs, SV.pre, SV.cells, idsOf, AOp.rds, AOp.ops, SV.ids, List.map_cons, List.map_nil, List.nil_append, true_and, and_self, Bool.false_eq_true, reduceCtorEq, Nat.reduceAdd, Nat.reduceEqDiff, ↓reduceIte, List.append_nil, volC, vC]
  repeat refine ⟨by (first | omega | (simp; omega) | (simp; done) | exact ⟨by omega, by omega⟩ | exact ⟨by omega, by simp; omega⟩ | exact ⟨by simp; omega, by simp; omega⟩ | exact ⟨by simp, by simp; omega⟩ | (intro h; rw [h]; rfl) | (intro h; refine ⟨fun h2 => ?_, h⟩; rw [h, h2]; rfl) | (intro h; refine ⟨?_, h⟩; simp [inR] at h; omega) | (intro h; simp [inR] at h; omega) | assumption), ?_⟩
  refine hQ _ _ _ _ _ (RG.nil ?_)
  try simp only [x_seq, x_tn]
  refine aw_draw 64 (RG.go fun Q hQ => ?_)
  simp only [RX, eff, ev_t, lk_cons, lkE_cons, setS_cons, setS_nil, AOp.isCall, setD, setEs, presOf, AOp.needs, SV.one?, SV.pre, idsOf, AOp.rds, AOp.ops, SV.ids, C.ids0, List.getElem?_cons_zero, Option.map_some, List.map_nil, List.nil_append, List.cons_append, true_and, and_self, Bool.false_eq_true, reduceCtorEq, Nat.reduceAdd, Nat.reduceEqDiff, ↓reduceIte, List.append_nil, Nat.add_zero]
  repeat refine ⟨by (first | omega | (simp; omega) | (simp; done) | exact ⟨by omega, by omega⟩ | exact ⟨by omega, by simp; omega⟩ | exact ⟨by simp; omega, by simp; omega⟩ | exact ⟨by simp, by simp; omega⟩ | (intro h; rw [h]; rfl) | (intro h; refine ⟨fun h2 => ?_, h⟩; rw [h, h2]; rfl) | (intro h; refine ⟨?_, h⟩; simp [inR] at h; omega) | (intro h; simp [inR] at h; omega) | assumption), ?_⟩
  refine hQ _ _ _ _ _ ?_
  refine RG.call [] (volume_within_con v.id 0 7) (by (repeat' (first | exact tr_nil | refine tr_cons ?_ ?_ | exact tr_v | exact tr_sl | exact tr_nils | exact tr_agg (by repeat' (first | exact trivial | rfl | exact rfl | refine ⟨?_, ?_⟩)) | exact tr_opt (by simpa using hg) tr_v | exact tr_opt (by simpa using hg) tr_sl | exact tr_opt (by simpa using hg) (tr_agg (by repeat' (first | exact trivial | rfl | exact rfl | refine ⟨?_, ?_⟩)))))) trivial (by (first | exact .inl trivial | exact .inr ⟨rfl, trivial⟩)) ?_
  refine RG.go fun Q hQ => ?_
  simp only [RX, eff, ev_t, lk_cons, lkE_cons, setS_cons, setS_nil, AOp.isCall, setD, setEs, presOf, AOp.needs, SV.one?, SV.pre, gval, unV, idsOf, AOp.rds, AOp.ops, SV.ids, C.ids0, List.getElem?_cons_zero, List.getElem?_cons_succ, Option.map_some, List.map_nil, List.nil_append, List.cons_append, and_true, true_and, and_self, Bool.true_and, Bool.false_eq_true, beq_false, implies_true, imp_self, reduceCtorEq, Nat.reduceAdd, Nat.reduceEqDiff, ↓reduceIte, Nat.zero_add, List.append_nil]
  repeat refine ⟨by (first | omega | (simp; omega) | (simp; done) | exact ⟨by omega, by omega⟩ | exact ⟨by omega, by simp; omega⟩ | exact ⟨by simp; omega, by simp; omega⟩ | exact ⟨by simp, by simp; omega⟩ | (intro h; rw [h]; rfl) | (intro h; refine ⟨fun h2 => ?_, h⟩; rw [h, h2]; rfl) | (intro h; refine ⟨?_, h⟩; simp [inR] at h; omega) | (intro h; simp [inR] at h; omega) | assumption), ?_⟩
  refine hQ _ _ _ _ _ ?_
  refine RG.callg _ _ [] rfl (fun hg => ⟨_, (volume_within_con v.blocks 1 256), by (repeat' (first | exact tr_nil | refine tr_cons ?_ ?_ | exact tr_v | exact tr_sl | exact tr_nils | exact tr_agg (by repeat' (first | exact trivial | rfl | exact rfl | refine ⟨?_, ?_⟩)) | exact tr_opt (by simpa using hg) tr_v | exact tr_opt (by simpa using hg) tr_sl | exact tr_opt (by simpa using hg) (tr_agg (by repeat' (first | exact trivial | rfl | exact rfl | refine ⟨?_, ?_⟩))))), trivial, by (first | exact .inl trivial | exact .inr ⟨rfl, trivial⟩)⟩) ?_
  refine RG.go fun Q hQ => ?_
  simp only [RX, eff, ev_t, ev_k, lk_cons, lkE_cons, setS_cons, setS_nil, AOp.isCall, setD, setEs, presOf, AOp.needs, SV.one?, SV.pre, gval, unV, idsOf, AOp.rds, AOp.ops, SV.ids, C.ids0, List.getElem?_cons_zero, List.getElem?_cons_succ, Option.map_some, List.map_nil, List.nil_append, List.cons_append, and_true, true_and, and_self, Bool.true_and, Bool.false_eq_true, beq_false, implies_true, imp_self, Bool.if_true_left, Bool.decide_eq_true, reduceCtorEq, Nat.reduceAdd, Nat.reduceEqDiff, ↓reduceIte, Nat.zero_add, List.append_nil]
  repeat refine ⟨by (first | omega | (simp; omega) | (simp; done) | exact ⟨by omega, by omega⟩ | exact ⟨by omega, by simp; omega⟩ | exact ⟨by simp; omega, by simp; omega⟩ | exact ⟨by simp, by simp; omega⟩ | (intro h; rw [h]; rfl) | (intro h; refine ⟨fun h2 => ?_, h⟩; rw [h, h2]; rfl) | (intro h; refine ⟨?_, h⟩; simp [inR] at h; omega) | (intro h; simp [inR] at h; omega) | assumption), ?_⟩
  refine hQ _ _ _ _ _ ?_
  refine RG.callg _ _ [] rfl (fun hg => ⟨_, (volume_within_con v.size 1 32), by (repeat' (first | exact tr_nil | refine tr_cons ?_ ?_ | exact tr_v | exact tr_sl | exact tr_nils | exact tr_agg (by repeat' (first | exact trivial | rfl | exact rfl | refine ⟨?_, ?_⟩)) | exact tr_opt (by simpa using hg) tr_v | exact tr_opt (by simpa using hg) tr_sl | exact tr_opt (by simpa using hg) (tr_agg (by repeat' (first | exact trivial | rfl | exact rfl | refine ⟨?_, ?_⟩))))), trivial, by (first | exact .inl trivial | exact .inr ⟨rfl, trivial⟩)⟩) ?_
  refine RG.go fun Q hQ => ?_
  simp only [RX, eff, ev_t, ev_k, lk_cons, lkE_cons, setS_cons, setS_nil, AOp.isCall, setD, setEs, presOf, AOp.needs, SV.one?, SV.pre, gval, unV, idsOf, AOp.rds, AOp.ops, SV.ids, C.ids0, List.getElem?_cons_zero, List.getElem?_cons_succ, Option.map_some, List.map_nil, List.nil_append, List.cons_append, and_true, true_and, and_self, Bool.true_and, Bool.false_eq_true, beq_false, implies_true, imp_self, Bool.if_true_left, Bool.decide_eq_true, reduceCtorEq, Nat.reduceAdd, Nat.reduceEqDiff, ↓reduceIte, Nat.zero_add, List.append_nil]
  repeat refine ⟨by (first | omega | (simp; omega) | (simp; done) | exact ⟨by omega, by omega⟩ | exact ⟨by omega, by simp; omega⟩ | exact ⟨by simp; omega, by simp; omega⟩ | exact ⟨by simp, by simp; omega⟩ | (intro h; rw [h]; rfl) | (intro h; refine ⟨fun h2 => ?_, h⟩; rw [h, h2]; rfl) | (intro h; refine ⟨?_, h⟩; simp [inR] at h; omega) | (intro h; simp [inR] at h; omega) | assumption), ?_⟩
  refine hQ _ _ _ _ _ ?_
  refine RG.callg _ _ [] rfl (fun hg => ⟨_, (volume_within_con v.per 1 v.blocks), by (repeat' (first | exact tr_nil | refine tr_cons ?_ ?_ | exact tr_v | exact tr_sl | exact tr_nils | exact tr_agg (by repeat' (first | exact trivial | rfl | exact rfl | refine ⟨?_, ?_⟩)) | exact tr_opt (by simpa using hg) tr_v | exact tr_opt (by simpa using hg) tr_sl | exact tr_opt (by simpa using hg) (tr_agg (by repeat' (first | exact trivial | rfl | exact rfl | refine ⟨?_, ?_⟩))))), trivial, by (first | exact .inl trivial | exact .inr ⟨rfl, trivial⟩)⟩) ?_
  refine RG.go fun Q hQ => ?_
  simp only [RX, eff, ev_t, ev_k, lk_cons, lkE_cons, setS_cons, setS_nil, AOp.isCall, setD, setEs, presOf, AOp.needs, SV.one?, SV.pre, gval, binV, unV, idsOf, AOp.rds, AOp.ops, SV.ids, C.ids0, rowsOf, List.getElem?_cons_zero, List.getElem?_cons_succ, Option.map_some, List.map_nil, List.nil_append, List.cons_append, and_true, true_and, and_self, Bool.true_and, Bool.false_eq_true, beq_false, implies_true, imp_self, Bool.if_true_left, Bool.decide_eq_true, reduceCtorEq, Nat.reduceAdd, Nat.reduceEqDiff, ↓reduceIte, Option.bind_some, Nat.zero_add, List.append_nil]
  repeat refine ⟨by (first | omega | (simp; omega) | (simp; done) | exact ⟨by omega, by omega⟩ | exact ⟨by omega, by simp; omega⟩ | exact ⟨by simp; omega, by simp; omega⟩ | exact ⟨by simp, by simp; omega⟩ | (intro h; rw [h]; rfl) | (intro h; refine ⟨fun h2 => ?_, h⟩; rw [h, h2]; rfl) | (intro h; refine ⟨?_, h⟩; simp [inR] at h; omega) | (intro h; simp [inR] at h; omega) | assumption), ?_⟩
  refine hQ _ _ _ _ _ ?_
  refine RG.callg _ _ [] rfl (fun hg => ⟨_, (volume_within_con v.total 0 1099511627776), by (repeat' (first | exact tr_nil | refine tr_cons ?_ ?_ | exact tr_v | exact tr_sl | exact tr_nils | exact tr_agg (by repeat' (first | exact trivial | rfl | exact rfl | refine ⟨?_, ?_⟩)) | exact tr_opt (by simpa using hg) tr_v | exact tr_opt (by simpa using hg) tr_sl | exact tr_opt (by simpa using hg) (tr_agg (by repeat' (first | exact trivial | rfl | exact rfl | refine ⟨?_, ?_⟩))))), trivial, by (first | exact .inl trivial | exact .inr ⟨rfl, trivial⟩)⟩) ?_
  refine RG.go fun Q hQ => ?_
  simp only [RX, eff, ev_t, ev_k, lk_cons, setS_cons, setS_nil, AOp.isCall, setD, setEs, presOf, AOp.needs, SV.one?, SV.pre, gval, unV, idsOf, AOp.rds, AOp.ops, SV.ids, C.ids0, Option.map_some, List.map_nil, List.nil_append, and_true, true_and, and_self, Bool.true_and, Bool.false_eq_true, beq_false, implies_true, imp_self, Bool.if_true_left, Bool.decide_eq_true, reduceCtorEq, Nat.reduceAdd, Nat.reduceEqDiff, ↓reduceIte, List.append_nil]
  repeat refine ⟨by (first | omega | (simp; omega) | (simp; done) | exact ⟨by omega, by omega⟩ | exact ⟨by omega, by simp; omega⟩ | exact ⟨by simp; omega, by simp; omega⟩ | exact ⟨by simp, by simp; omega⟩ | (intro h; rw [h]; rfl) | (intro h; refine ⟨fun h2 => ?_, h⟩; rw [h, h2]; rfl) | (intro h; refine ⟨?_, h⟩; simp [inR] at h; omega) | (intro h; simp [inR] at h; omega) | assumption), ?_⟩
  refine hQ _ _ _ _ _ (RG.nil ⟨by decide +kernel, ?_⟩)
  try simp only [x_tn]
  refine aw_cond _ rfl trivial (fun ht => ?_) (fun hf => ?_)
  · skip
    try simp only [x_seq]
    refine aw_reg 900 (RG.go fun Q hQ => ?_)
    simp only [RX, eff, ev_k, setS_cons, AOp.isCall, setD, setEs, presOf, AOp.needs, idsOf, AOp.rds, List.map_nil, List.nil_append, true_and, Bool.false_eq_true, reduceCtorEq, Nat.reduceAdd, Nat.reduceEqDiff, ↓reduceIte]
    repeat refine ⟨by (first | omega | (simp; omega) | (simp; done) | exact ⟨by omega, by omega⟩ | exact ⟨by omega, by simp; omega⟩ | exact ⟨by simp; omega, by simp; omega⟩ | exact ⟨by simp, by simp; omega⟩ | (intro h; rw [h]; rfl) | (intro h; refine ⟨fun h2 => ?_, h⟩; rw [h, h2]; rfl) | (intro h; refine ⟨?_, h⟩; simp [inR] at h; omega) | (intro h; simp [inR] at h; omega) | assumption), ?_⟩
    refine hQ _ _ _ _ _ (RG.nil ?_)
    try simp only [x_ret, x_tn, x_tr]
    refine Fin.b (.inr rfl) rfl trivial ?_
    rw [eq_comm, Bool.eq_false_iff]
    intro hs
    simp only [shapeV, shapeP, Bool.and_eq_true] at hs
    obtain ⟨⟨⟨⟨⟨⟨s1, s2⟩, s3⟩, s4⟩, s5⟩, s6⟩, s7⟩ := hs
    rw [hw s2 s4, hq s2 s4] at ht
    simp [s1, s2, s3, s4, s6] at ht
    simp at s5
    omega
  simp at hf
  obtain ⟨⟨⟨⟨⟨s1, s2⟩, s3⟩, s4⟩, s5⟩, s6⟩ := hf
  rw [hw s2 s4, hq s2 s4] at s5
  try simp only [x_seq, x_skip, x_tn]
  refine aw_reg 1000 (RG.go fun Q hQ => ?_)
  simp only [RX, eff, ev_t, lk_cons, lkE_cons, setS_cons, setS_nil, AOp.isCall, setD, setEs, presOf, AOp.needs, SV.one?, SV.pre, idsOf, AOp.rds, AOp.ops, SV.ids, C.ids0, List.getElem?_cons_zero, List.getElem?_cons_succ, Option.map_some, List.map_nil, List.nil_append, List.cons_append, true_and, and_self, Bool.false_eq_true, reduceCtorEq, Nat.reduceAdd, Nat.reduceEqDiff, ↓reduceIte, Nat.zero_add, List.append_nil]
  repeat refine ⟨by (first | omega | (simp; omega) | (simp; done) | exact ⟨by omega, by omega⟩ | exact ⟨by omega, by simp; omega⟩ | exact ⟨by simp; omega, by simp; omega⟩ | exact ⟨by simp, by simp; omega⟩ | (intro h; rw [h]; rfl) | (intro h; refine ⟨fun h2 => ?_, h⟩; rw [h, h2]; rfl) | (intro h; refine ⟨?_, h⟩; simp [inR] at h; omega) | (intro h; simp [inR] at h; omega) | assumption), ?_⟩
  refine hQ _ _ _ _ _ ?_
  refine RG.call [] (slices_ContainsFunc_int_int_con v.place hb) (tr_cons tr_sl (tr_cons (.intro rfl trivial) tr_nil)) trivial (.inl trivial) ?_
  refine RG.go fun Q hQ => ?_
  simp only [RX, eff, ev_t, lk_cons, setS_cons, setS_nil, AOp.isCall, setD, setEs, presOf, AOp.needs, SV.one?, SV.pre, unV, idsOf, AOp.rds, AOp.ops, SV.ids, C.ids0, Option.map_some, List.map_nil, List.nil_append, true_and, and_self, Bool.false_eq_true, reduceCtorEq, Nat.reduceAdd, Nat.reduceEqDiff, ↓reduceIte, List.append_nil]
  repeat refine ⟨by (first | omega | (simp; omega) | (simp; done) | exact ⟨by omega, by omega⟩ | exact ⟨by omega, by simp; omega⟩ | exact ⟨by simp; omega, by simp; omega⟩ | exact ⟨by simp, by simp; omega⟩ | (intro h; rw [h]; rfl) | (intro h; refine ⟨fun h2 => ?_, h⟩; rw [h, h2]; rfl) | (intro h; refine ⟨?_, h⟩; simp [inR] at h; omega) | (intro h; simp [inR] at h; omega) | assumption), ?_⟩
  refine hQ _ _ _ _ _ (RG.nil ?_)
  try simp only [x_ret, x_tn]
  refine Fin.b (.inr rfl) rfl trivial ?_
  simp [shapeV, shapeP, s1, s2, s3, s4, s5, s6]

end Go.Abs

namespace Go.Abs
open Go Go.Proofs
set_option maxRecDepth 100000
set_option linter.unusedSimpArgs false
set_option maxHeartbeats 2000000

def seenM (l : List IT) : List (Value × List C) := l.map fun x => (.int .i64 x.b, [.v (.bool true)])

def itOk (blocks size : Int) (x : IT) : Bool := decide (0 ≤ x.b) && decide (x.b < blocks) && decide ((x.d.length : Int) = size)
def onceB : List IT → Bool
  | [] => true
  | x :: l => !(l.any fun y => decide (y.b = x.b)) && onceB l
def itemsR (blocks size : Int) (l : List IT) : Bool := decide (1 ≤ l.length) && decide (l.length ≤ 8) && l.all (itOk blocks size) && onceB l

theorem onceB_append : ∀ (l : List IT) (x : IT), onceB (l ++ [x]) = (onceB l && !(l.any fun y => decide (y.b = x.b)))
  | [], x => by simp [onceB]
  | y :: l, x => by
    simp only [List.cons_append, onceB, onceB_append l x, List.any_append, List.any_cons, List.any_nil, Bool.or_false]
    by_cases h : y.b = x.b
    · simp [h]
    · have h' : ¬ x.b = y.b := fun e => h e.symm
      simp only [decide_eq_false h, decide_eq_false h', Bool.or_false, Bool.false_or]
      cases l.any (fun z => decide (z.b = y.b)) <;> cases onceB l <;> cases l.any (fun z => decide (z.b = x.b)) <;> rfl

theorem onceB_take {l : List IT} : onceB l = true → ∀ i, onceB (l.take i) = true := by
  induction l with
  | nil => intro _ i; simp [onceB]
  | cons x l ih =>
    intro h i
    simp only [onceB, Bool.and_eq_true, Bool.not_eq_true'] at h
    cases i with
    | zero => rfl
    | succ i =>
      simp only [List.take_succ_cons, onceB, Bool.and_eq_true, Bool.not_eq_true']
      refine ⟨?_, ih h.2 i⟩
      rw [Bool.eq_false_iff] at h ⊢
      intro hh
      refine h.1 ?_
      obtain ⟨y, hy, he⟩ := List.any_eq_true.1 hh
      exact List.any_eq_true.2 ⟨y, List.mem_of_mem_take hy, he⟩

theorem keyEq_i64 (n m : Int) : keyEq (.int .i64 n) (.int .i64 m) = decide (n = m) := by
  rw [show keyEq (.int .i64 n) (.int .i64 m) = (n == m) from by simp [keyEq]]; rfl

theorem mfind_seen (n : Int) : ∀ l : List IT, mfind (seenM l) (.int .i64 n) = if (l.any fun y => decide (y.b = n)) = true then some [.v (.bool true)] else none
  | [] => rfl
  | x :: l => by
    have := mfind_seen n l
    simp only [seenM, List.map_cons, mfind, keyEq_i64, List.any_cons] at this ⊢
    by_cases h : n = x.b
    · simp [h]
    · have h' : ¬ x.b = n := fun e => h e.symm
      simp only [decide_eq_false h, decide_eq_false h', Bool.false_eq_true, if_false, this, Bool.false_or]

theorem mset_seen (x : IT) : ∀ l : List IT, (l.any fun y => decide (y.b = x.b)) = false → mset (seenM l) (.int .i64 x.b) [.v (.bool true)] = seenM (l ++ [x])
  | [], _ => rfl
  | y :: l, h => by
    simp only [List.any_cons, Bool.or_eq_false_iff, decide_eq_false_iff_not] at h
    have := mset_seen x l h.2
    simp only [seenM, List.map_cons, List.cons_append, mset, keyEq_i64] at this ⊢
    rw [decide_eq_false (fun e => h.1 e.symm), if_neg (by simp), this]

theorem seen_keys (l : List IT) (n : Int) : ∀ p ∈ seenM l, sameK (.int .i64 n) p.1 := by
  intro p hp
  obtain ⟨x, _, rfl⟩ := List.mem_map.1 hp
  rfl

theorem volume_ItemsRight_con (blocks size : Int) (l : List IT) (hb : l.length ≤ 1000000) (hd : ∀ x ∈ l, x.d.length ≤ 1000000) : Con Try.prog 30 [I blocks, I size, .c (.sl (l.map irow))] [] (B (itemsR blocks size l)) [] := by
  refine C_volume_ItemsRight (Nat.le_of_ble_eq_true rfl) (Nat.le_of_ble_eq_true rfl) ?_
  simp only [A_volume_ItemsRight, argL, objL, List.length_nil, Nat.reduceAdd, Nat.zero_add, x_seq]
  refine aw_reg 16 (RG.go fun Q hQ => ?_)
  simp only [RX, eff, ev_k, setS_cons, setS_nil, AOp.isCall, setD, setEs, presOf, AOp.needs, idsOf, AOp.rds, List.map_nil, List.nil_append, true_and, Bool.false_eq_true, reduceCtorEq, Nat.reduceAdd, Nat.reduceEqDiff, ↓reduceIte]
  repeat refine ⟨by (first | omega | (simp; omega) | (simp; done) | exact ⟨by omega, by omega⟩ | exact ⟨by omega, by simp; omega⟩ | exact ⟨by simp; omega, by simp; omega⟩ | exact ⟨by simp, by simp; omega⟩ | (intro h; rw [h]; rfl) | (intro h; refine ⟨fun h2 => ?_, h⟩; rw [h, h2]; rfl) | (intro h; refine ⟨?_, h⟩; simp [inR] at h; omega) | (intro h; simp [inR] at h; omega) | assumption), ?_⟩
  refine hQ _ _ _ _ _ (RG.nil ?_)
  try simp only [x_seq, x_tn]
  refine aw_reg 64 (RG.go fun Q hQ => ?_)
  simp only [RX, eff, ev_t, lk_cons, lkE_nil, setS_cons, setS_nil, setE_nil, AOp.isCall, setD, setEs, presOf, AOp.needs, idsOf, AOp.rds, AOp.ops, List.map_cons, List.map_nil, List.nil_append, true_and, Bool.false_eq_true, reduceCtorEq, Nat.reduceAdd, Nat.reduceEqDiff, ↓reduceIte]
  repeat refine ⟨by (first | omega | (simp; omega) | (simp; done) | exact ⟨by omega, by omega⟩ | exact ⟨by omega, by simp; omega⟩ | exact ⟨by simp; omega, by simp; omega⟩ | exact ⟨by simp, by simp; omega⟩ | (intro h; rw [h]; rfl) | (intro h; refine ⟨fun h2 => ?_, h⟩; rw [h, h2]; rfl) | (intro h; refine ⟨?_, h⟩; simp [inR] at h; omega) | (intro h; simp [inR] at h; omega) | assumption), ?_⟩
  refine hQ _ _ _ _ _ (RG.nil ?_)
  try simp only [x_seq, x_tn]
  refine aw_reg 128 (RG.go fun Q hQ => ?_)
  simp only [RX, eff, ev_t, ev_k, lk_cons, setS_cons, setS_nil, AOp.isCall, setD, setEs, presOf, AOp.needs, SV.one?, SV.pre, idsOf, AOp.rds, AOp.ops, SV.ids, C.ids0, rowsOf, List.map_nil, List.nil_append, true_and, and_self, Bool.false_eq_true, reduceCtorEq, Nat.reduceAdd, Nat.reduceEqDiff, ↓reduceIte, Option.bind_some, List.append_nil]
  repeat refine ⟨by (first | omega | (simp; omega) | (simp; done) | exact ⟨by omega, by omega⟩ | exact ⟨by omega, by simp; omega⟩ | exact ⟨by simp; omega, by simp; omega⟩ | exact ⟨by simp, by simp; omega⟩ | (intro h; rw [h]; rfl) | (intro h; refine ⟨fun h2 => ?_, h⟩; rw [h, h2]; rfl) | (intro h; refine ⟨?_, h⟩; simp [inR] at h; omega) | (intro h; simp [inR] at h; omega) | assumption), ?_⟩
  refine hQ _ _ _ _ _ (RG.nil ?_)
  try simp only [x_block, x_tn]
  refine aw_loopK (X := { i : Nat // i ≤ l.length ∧ (l.take i).all (itOk blocks size) = true ∧ onceB (l.take i) = true }) [0, 1, 2, 7, 11, 12] (fun i => [(13, I i.1)]) [] (fun i => [(64, .mp false (seenM (l.take i.1)))]) (fun i => l.length - i.1) (⟨0, by omega, rfl, rfl⟩) ?_ ?_
  · skip
    simp only [keepS, keepE, lk_cons, List.cons_append, List.nil_append, Nat.reduceEqDiff, ↓reduceIte, reduceCtorEq]
    refine Le.lit [] [] _ _ ?_ ?_ ?_ ?_
    · simp only [Int.cast_ofNat_Int, allL, lk_cons, lkE_cons, lkE_nil, WkSV, WkSV1, WkC, WkC0, rlook, frzEs, Nat.reduceEqDiff, ↓reduceIte, reduceCtorEq, and_true, ne_eq, not_false_eq_true]
      all_goals (try ((repeat' (first | exact trivial | rfl | exact rfl | (refine ⟨⟨_, _, rfl⟩, ?_⟩; (first | exact drows_brow _ | exact drows_nrow _ | exact drows_irow _ | exact drows_wrow _ | assumption | (simp [isDRows, brow, C.isD]; done) | (rw [← List.map_append]; first | exact drows_brow _ | exact drows_nrow _ | exact drows_irow _ | exact drows_wrow _))) | (simp; done) | refine ⟨?_, ?_⟩))))
    · simp only [allL, lkE_cons, lkE_nil, WkEnt, rlook, frzEs, isDRows, Option.some.injEq, ↓reduceIte, true_and, and_true, exists_eq_left', ne_eq]
      all_goals (rfl)
    · simp [rlook]
    · first | (simp; done) | (intro k hk; simp [rlook]; omega)
  rintro ⟨i, hi, hall, honce⟩
  simp only [keepS, keepE, lk_cons, List.cons_append, List.nil_append, Nat.reduceEqDiff, ↓reduceIte, reduceCtorEq]
  try simp only [x_seq]
  refine aw_reg 208 (RG.go fun Q hQ => ?_)
  simp only [RX, eff, ev_t, lk_cons, setS_cons, setS_nil, AOp.isCall, setD, setEs, presOf, AOp.needs, SV.one?, SV.pre, binV, idsOf, AOp.rds, AOp.ops, SV.ids, C.ids0, Option.map_some, List.map_nil, List.nil_append, true_and, and_self, Bool.false_eq_true, reduceCtorEq, Nat.reduceAdd, Nat.reduceEqDiff, ↓reduceIte, List.append_nil]
  repeat refine ⟨by (first | omega | (simp; omega) | (simp; done) | exact ⟨by omega, by omega⟩ | exact ⟨by omega, by simp; omega⟩ | exact ⟨by simp; omega, by simp; omega⟩ | exact ⟨by simp, by simp; omega⟩ | (intro h; rw [h]; rfl) | (intro h; refine ⟨fun h2 => ?_, h⟩; rw [h, h2]; rfl) | (intro h; refine ⟨?_, h⟩; simp [inR] at h; omega) | (intro h; simp [inR] at h; omega) | assumption), ?_⟩
  refine hQ _ _ _ _ _ (RG.nil ?_)
  try simp only [x_seq, x_tn]
  refine aw_cond _ rfl trivial (fun ht => ?_) (fun hf => ?_)
  · have hi' : i < l.length := by simpa using ht
    have hr : ((l.map irow)[((i : Int)).toNat]?).getD [] = [.v (.int .i64 l[i].b), .sl (l[i].d.map brow)] := map_get irow hi' []
    have hdl := hd _ (List.getElem_mem hi')
    have hmf := mfind_seen l[i].b (l.take i)
    try simp only [x_seq, x_block, x_skip, x_tn]
    refine aw_reg 256 (RG.go fun Q hQ => ?_)
    simp only [RX, eff, ev_t, lk_cons, lkE_cons, lkE_nil, setS_cons, setS_nil, setE_cons, setE_nil, AOp.isCall, setD, setEs, presOf, AOp.needs, SV.one?, SV.pre, SV.cells, idsOf, AOp.rds, AOp.ops, SV.ids, C.ids0, splice, List.take_succ_cons, List.take_zero, List.drop_succ_cons, List.drop_zero, List.length_cons, List.length_nil, List.map_cons, List.map_nil, List.nil_append, List.cons_append, and_true, true_and, and_self, Bool.false_eq_true, reduceCtorEq, Nat.reduceAdd, Nat.reduceEqDiff, ↓reduceIte, Nat.zero_add, Nat.le_refl, List.append_nil, hr]
    repeat refine ⟨by (first | omega | (simp; omega) | (simp; done) | exact ⟨by omega, by omega⟩ | exact ⟨by omega, by simp; omega⟩ | exact ⟨by simp; omega, by simp; omega⟩ | exact ⟨by simp, by simp; omega⟩ | (intro h; rw [h]; rfl) | (intro h; refine ⟨fun h2 => ?_, h⟩; rw [h, h2]; rfl) | (intro h; refine ⟨?_, h⟩; simp [inR] at h; omega) | (intro h; simp [inR] at h; omega) | assumption), ?_⟩
    refine hQ _ _ _ _ _ (RG.nil ?_)
    try simp only [x_seq, x_tn]
    have hk := seen_keys (l.take i) l[i].b
    have hone : List.length ((if ((l.take i).any fun y => decide (y.b = l[i].b)) = true then some [C.v (.bool true)] else none).getD [C.v (.bool false)]) = 1 := by split <;> rfl
    have hbb : ((((if ((l.take i).any fun y => decide (y.b = l[i].b)) = true then some [C.v (.bool true)] else none).getD [C.v (.bool false)])[0]?).getD (C.v (.bool false))) = C.v (.bool ((l.take i).any fun y => decide (y.b = l[i].b))) := by
      cases (l.take i).any fun y => decide (y.b = l[i].b) <;> rfl
    refine aw_reg 352 (RG.go fun Q hQ => ?_)
    simp only [RX, eff, ev_t, ev_k, lk_cons, lkE_cons, setS_cons, setS_nil, AOp.isCall, setD, setEs, presOf, AOp.needs, SV.one?, SV.pre, gval, binV, idsOf, AOp.rds, AOp.ops, SV.ids, C.ids0, rowsOf, List.getElem?_cons_zero, List.getElem?_cons_succ, Option.map_some, List.map_nil, List.nil_append, List.cons_append, and_true, true_and, and_self, Bool.true_and, Bool.false_eq_true, beq_false, implies_true, imp_self, Bool.if_true_left, Bool.decide_eq_true, reduceCtorEq, ge_iff_le, Nat.reduceAdd, Nat.reduceEqDiff, ↓reduceIte, Option.bind_some, Nat.zero_add, List.append_nil, Nat.add_zero, C_default, hmf, hone, hbb]
    repeat refine ⟨by (first | omega | (simp; omega) | (simp; done) | exact ⟨by omega, by omega⟩ | exact ⟨by omega, by simp; omega⟩ | exact ⟨by simp; omega, by simp; omega⟩ | exact ⟨by simp, by simp; omega⟩ | (intro h; rw [h]; rfl) | (intro h; refine ⟨fun h2 => ?_, h⟩; rw [h, h2]; rfl) | (intro h; refine ⟨?_, h⟩; simp [inR] at h; omega) | (intro h; simp [inR] at h; omega) | assumption), ?_⟩
    refine hQ _ _ _ _ _ (RG.nil ?_)
    try simp only [x_tn]
    refine aw_cond _ rfl trivial (fun ht => ?_) (fun hf => ?_)
    · skip
      try simp only [x_seq]
      refine aw_reg 736 (RG.go fun Q hQ => ?_)
      simp only [RX, eff, ev_k, setS_cons, setS_nil, AOp.isCall, setD, setEs, presOf, AOp.needs, idsOf, AOp.rds, List.map_nil, List.nil_append, true_and, Bool.false_eq_true, reduceCtorEq, Nat.reduceAdd, Nat.reduceEqDiff, ↓reduceIte]
      repeat refine ⟨by (first | omega | (simp; omega) | (simp; done) | exact ⟨by omega, by omega⟩ | exact ⟨by omega, by simp; omega⟩ | exact ⟨by simp; omega, by simp; omega⟩ | exact ⟨by simp, by simp; omega⟩ | (intro h; rw [h]; rfl) | (intro h; refine ⟨fun h2 => ?_, h⟩; rw [h, h2]; rfl) | (intro h; refine ⟨?_, h⟩; simp [inR] at h; omega) | (intro h; simp [inR] at h; omega) | assumption), ?_⟩
      refine hQ _ _ _ _ _ (RG.nil ?_)
      try simp only [x_ret, x_tn, x_tr, x_br, x_lr]
      refine Fin.b (.inr rfl) rfl trivial ?_
      rw [eq_comm, Bool.eq_false_iff]
      intro hs
      simp only [itemsR, Bool.and_eq_true] at hs
      have h1 := List.all_eq_true.1 hs.1.2 _ (List.getElem_mem hi')
      have h2 := onceB_take hs.2 (i + 1)
      rw [take_one l i hi', onceB_append] at h2
      simp only [Bool.and_eq_true, Bool.not_eq_true'] at h2
      rw [h2.2] at ht
      simp [itOk] at h1 ht
      omega
    have hsn : ((l.take i).any fun y => decide (y.b = l[i].b)) = false := by
      cases hh : (l.take i).any fun y => decide (y.b = l[i].b) with
      | false => rfl
      | true => rw [hh] at hf; simp at hf
    have hok : itOk blocks size l[i] = true := by
      rw [hsn] at hf
      simp at hf
      simp [itOk]; omega
    have hms := mset_seen l[i] (l.take i) hsn
    rw [← take_one l i hi'] at hms
    try simp only [x_skip, x_tn]
    refine aw_reg 784 (RG.go fun Q hQ => ?_)
    simp only [RX, eff, ev_t, ev_k, lk_cons, lkE_cons, setS_cons, setS_nil, setE_cons, AOp.isCall, setD, setEs, presOf, AOp.needs, SV.one?, SV.pre, idsOf, AOp.rds, AOp.ops, SV.ids, C.ids0, List.getElem?_cons_zero, Option.map_some, List.map_cons, List.map_nil, List.nil_append, List.cons_append, true_and, and_self, Bool.false_eq_true, reduceCtorEq, Nat.reduceAdd, Nat.reduceEqDiff, ↓reduceIte, List.append_nil, Nat.add_zero, hms]
    refine ⟨⟨by simp [C.isD], hk⟩, hQ _ _ _ _ _ (RG.nil ?_)⟩
    try simp only [x_tn, x_bn]
    refine aw_reg 880 (RG.go fun Q hQ => ?_)
    simp only [RX, eff, ev_t, ev_k, lk_cons, setS_cons, setS_nil, AOp.isCall, setD, setEs, presOf, AOp.needs, SV.one?, SV.pre, binV, idsOf, AOp.rds, AOp.ops, SV.ids, C.ids0, Option.map_some, List.map_nil, List.nil_append, true_and, and_self, Bool.false_eq_true, reduceCtorEq, Nat.reduceAdd, Nat.reduceEqDiff, ↓reduceIte, List.append_nil, wi i _ hi' (by omega)]
    repeat refine ⟨by (first | omega | (simp; omega) | (simp; done) | exact ⟨by omega, by omega⟩ | exact ⟨by omega, by simp; omega⟩ | exact ⟨by simp; omega, by simp; omega⟩ | exact ⟨by simp, by simp; omega⟩ | (intro h; rw [h]; rfl) | (intro h; refine ⟨fun h2 => ?_, h⟩; rw [h, h2]; rfl) | (intro h; refine ⟨?_, h⟩; simp [inR] at h; omega) | (intro h; simp [inR] at h; omega) | assumption), ?_⟩
    refine hQ _ _ _ _ _ (RG.nil ?_)
    try simp only [x_ln]
    refine ⟨⟨i + 1, hi', by rw [all_succ hi', hall, hok]; rfl, by rw [take_one l i hi', onceB_append, honce, hsn]; rfl⟩, ?_, by simp only; omega⟩
    refine Le.lit [] [] _ _ ?_ ?_ ?_ ?_
    · simp only [allL, lk_cons, lkE_cons, lkE_nil, WkSV, WkSV1, WkC, WkC0, rlook, frzEs, Nat.reduceEqDiff, ↓reduceIte, reduceCtorEq, and_true, ne_eq, not_false_eq_true]
      all_goals (try ((repeat' (first | exact trivial | rfl | exact rfl | (refine ⟨⟨_, _, rfl⟩, ?_⟩; (first | exact drows_brow _ | exact drows_nrow _ | exact drows_irow _ | exact drows_wrow _ | assumption | (simp [isDRows, brow, C.isD]; done) | (rw [← List.map_append]; first | exact drows_brow _ | exact drows_nrow _ | exact drows_irow _ | exact drows_wrow _))) | (simp; done) | refine ⟨?_, ?_⟩))))
    · simp only [allL, lkE_cons, lkE_nil, WkEnt, rlook, frzEs, isDRows, Option.some.injEq, ↓reduceIte, and_true, exists_eq_left', ne_eq]
      all_goals (rfl)
    · simp [rlook]
    · first | (simp; done) | (intro k hk; simp [rlook]; omega)
  have hi' : i = l.length := by simp at hf; omega
  rw [hi', List.take_length] at hall honce
  try simp only [x_seq, x_exit, x_tn, x_tx, x_bx, x_lx, ↓reduceIte]
  refine aw_reg 944 (RG.go fun Q hQ => ?_)
  simp only [RX, eff, ev_t, lk_cons, setS_cons, setS_nil, AOp.isCall, setD, setEs, presOf, AOp.needs, SV.one?, SV.pre, idsOf, AOp.rds, AOp.ops, SV.ids, C.ids0, rowsOf, List.map_nil, List.nil_append, true_and, and_self, Bool.false_eq_true, reduceCtorEq, Nat.reduceAdd, Nat.reduceEqDiff, ↓reduceIte, Option.bind_some, List.append_nil]
  repeat refine ⟨by (first | omega | (simp; omega) | (simp; done) | exact ⟨by omega, by omega⟩ | exact ⟨by omega, by simp; omega⟩ | exact ⟨by simp; omega, by simp; omega⟩ | exact ⟨by simp, by simp; omega⟩ | (intro h; rw [h]; rfl) | (intro h; refine ⟨fun h2 => ?_, h⟩; rw [h, h2]; rfl) | (intro h; refine ⟨?_, h⟩; simp [inR] at h; omega) | (intro h; simp [inR] at h; omega) | assumption), ?_⟩
  refine hQ _ _ _ _ _ ?_
  refine RG.call [] (volume_within_con _ 1 8) (by (repeat' (first | exact tr_nil | refine tr_cons ?_ ?_ | exact tr_v | exact tr_sl | exact tr_nils | exact tr_agg (by repeat' (first | exact trivial | rfl | exact rfl | refine ⟨?_, ?_⟩)) | exact tr_opt (by simpa using hg) tr_v | exact tr_opt (by simpa using hg) tr_sl | exact tr_opt (by simpa using hg) (tr_agg (by repeat' (first | exact trivial | rfl | exact rfl | refine ⟨?_, ?_⟩)))))) trivial (by (first | exact .inl trivial | exact .inr ⟨rfl, trivial⟩)) ?_
  refine RG.go fun Q hQ => ?_
  simp only [RX, eff, ev_t, lk_cons, setS_cons, setS_nil, AOp.isCall, setD, setEs, presOf, AOp.needs, idsOf, AOp.rds, List.map_nil, List.nil_append, true_and, Bool.false_eq_true, reduceCtorEq, Nat.reduceAdd, Nat.reduceEqDiff, ↓reduceIte]
  repeat refine ⟨by (first | omega | (simp; omega) | (simp; done) | exact ⟨by omega, by omega⟩ | exact ⟨by omega, by simp; omega⟩ | exact ⟨by simp; omega, by simp; omega⟩ | exact ⟨by simp, by simp; omega⟩ | (intro h; rw [h]; rfl) | (intro h; refine ⟨fun h2 => ?_, h⟩; rw [h, h2]; rfl) | (intro h; refine ⟨?_, h⟩; simp [inR] at h; omega) | (intro h; simp [inR] at h; omega) | assumption), ?_⟩
  refine hQ _ _ _ _ _ (RG.nil ?_)
  try simp only [x_ret, x_tn]
  refine Fin.b (.inr rfl) rfl trivial ?_
  simp [itemsR, inR, hall, honce]
  congr 1 <;> exact decide_eq_decide.2 (by omega)

end Go.Abs

namespace Go.Abs
open Go Go.Proofs
set_option maxRecDepth 100000
set_option linter.unusedSimpArgs false
set_option maxHeartbeats 2000000

def pinsR (n : Int) : Int → List Int → Bool
  | _, [] => true
  | last, p :: l => decide (last ≤ p) && decide (p ≤ n) && pinsR n p l
def wsR (blocks size : Int) : Nat → List WR → Bool
  | _, [] => true
  | i, w :: l => decide (w.s = i + 1) && itemsR blocks size w.its && wsR blocks size (i + 1) l
def rightV (v : VOL) : Bool :=
  shapeV v && inR v.next 0 v.total && (v.hid || decide (v.next = v.total)) && (!v.hid || decide (v.total ≠ 0)) && decide (0 ≤ v.floor) && decide (v.floor ≤ lenV v) &&
    pinsR (lenV v) v.floor v.pins && wsR v.blocks v.size 0 v.ws

structure Vok (v : VOL) : Prop where
  place : v.place.length ≤ 1000000
  pins : v.pins.length ≤ 1000000
  ws : v.ws.length ≤ 1000000
  its : ∀ w ∈ v.ws, w.its.length ≤ 1000000 ∧ ∀ x ∈ w.its, x.d.length ≤ 1000000

theorem drop_get {α : Type} {l : List α} {i : Nat} (h : i < l.length) : l.drop i = l[i] :: l.drop (i + 1) := List.drop_eq_getElem_cons h

theorem volume_Right_con (v : VOL) (ok : Vok v) : Con Try.prog 21 [.agg (volC v)] [] (B (rightV v)) [] := by
  obtain ⟨ok1, ok2, ok3, ok4⟩ := ok
  refine C_volume_Right (Nat.le_of_ble_eq_true rfl) (Nat.le_of_ble_eq_true rfl) ?_
  simp only [A_volume_Right, argL, objL, List.length_nil, x_seq]
  refine aw_reg 16 (RG.go fun Q hQ => ?_)
  simp only [RX, eff, ev_t, ev_k, lk_cons, lkE_nil, setS_cons, setS_nil, setE_nil, AOp.isCall, setD, setEs, presOf, AOp.needs, SV.pre, SV.cells, idsOf, AOp.rds, AOp.ops, SV.ids, List.map_cons, List.map_nil, List.nil_append, true_and, and_self, Bool.false_eq_true, reduceCtorEq, Nat.reduceAdd, Nat.reduceEqDiff, ↓reduceIte, List.append_nil, volC, vC]
  repeat refine ⟨by (first | omega | (simp; omega) | (simp; done) | exact ⟨by omega, by omega⟩ | exact ⟨by omega, by simp; omega⟩ | exact ⟨by simp; omega, by simp; omega⟩ | exact ⟨by simp, by simp; omega⟩ | (intro h; rw [h]; rfl) | (intro h; refine ⟨fun h2 => ?_, h⟩; rw [h, h2]; rfl) | (intro h; refine ⟨?_, h⟩; simp [inR] at h; omega) | (intro h; simp [inR] at h; omega) | assumption), ?_⟩
  refine hQ _ _ _ _ _ (RG.nil ?_)
  try simp only [x_seq, x_tn]
  refine aw_draw 64 (RG.go fun Q hQ => ?_)
  simp only [RX, eff, ev_t, lk_cons, lkE_cons, setS_cons, setS_nil, AOp.isCall, setD, setEs, presOf, AOp.needs, SV.one?, SV.pre, idsOf, AOp.rds, AOp.ops, SV.ids, C.ids0, List.take_succ_cons, List.take_zero, List.drop_zero, List.length_cons, List.length_nil, List.map_nil, List.nil_append, List.cons_append, true_and, and_self, Bool.false_eq_true, reduceCtorEq, Nat.reduceAdd, Nat.reduceEqDiff, ↓reduceIte, Nat.zero_add, Nat.le_refl, List.append_nil]
  repeat refine ⟨by (first | omega | (simp; omega) | (simp; done) | exact ⟨by omega, by omega⟩ | exact ⟨by omega, by simp; omega⟩ | exact ⟨by simp; omega, by simp; omega⟩ | exact ⟨by simp, by simp; omega⟩ | (intro h; rw [h]; rfl) | (intro h; refine ⟨fun h2 => ?_, h⟩; rw [h, h2]; rfl) | (intro h; refine ⟨?_, h⟩; simp [inR] at h; omega) | (intro h; simp [inR] at h; omega) | assumption), ?_⟩
  refine hQ _ _ _ _ _ ?_
  refine RG.call [] (volume_shape_con v ok1) (by (repeat' (first | exact tr_nil | refine tr_cons ?_ ?_ | exact tr_v | exact tr_sl | exact tr_nils | exact tr_agg (by repeat' (first | exact trivial | rfl | exact rfl | refine ⟨?_, ?_⟩)) | exact tr_opt (by simpa using hg) tr_v | exact tr_opt (by simpa using hg) tr_sl | exact tr_opt (by simpa using hg) (tr_agg (by repeat' (first | exact trivial | rfl | exact rfl | refine ⟨?_, ?_⟩)))))) trivial (by (first | exact .inl trivial | exact .inr ⟨rfl, trivial⟩)) ?_
  refine RG.go fun Q hQ => ?_
  simp only [RX, eff, ev_t, lk_cons, lkE_cons, setS_cons, setS_nil, AOp.isCall, setD, setEs, presOf, AOp.needs, SV.one?, SV.pre, gval, unV, idsOf, AOp.rds, AOp.ops, SV.ids, C.ids0, List.getElem?_cons_zero, List.getElem?_cons_succ, Option.map_some, List.map_nil, List.nil_append, List.cons_append, and_true, true_and, and_self, Bool.true_and, Bool.false_eq_true, beq_false, implies_true, imp_self, reduceCtorEq, Nat.reduceAdd, Nat.reduceEqDiff, ↓reduceIte, Nat.zero_add, List.append_nil]
  repeat refine ⟨by (first | omega | (simp; omega) | (simp; done) | exact ⟨by omega, by omega⟩ | exact ⟨by omega, by simp; omega⟩ | exact ⟨by simp; omega, by simp; omega⟩ | exact ⟨by simp, by simp; omega⟩ | (intro h; rw [h]; rfl) | (intro h; refine ⟨fun h2 => ?_, h⟩; rw [h, h2]; rfl) | (intro h; refine ⟨?_, h⟩; simp [inR] at h; omega) | (intro h; simp [inR] at h; omega) | assumption), ?_⟩
  refine hQ _ _ _ _ _ ?_
  refine RG.callg _ _ [] rfl (fun hg => ⟨_, (volume_within_con v.next 0 v.total), by (repeat' (first | exact tr_nil | refine tr_cons ?_ ?_ | exact tr_v | exact tr_sl | exact tr_nils | exact tr_agg (by repeat' (first | exact trivial | rfl | exact rfl | refine ⟨?_, ?_⟩)) | exact tr_opt (by simpa using hg) tr_v | exact tr_opt (by simpa using hg) tr_sl | exact tr_opt (by simpa using hg) (tr_agg (by repeat' (first | exact trivial | rfl | exact rfl | refine ⟨?_, ?_⟩))))), trivial, by (first | exact .inl trivial | exact .inr ⟨rfl, trivial⟩)⟩) ?_
  refine RG.go fun Q hQ => ?_
  simp only [RX, eff, ev_t, ev_k, lk_cons, lkE_cons, setS_cons, setS_nil, AOp.isCall, setD, setEs, presOf, AOp.needs, SV.one?, SV.pre, gval, binV, unV, idsOf, AOp.rds, AOp.ops, SV.ids, C.ids0, List.take_succ_cons, List.take_zero, List.drop_zero, List.length_cons, List.length_nil, List.getElem?_cons_zero, List.getElem?_cons_succ, Option.map_some, List.map_nil, List.nil_append, List.cons_append, and_true, true_and, and_self, Bool.true_and, Bool.and_true, Bool.false_eq_true, beq_true, beq_false, implies_true, imp_self, Bool.if_false_right, Bool.if_true_left, Bool.decide_eq_true, reduceCtorEq, Nat.reduceAdd, Nat.reduceEqDiff, ↓reduceIte, Nat.zero_add, Nat.le_refl, List.append_nil]
  repeat refine ⟨by (first | omega | (simp; omega) | (simp; done) | exact ⟨by omega, by omega⟩ | exact ⟨by omega, by simp; omega⟩ | exact ⟨by simp; omega, by simp; omega⟩ | exact ⟨by simp, by simp; omega⟩ | (intro h; rw [h]; rfl) | (intro h; refine ⟨fun h2 => ?_, h⟩; rw [h, h2]; rfl) | (intro h; refine ⟨?_, h⟩; simp [inR] at h; omega) | (intro h; simp [inR] at h; omega) | assumption), ?_⟩
  refine hQ _ _ _ _ _ ?_
  refine RG.callg _ _ [] rfl (fun hg => ⟨_, (volume_Len_con v), by (repeat' (first | exact tr_nil | refine tr_cons ?_ ?_ | exact tr_v | exact tr_sl | exact tr_nils | exact tr_agg (by repeat' (first | exact trivial | rfl | exact rfl | refine ⟨?_, ?_⟩)) | exact tr_opt (by simpa using hg) tr_v | exact tr_opt (by simpa using hg) tr_sl | exact tr_opt (by simpa using hg) (tr_agg (by repeat' (first | exact trivial | rfl | exact rfl | refine ⟨?_, ?_⟩))))), trivial, by (first | exact .inl trivial | exact .inr ⟨rfl, trivial⟩)⟩) ?_
  refine RG.go fun Q hQ => ?_
  simp only [RX, eff, ev_t, ev_k, lk_cons, setS_cons, setS_nil, AOp.isCall, setD, setEs, presOf, AOp.needs, SV.one?, SV.pre, gval, binV, idsOf, AOp.rds, AOp.ops, SV.ids, C.ids0, Option.map_some, List.map_nil, List.nil_append, and_true, true_and, and_self, Bool.true_and, Bool.false_eq_true, beq_false, implies_true, imp_self, Bool.if_true_left, Bool.decide_eq_true, reduceCtorEq, gt_iff_lt, Nat.reduceAdd, Nat.reduceEqDiff, ↓reduceIte, List.append_nil]
  repeat refine ⟨by (first | omega | (simp; omega) | (simp; done) | exact ⟨by omega, by omega⟩ | exact ⟨by omega, by simp; omega⟩ | exact ⟨by simp; omega, by simp; omega⟩ | exact ⟨by simp, by simp; omega⟩ | (intro h; rw [h]; rfl) | (intro h; refine ⟨fun h2 => ?_, h⟩; rw [h, h2]; rfl) | (intro h; refine ⟨?_, h⟩; simp [inR] at h; omega) | (intro h; simp [inR] at h; omega) | assumption), ?_⟩
  refine hQ _ _ _ _ _ (RG.nil ⟨by decide +kernel, ?_⟩)
  try simp only [x_tn]
  refine aw_cond _ rfl trivial (fun ht => ?_) (fun hf => ?_)
  · skip
    try simp only [x_seq]
    refine aw_reg 800 (RG.go fun Q hQ => ?_)
    simp only [RX, eff, ev_k, setS_cons, AOp.isCall, setD, setEs, presOf, AOp.needs, idsOf, AOp.rds, List.map_nil, List.nil_append, true_and, Bool.false_eq_true, reduceCtorEq, Nat.reduceAdd, Nat.reduceEqDiff, ↓reduceIte]
    repeat refine ⟨by (first | omega | (simp; omega) | (simp; done) | exact ⟨by omega, by omega⟩ | exact ⟨by omega, by simp; omega⟩ | exact ⟨by simp; omega, by simp; omega⟩ | exact ⟨by simp, by simp; omega⟩ | (intro h; rw [h]; rfl) | (intro h; refine ⟨fun h2 => ?_, h⟩; rw [h, h2]; rfl) | (intro h; refine ⟨?_, h⟩; simp [inR] at h; omega) | (intro h; simp [inR] at h; omega) | assumption), ?_⟩
    refine hQ _ _ _ _ _ (RG.nil ?_)
    try simp only [x_ret, x_tn, x_tr]
    refine Fin.b (.inr rfl) rfl trivial ?_
    rw [eq_comm, Bool.eq_false_iff]
    intro hs
    simp only [rightV, Bool.and_eq_true] at hs
    obtain ⟨⟨⟨⟨⟨⟨⟨s1, s2⟩, s3⟩, s4⟩, s5⟩, s6⟩, s7⟩, s8⟩ := hs
    cases hh : v.hid <;> simp [s1, s2, hh] at ht s3 s4 s5 s6 <;> omega
  obtain ⟨r1, r2⟩ : shapeV v = true ∧ (inR v.next 0 v.total && (v.hid || decide (v.next = v.total)) && (!v.hid || decide (v.total ≠ 0)) && decide (0 ≤ v.floor) && decide (v.floor ≤ lenV v)) = true := by
    cases hh : v.hid <;> simp [hh] at hf ⊢ <;> exact ⟨hf.1.1.1.1, ⟨⟨hf.1.1.1.2, by omega⟩, by omega⟩, by omega⟩
  have hrv : rightV v = (pinsR (lenV v) v.floor v.pins && wsR v.blocks v.size 0 v.ws) := by
    simp only [Bool.and_eq_true] at r2
    obtain ⟨⟨⟨⟨s2, s3⟩, s4⟩, s5⟩, s6⟩ := r2
    simp only [rightV, r1, s2, s3, s4, s5, s6, Bool.true_and]
  try simp only [x_seq, x_skip, x_tn]
  refine aw_reg 864 (RG.go fun Q hQ => ?_)
  simp only [RX, eff, ev_t, lk_cons, lkE_cons, setS_cons, setS_nil, AOp.isCall, setD, setEs, presOf, AOp.needs, SV.one?, SV.pre, idsOf, AOp.rds, AOp.ops, SV.ids, C.ids0, List.getElem?_cons_zero, List.getElem?_cons_succ, Option.map_some, List.map_nil, List.nil_append, List.cons_append, true_and, and_self, Bool.false_eq_true, reduceCtorEq, Nat.reduceAdd, Nat.reduceEqDiff, ↓reduceIte, Nat.zero_add, List.append_nil]
  repeat refine ⟨by (first | omega | (simp; omega) | (simp; done) | exact ⟨by omega, by omega⟩ | exact ⟨by omega, by simp; omega⟩ | exact ⟨by simp; omega, by simp; omega⟩ | exact ⟨by simp, by simp; omega⟩ | (intro h; rw [h]; rfl) | (intro h; refine ⟨fun h2 => ?_, h⟩; rw [h, h2]; rfl) | (intro h; refine ⟨?_, h⟩; simp [inR] at h; omega) | (intro h; simp [inR] at h; omega) | assumption), ?_⟩
  refine hQ _ _ _ _ _ (RG.nil ?_)
  try simp only [x_seq, x_tn]
  refine aw_reg 944 (RG.go fun Q hQ => ?_)
  simp only [RX, eff, ev_t, ev_k, lk_cons, lkE_cons, setS_cons, setS_nil, AOp.isCall, setD, setEs, presOf, AOp.needs, SV.one?, SV.pre, idsOf, AOp.rds, AOp.ops, SV.ids, C.ids0, rowsOf, List.getElem?_cons_zero, List.getElem?_cons_succ, Option.map_some, List.map_nil, List.nil_append, List.cons_append, true_and, and_self, Bool.false_eq_true, reduceCtorEq, Nat.reduceAdd, Nat.reduceEqDiff, ↓reduceIte, Option.bind_some, Nat.zero_add, List.append_nil]
  repeat refine ⟨by (first | omega | (simp; omega) | (simp; done) | exact ⟨by omega, by omega⟩ | exact ⟨by omega, by simp; omega⟩ | exact ⟨by simp; omega, by simp; omega⟩ | exact ⟨by simp, by simp; omega⟩ | (intro h; rw [h]; rfl) | (intro h; refine ⟨fun h2 => ?_, h⟩; rw [h, h2]; rfl) | (intro h; refine ⟨?_, h⟩; simp [inR] at h; omega) | (intro h; simp [inR] at h; omega) | assumption), ?_⟩
  refine hQ _ _ _ _ _ (RG.nil ?_)
  try simp only [x_block, x_tn]
  refine aw_loopK (X := { p : Nat × Int // p.1 ≤ v.pins.length ∧ pinsR (lenV v) v.floor v.pins = pinsR (lenV v) p.2 (v.pins.drop p.1) }) [1, 55, 56] (fun p => [(3, I p.1.2), (57, I p.1.1)]) [16] (fun p => []) (fun p => v.pins.length - p.1.1) (⟨(0, v.floor), by omega, rfl⟩) ?_ ?_
  · skip
    simp only [keepS, keepE, Option.getD_some, lk_cons, lkE_cons, List.cons_append, List.nil_append, Nat.reduceEqDiff, ↓reduceIte, reduceCtorEq]
    refine Le.lit [] [] _ _ ?_ ?_ ?_ ?_
    · simp only [Int.cast_ofNat_Int, allL, lk_cons, lkE_cons, lkE_nil, WkSV, WkSV1, WkC, WkC0, rlook, frzEs, Nat.reduceEqDiff, ↓reduceIte, reduceCtorEq, and_true, ne_eq, not_false_eq_true]
      all_goals (try ((repeat' (first | exact trivial | rfl | exact rfl | (refine ⟨⟨_, _, rfl⟩, ?_⟩; (first | exact drows_brow _ | exact drows_nrow _ | exact drows_irow _ | exact drows_wrow _ | assumption | (simp [isDRows, brow, C.isD]; done) | (rw [← List.map_append]; first | exact drows_brow _ | exact drows_nrow _ | exact drows_irow _ | exact drows_wrow _))) | (simp; done) | refine ⟨?_, ?_⟩))))
    · simp only [allL, lkE_cons, lkE_nil, WkC, WkC0, WkEnt, TrL, rlook, frzEs, isDRows, Option.some.injEq, ↓reduceIte, and_true, exists_eq_left', ne_eq]
      all_goals (try ((repeat' (first | (first | exact drows_brow _ | exact drows_nrow _ | exact drows_irow _ | exact drows_wrow _ | assumption | (simp [isDRows, brow, C.isD]; done) | (rw [← List.map_append]; first | exact drows_brow _ | exact drows_nrow _ | exact drows_irow _ | exact drows_wrow _)) | rfl | refine ⟨?_, ?_⟩ | (left; (first | exact drows_brow _ | exact drows_nrow _ | exact drows_irow _ | exact drows_wrow _ | assumption | (simp [isDRows, brow, C.isD]; done) | (rw [← List.map_append]; first | exact drows_brow _ | exact drows_nrow _ | exact drows_irow _ | exact drows_wrow _)))))))
    · simp [rlook]
    · first | (simp; done) | (intro k hk; simp [rlook]; omega)
  rintro ⟨⟨i, last⟩, hi, hp⟩
  simp only at hi hp
  simp only [keepS, keepE, Option.getD_some, lk_cons, lkE_cons, List.cons_append, List.nil_append, Nat.reduceEqDiff, ↓reduceIte, reduceCtorEq]
  try simp only [x_seq]
  refine aw_reg 1040 (RG.go fun Q hQ => ?_)
  simp only [RX, eff, ev_t, lk_cons, setS_cons, setS_nil, AOp.isCall, setD, setEs, presOf, AOp.needs, SV.one?, SV.pre, binV, idsOf, AOp.rds, AOp.ops, SV.ids, C.ids0, Option.map_some, List.map_nil, List.nil_append, true_and, and_self, Bool.false_eq_true, Nat.reduceAdd, Nat.reduceEqDiff, ↓reduceIte, List.append_nil]
  repeat refine ⟨by (first | omega | (simp; omega) | (simp; done) | exact ⟨by omega, by omega⟩ | exact ⟨by omega, by simp; omega⟩ | exact ⟨by simp; omega, by simp; omega⟩ | exact ⟨by simp, by simp; omega⟩ | (intro h; rw [h]; rfl) | (intro h; refine ⟨fun h2 => ?_, h⟩; rw [h, h2]; rfl) | (intro h; refine ⟨?_, h⟩; simp [inR] at h; omega) | (intro h; simp [inR] at h; omega) | assumption), ?_⟩
  refine hQ _ _ _ _ _ (RG.nil ?_)
  try simp only [x_seq, x_tn]
  refine aw_cond _ rfl trivial (fun ht => ?_) (fun hf => ?_)
  · have hi' : i < v.pins.length := by simpa using ht
    have hr : ((v.pins.map nrow)[((i : Int)).toNat]?).getD [] = [.v (.int .i64 v.pins[i])] := map_get nrow hi' []
    have hdr := drop_get hi'
    try simp only [x_seq, x_block, x_skip, x_tn]
    refine aw_reg 1088 (RG.go fun Q hQ => ?_)
    simp only [RX, eff, ev_t, lk_cons, setS_cons, setS_nil, AOp.isCall, setD, setEs, presOf, AOp.needs, SV.one?, SV.pre, idsOf, AOp.rds, AOp.ops, SV.ids, C.ids0, Option.getD_some, List.length_cons, List.length_nil, List.getElem?_cons_zero, List.map_nil, List.nil_append, and_true, true_and, and_self, Bool.false_eq_true, Nat.reduceAdd, Nat.reduceEqDiff, Nat.reduceLT, ↓reduceIte, Nat.zero_add, List.append_nil, C_default, hr]
    repeat refine ⟨by (first | omega | (simp; omega) | (simp; done) | exact ⟨by omega, by omega⟩ | exact ⟨by omega, by simp; omega⟩ | exact ⟨by simp; omega, by simp; omega⟩ | exact ⟨by simp, by simp; omega⟩ | (intro h; rw [h]; rfl) | (intro h; refine ⟨fun h2 => ?_, h⟩; rw [h, h2]; rfl) | (intro h; refine ⟨?_, h⟩; simp [inR] at h; omega) | (intro h; simp [inR] at h; omega) | assumption), ?_⟩
    refine hQ _ _ _ _ _ (RG.nil ?_)
    try simp only [x_seq, x_tn]
    refine aw_reg 1168 (RG.go fun Q hQ => ?_)
    simp only [RX, eff, ev_t, lk_cons, lkE_cons, setS_cons, setS_nil, AOp.isCall, setD, setEs, presOf, AOp.needs, SV.one?, SV.pre, gval, binV, idsOf, AOp.rds, AOp.ops, SV.ids, C.ids0, List.take_succ_cons, List.take_zero, List.drop_zero, List.length_cons, List.length_nil, Option.map_some, List.map_nil, List.nil_append, List.cons_append, true_and, and_self, Bool.true_and, Bool.false_eq_true, beq_false, implies_true, Nat.reduceAdd, Nat.reduceEqDiff, ↓reduceIte, Nat.zero_add, Nat.le_refl, List.append_nil]
    repeat refine ⟨by (first | omega | (simp; omega) | (simp; done) | exact ⟨by omega, by omega⟩ | exact ⟨by omega, by simp; omega⟩ | exact ⟨by simp; omega, by simp; omega⟩ | exact ⟨by simp, by simp; omega⟩ | (intro h; rw [h]; rfl) | (intro h; refine ⟨fun h2 => ?_, h⟩; rw [h, h2]; rfl) | (intro h; refine ⟨?_, h⟩; simp [inR] at h; omega) | (intro h; simp [inR] at h; omega) | assumption), ?_⟩
    refine hQ _ _ _ _ _ ?_
    refine RG.callg _ _ [] rfl (fun hg => ⟨_, (volume_Len_con v), by (repeat' (first | exact tr_nil | refine tr_cons ?_ ?_ | exact tr_v | exact tr_sl | exact tr_nils | exact tr_agg (by repeat' (first | exact trivial | rfl | exact rfl | refine ⟨?_, ?_⟩)) | exact tr_opt (by simpa using hg) tr_v | exact tr_opt (by simpa using hg) tr_sl | exact tr_opt (by simpa using hg) (tr_agg (by repeat' (first | exact trivial | rfl | exact rfl | refine ⟨?_, ?_⟩))))), trivial, by (first | exact .inl trivial | exact .inr ⟨rfl, trivial⟩)⟩) ?_
    refine RG.go fun Q hQ => ?_
    simp only [RX, eff, ev_t, ev_k, lk_cons, setS_cons, setS_nil, AOp.isCall, setD, setEs, presOf, AOp.needs, SV.one?, SV.pre, gval, binV, idsOf, AOp.rds, AOp.ops, SV.ids, C.ids0, Option.map_some, List.map_nil, List.nil_append, and_true, true_and, and_self, Bool.true_and, Bool.false_eq_true, beq_false, implies_true, imp_self, Bool.if_true_left, Bool.decide_eq_true, gt_iff_lt, Nat.reduceAdd, Nat.reduceEqDiff, ↓reduceIte, List.append_nil]
    repeat refine ⟨by (first | omega | (simp; omega) | (simp; done) | exact ⟨by omega, by omega⟩ | exact ⟨by omega, by simp; omega⟩ | exact ⟨by simp; omega, by simp; omega⟩ | exact ⟨by simp, by simp; omega⟩ | (intro h; rw [h]; rfl) | (intro h; refine ⟨fun h2 => ?_, h⟩; rw [h, h2]; rfl) | (intro h; refine ⟨?_, h⟩; simp [inR] at h; omega) | (intro h; simp [inR] at h; omega) | assumption), ?_⟩
    refine hQ _ _ _ _ _ (RG.nil ?_)
    try simp only [x_tn]
    refine aw_cond _ rfl trivial (fun ht => ?_) (fun hf => ?_)
    · skip
      try simp only [x_seq]
      refine aw_reg 1344 (RG.go fun Q hQ => ?_)
      simp only [RX, eff, ev_k, setS_cons, setS_nil, AOp.isCall, setD, setEs, presOf, AOp.needs, idsOf, AOp.rds, List.map_nil, List.nil_append, true_and, Bool.false_eq_true, Nat.reduceAdd, Nat.reduceEqDiff, ↓reduceIte]
      repeat refine ⟨by (first | omega | (simp; omega) | (simp; done) | exact ⟨by omega, by omega⟩ | exact ⟨by omega, by simp; omega⟩ | exact ⟨by simp; omega, by simp; omega⟩ | exact ⟨by simp, by simp; omega⟩ | (intro h; rw [h]; rfl) | (intro h; refine ⟨fun h2 => ?_, h⟩; rw [h, h2]; rfl) | (intro h; refine ⟨?_, h⟩; simp [inR] at h; omega) | (intro h; simp [inR] at h; omega) | assumption), ?_⟩
      refine hQ _ _ _ _ _ (RG.nil ?_)
      try simp only [x_ret, x_tn, x_tr, x_br, x_lr]
      refine Fin.b (.inr rfl) rfl trivial ?_
      rw [hrv, hp, hdr]
      simp [pinsR] at ht ⊢
      omega
    rw [hdr] at hp
    have hp' : pinsR (lenV v) v.floor v.pins = pinsR (lenV v) v.pins[i] (v.pins.drop (i + 1)) := by
      rw [hp]
      simp [pinsR] at hf ⊢
      omega
    try simp only [x_skip, x_tn]
    refine aw_reg 1392 (RG.go fun Q hQ => ?_)
    simp only [RX, eff, ev_t, lk_cons, setS_cons, setS_nil, AOp.isCall, setD, setEs, presOf, AOp.needs, idsOf, AOp.rds, List.map_nil, List.nil_append, true_and, Bool.false_eq_true, Nat.reduceAdd, Nat.reduceEqDiff, ↓reduceIte]
    repeat refine ⟨by (first | omega | (simp; omega) | (simp; done) | exact ⟨by omega, by omega⟩ | exact ⟨by omega, by simp; omega⟩ | exact ⟨by simp; omega, by simp; omega⟩ | exact ⟨by simp, by simp; omega⟩ | (intro h; rw [h]; rfl) | (intro h; refine ⟨fun h2 => ?_, h⟩; rw [h, h2]; rfl) | (intro h; refine ⟨?_, h⟩; simp [inR] at h; omega) | (intro h; simp [inR] at h; omega) | assumption), ?_⟩
    refine hQ _ _ _ _ _ (RG.nil ?_)
    try simp only [x_tn, x_bn]
    refine aw_reg 1456 (RG.go fun Q hQ => ?_)
    simp only [RX, eff, ev_t, ev_k, lk_cons, setS_cons, setS_nil, AOp.isCall, setD, setEs, presOf, AOp.needs, SV.one?, SV.pre, binV, idsOf, AOp.rds, AOp.ops, SV.ids, C.ids0, Option.map_some, List.map_nil, List.nil_append, true_and, and_self, Bool.false_eq_true, Nat.reduceAdd, Nat.reduceEqDiff, ↓reduceIte, List.append_nil, wi i _ hi' (by omega)]
    repeat refine ⟨by (first | omega | (simp; omega) | (simp; done) | exact ⟨by omega, by omega⟩ | exact ⟨by omega, by simp; omega⟩ | exact ⟨by simp; omega, by simp; omega⟩ | exact ⟨by simp, by simp; omega⟩ | (intro h; rw [h]; rfl) | (intro h; refine ⟨fun h2 => ?_, h⟩; rw [h, h2]; rfl) | (intro h; refine ⟨?_, h⟩; simp [inR] at h; omega) | (intro h; simp [inR] at h; omega) | assumption), ?_⟩
    refine hQ _ _ _ _ _ (RG.nil ?_)
    try simp only [x_ln]
    refine ⟨⟨(i + 1, v.pins[i]), hi', hp'⟩, ?_, by simp only; omega⟩
    refine Le.lit [] [] _ _ ?_ ?_ ?_ ?_
    · simp only [allL, lk_cons, lkE_cons, lkE_nil, WkSV, WkSV1, WkC, WkC0, rlook, frzEs, Nat.reduceEqDiff, ↓reduceIte, reduceCtorEq, and_true, ne_eq, not_false_eq_true]
      all_goals (try ((repeat' (first | exact trivial | rfl | exact rfl | (refine ⟨⟨_, _, rfl⟩, ?_⟩; (first | exact drows_brow _ | exact drows_nrow _ | exact drows_irow _ | exact drows_wrow _ | assumption | (simp [isDRows, brow, C.isD]; done) | (rw [← List.map_append]; first | exact drows_brow _ | exact drows_nrow _ | exact drows_irow _ | exact drows_wrow _))) | (simp; done) | refine ⟨?_, ?_⟩))))
    · simp only [allL, lkE_cons, lkE_nil, WkC, WkC0, WkEnt, TrL, rlook, frzEs, isDRows, Option.some.injEq, ↓reduceIte, and_true, exists_eq_left', ne_eq]
      all_goals (try ((repeat' (first | (first | exact drows_brow _ | exact drows_nrow _ | exact drows_irow _ | exact drows_wrow _ | assumption | (simp [isDRows, brow, C.isD]; done) | (rw [← List.map_append]; first | exact drows_brow _ | exact drows_nrow _ | exact drows_irow _ | exact drows_wrow _)) | rfl | refine ⟨?_, ?_⟩ | (left; (first | exact drows_brow _ | exact drows_nrow _ | exact drows_irow _ | exact drows_wrow _ | assumption | (simp [isDRows, brow, C.isD]; done) | (rw [← List.map_append]; first | exact drows_brow _ | exact drows_nrow _ | exact drows_irow _ | exact drows_wrow _)))))))
    · simp [rlook]
    · first | (simp; done) | (intro k hk; simp [rlook]; omega)
  have hi' : i = v.pins.length := by simp at hf; omega
  rw [hi', List.drop_length] at hp
  rw [hp] at hrv
  try simp only [x_seq, x_exit, x_tn, x_tx, x_bx, x_lx, ↓reduceIte]
  refine aw_reg 1520 (RG.go fun Q hQ => ?_)
  simp only [RX, eff, ev_t, ev_k, lk_cons, lkE_cons, setS_cons, setS_nil, AOp.isCall, setD, setEs, presOf, AOp.needs, SV.one?, SV.pre, idsOf, AOp.rds, AOp.ops, SV.ids, C.ids0, rowsOf, List.getElem?_cons_zero, List.getElem?_cons_succ, Option.map_some, List.map_nil, List.nil_append, List.cons_append, true_and, and_self, Bool.false_eq_true, Nat.reduceAdd, Nat.reduceEqDiff, ↓reduceIte, Option.bind_some, Nat.zero_add, List.append_nil]
  repeat refine ⟨by (first | omega | (simp; omega) | (simp; done) | exact ⟨by omega, by omega⟩ | exact ⟨by omega, by simp; omega⟩ | exact ⟨by simp; omega, by simp; omega⟩ | exact ⟨by simp, by simp; omega⟩ | (intro h; rw [h]; rfl) | (intro h; refine ⟨fun h2 => ?_, h⟩; rw [h, h2]; rfl) | (intro h; refine ⟨?_, h⟩; simp [inR] at h; omega) | (intro h; simp [inR] at h; omega) | assumption), ?_⟩
  refine hQ _ _ _ _ _ (RG.nil ?_)
  try simp only [x_block, x_tn]
  refine aw_loopK (X := { i : Nat // i ≤ v.ws.length ∧ wsR v.blocks v.size 0 v.ws = wsR v.blocks v.size i (v.ws.drop i) }) [1, 73, 74] (fun i => [(75, I i.1)]) [16] (fun i => []) (fun i => v.ws.length - i.1) (⟨0, by omega, rfl⟩) ?_ ?_
  · skip
    simp only [keepS, keepE, Option.getD_some, lk_cons, lkE_cons, List.cons_append, List.nil_append, Nat.reduceEqDiff, ↓reduceIte]
    refine Le.lit [] [] _ _ ?_ ?_ ?_ ?_
    · simp only [Int.cast_ofNat_Int, allL, lk_cons, lkE_cons, lkE_nil, WkSV, WkSV1, WkC, WkC0, rlook, frzEs, Nat.reduceEqDiff, ↓reduceIte, reduceCtorEq, and_true, ne_eq, not_false_eq_true]
      all_goals (try ((repeat' (first | exact trivial | rfl | exact rfl | (refine ⟨⟨_, _, rfl⟩, ?_⟩; (first | exact drows_brow _ | exact drows_nrow _ | exact drows_irow _ | exact drows_wrow _ | assumption | (simp [isDRows, brow, C.isD]; done) | (rw [← List.map_append]; first | exact drows_brow _ | exact drows_nrow _ | exact drows_irow _ | exact drows_wrow _))) | (simp; done) | refine ⟨?_, ?_⟩))))
    · simp only [allL, lkE_cons, lkE_nil, WkC, WkC0, WkEnt, TrL, rlook, frzEs, isDRows, Option.some.injEq, ↓reduceIte, and_true, exists_eq_left', ne_eq]
      all_goals (try ((repeat' (first | (first | exact drows_brow _ | exact drows_nrow _ | exact drows_irow _ | exact drows_wrow _ | assumption | (simp [isDRows, brow, C.isD]; done) | (rw [← List.map_append]; first | exact drows_brow _ | exact drows_nrow _ | exact drows_irow _ | exact drows_wrow _)) | rfl | refine ⟨?_, ?_⟩ | (left; (first | exact drows_brow _ | exact drows_nrow _ | exact drows_irow _ | exact drows_wrow _ | assumption | (simp [isDRows, brow, C.isD]; done) | (rw [← List.map_append]; first | exact drows_brow _ | exact drows_nrow _ | exact drows_irow _ | exact drows_wrow _)))))))
    · simp [rlook]
    · first | (simp; done) | (intro k hk; simp [rlook]; omega)
  rintro ⟨k, hk, hw⟩
  try simp only at hk hw
  simp only [keepS, keepE, Option.getD_some, lk_cons, lkE_cons, List.cons_append, List.nil_append, Nat.reduceEqDiff, ↓reduceIte]
  try simp only [x_seq]
  refine aw_reg 1616 (RG.go fun Q hQ => ?_)
  simp only [RX, eff, ev_t, lk_cons, setS_cons, setS_nil, AOp.isCall, setD, setEs, presOf, AOp.needs, SV.one?, SV.pre, binV, idsOf, AOp.rds, AOp.ops, SV.ids, C.ids0, Option.map_some, List.map_nil, List.nil_append, true_and, and_self, Bool.false_eq_true, Nat.reduceAdd, Nat.reduceEqDiff, ↓reduceIte, List.append_nil]
  repeat refine ⟨by (first | omega | (simp; omega) | (simp; done) | exact ⟨by omega, by omega⟩ | exact ⟨by omega, by simp; omega⟩ | exact ⟨by simp; omega, by simp; omega⟩ | exact ⟨by simp, by simp; omega⟩ | (intro h; rw [h]; rfl) | (intro h; refine ⟨fun h2 => ?_, h⟩; rw [h, h2]; rfl) | (intro h; refine ⟨?_, h⟩; simp [inR] at h; omega) | (intro h; simp [inR] at h; omega) | assumption), ?_⟩
  refine hQ _ _ _ _ _ (RG.nil ?_)
  try simp only [x_seq, x_tn]
  refine aw_cond _ rfl trivial (fun ht => ?_) (fun hf => ?_)
  · have hk' : k < v.ws.length := by simpa using ht
    have hr : ((v.ws.map wrow)[((k : Int)).toNat]?).getD [] = [.v (.int .i64 v.ws[k].s), .sl (v.ws[k].its.map irow)] := map_get wrow hk' []
    have hdr := drop_get hk'
    obtain ⟨hz1, hz2⟩ := ok4 _ (List.getElem_mem hk')
    have hwk := wi k _ hk' (by omega)
    try simp only [x_seq, x_block, x_skip, x_tn]
    refine aw_reg 1664 (RG.go fun Q hQ => ?_)
    simp only [RX, eff, ev_t, lk_cons, lkE_cons, lkE_nil, setS_cons, setS_nil, setE_cons, setE_nil, AOp.isCall, setD, setEs, presOf, AOp.needs, SV.one?, SV.pre, SV.cells, idsOf, AOp.rds, AOp.ops, SV.ids, C.ids0, splice, List.take_succ_cons, List.take_zero, List.drop_succ_cons, List.drop_zero, List.length_cons, List.length_nil, List.map_cons, List.map_nil, List.nil_append, List.cons_append, and_true, true_and, and_self, Bool.false_eq_true, Nat.reduceAdd, Nat.reduceEqDiff, ↓reduceIte, Nat.zero_add, Nat.le_refl, List.append_nil, hr]
    repeat refine ⟨by (first | omega | (simp; omega) | (simp; done) | exact ⟨by omega, by omega⟩ | exact ⟨by omega, by simp; omega⟩ | exact ⟨by simp; omega, by simp; omega⟩ | exact ⟨by simp, by simp; omega⟩ | (intro h; rw [h]; rfl) | (intro h; refine ⟨fun h2 => ?_, h⟩; rw [h, h2]; rfl) | (intro h; refine ⟨?_, h⟩; simp [inR] at h; omega) | (intro h; simp [inR] at h; omega) | assumption), ?_⟩
    refine hQ _ _ _ _ _ (RG.nil ?_)
    try simp only [x_seq, x_tn]
    refine aw_reg 1792 (RG.go fun Q hQ => ?_)
    simp only [RX, eff, ev_t, ev_k, lk_cons, lkE_cons, setS_cons, setS_nil, AOp.isCall, setD, setEs, presOf, AOp.needs, SV.one?, SV.pre, gval, binV, idsOf, AOp.rds, AOp.ops, SV.ids, C.ids0, List.getElem?_cons_zero, List.getElem?_cons_succ, Option.map_some, List.map_nil, List.nil_append, List.cons_append, and_true, true_and, and_self, Bool.true_and, Bool.false_eq_true, beq_false, implies_true, imp_self, Nat.reduceAdd, Nat.reduceEqDiff, ↓reduceIte, Nat.zero_add, List.append_nil, Nat.add_zero, hwk]
    repeat refine ⟨by (first | omega | (simp; omega) | (simp; done) | exact ⟨by omega, by omega⟩ | exact ⟨by omega, by simp; omega⟩ | exact ⟨by simp; omega, by simp; omega⟩ | exact ⟨by simp, by simp; omega⟩ | (intro h; rw [h]; rfl) | (intro h; refine ⟨fun h2 => ?_, h⟩; rw [h, h2]; rfl) | (intro h; refine ⟨?_, h⟩; simp [inR] at h; omega) | (intro h; simp [inR] at h; omega) | assumption), ?_⟩
    refine hQ _ _ _ _ _ ?_
    refine RG.callg _ _ [] rfl (fun hg => ⟨_, (volume_ItemsRight_con v.blocks v.size v.ws[k].its hz1 hz2), by (repeat' (first | exact tr_nil | refine tr_cons ?_ ?_ | exact tr_v | exact tr_sl | exact tr_nils | exact tr_agg (by repeat' (first | exact trivial | rfl | exact rfl | refine ⟨?_, ?_⟩)) | exact tr_opt (by simpa using hg) tr_v | exact tr_opt (by simpa using hg) tr_sl | exact tr_opt (by simpa using hg) (tr_agg (by repeat' (first | exact trivial | rfl | exact rfl | refine ⟨?_, ?_⟩))))), trivial, by (first | exact .inl trivial | exact .inr ⟨rfl, trivial⟩)⟩) ?_
    refine RG.go fun Q hQ => ?_
    simp only [RX, eff, ev_t, ev_k, lk_cons, setS_cons, setS_nil, AOp.isCall, setD, setEs, presOf, AOp.needs, SV.one?, SV.pre, gval, unV, idsOf, AOp.rds, AOp.ops, SV.ids, C.ids0, Option.map_some, List.map_nil, List.nil_append, and_true, true_and, and_self, Bool.true_and, Bool.false_eq_true, beq_false, implies_true, imp_self, Bool.if_true_left, Bool.decide_eq_true, Nat.reduceAdd, Nat.reduceEqDiff, ↓reduceIte, List.append_nil]
    repeat refine ⟨by (first | omega | (simp; omega) | (simp; done) | exact ⟨by omega, by omega⟩ | exact ⟨by omega, by simp; omega⟩ | exact ⟨by simp; omega, by simp; omega⟩ | exact ⟨by simp, by simp; omega⟩ | (intro h; rw [h]; rfl) | (intro h; refine ⟨fun h2 => ?_, h⟩; rw [h, h2]; rfl) | (intro h; refine ⟨?_, h⟩; simp [inR] at h; omega) | (intro h; simp [inR] at h; omega) | assumption), ?_⟩
    refine hQ _ _ _ _ _ (RG.nil ?_)
    try simp only [x_tn]
    rw [hdr] at hw
    refine aw_cond _ rfl trivial (fun ht => ?_) (fun hf => ?_)
    · skip
      try simp only [x_seq]
      refine aw_reg 2064 (RG.go fun Q hQ => ?_)
      simp only [RX, eff, ev_k, setS_cons, setS_nil, AOp.isCall, setD, setEs, presOf, AOp.needs, idsOf, AOp.rds, List.map_nil, List.nil_append, true_and, Bool.false_eq_true, Nat.reduceAdd, Nat.reduceEqDiff, ↓reduceIte]
      repeat refine ⟨by (first | omega | (simp; omega) | (simp; done) | exact ⟨by omega, by omega⟩ | exact ⟨by omega, by simp; omega⟩ | exact ⟨by simp; omega, by simp; omega⟩ | exact ⟨by simp, by simp; omega⟩ | (intro h; rw [h]; rfl) | (intro h; refine ⟨fun h2 => ?_, h⟩; rw [h, h2]; rfl) | (intro h; refine ⟨?_, h⟩; simp [inR] at h; omega) | (intro h; simp [inR] at h; omega) | assumption), ?_⟩
      refine hQ _ _ _ _ _ (RG.nil ?_)
      try simp only [x_ret, x_tn, x_tr, x_br, x_lr]
      refine Fin.b (.inr rfl) rfl trivial ?_
      rw [hrv, hw]
      simp at ht
      rcases ht with h | h
      · simp [pinsR, wsR, h]
      · simp [pinsR, wsR, h]
    have hw' : wsR v.blocks v.size 0 v.ws = wsR v.blocks v.size (k + 1) (v.ws.drop (k + 1)) := by
      rw [hw]
      simp at hf
      simp [wsR, hf.1, hf.2]
    try simp only [x_skip, x_tn, x_bn]
    refine aw_reg 2100 (RG.go fun Q hQ => ?_)
    simp only [RX, eff, ev_t, ev_k, lk_cons, setS_cons, setS_nil, AOp.isCall, setD, setEs, presOf, AOp.needs, SV.one?, SV.pre, binV, idsOf, AOp.rds, AOp.ops, SV.ids, C.ids0, Option.map_some, List.map_nil, List.nil_append, true_and, and_self, Bool.false_eq_true, Nat.reduceAdd, Nat.reduceEqDiff, ↓reduceIte, List.append_nil, hwk]
    repeat refine ⟨by (first | omega | (simp; omega) | (simp; done) | exact ⟨by omega, by omega⟩ | exact ⟨by omega, by simp; omega⟩ | exact ⟨by simp; omega, by simp; omega⟩ | exact ⟨by simp, by simp; omega⟩ | (intro h; rw [h]; rfl) | (intro h; refine ⟨fun h2 => ?_, h⟩; rw [h, h2]; rfl) | (intro h; refine ⟨?_, h⟩; simp [inR] at h; omega) | (intro h; simp [inR] at h; omega) | assumption), ?_⟩
    refine hQ _ _ _ _ _ (RG.nil ?_)
    try simp only [x_ln]
    refine ⟨⟨k + 1, hk', hw'⟩, ?_, by simp only; omega⟩
    refine Le.lit [] [] _ _ ?_ ?_ ?_ ?_
    · simp only [allL, lk_cons, lkE_cons, lkE_nil, WkSV, WkSV1, WkC, WkC0, rlook, frzEs, Nat.reduceEqDiff, ↓reduceIte, reduceCtorEq, and_true, ne_eq, not_false_eq_true]
      all_goals (try ((repeat' (first | exact trivial | rfl | exact rfl | (refine ⟨⟨_, _, rfl⟩, ?_⟩; (first | exact drows_brow _ | exact drows_nrow _ | exact drows_irow _ | exact drows_wrow _ | assumption | (simp [isDRows, brow, C.isD]; done) | (rw [← List.map_append]; first | exact drows_brow _ | exact drows_nrow _ | exact drows_irow _ | exact drows_wrow _))) | (simp; done) | refine ⟨?_, ?_⟩))))
    · simp only [allL, lkE_cons, lkE_nil, WkC, WkC0, WkEnt, TrL, rlook, frzEs, isDRows, Option.some.injEq, ↓reduceIte, and_true, exists_eq_left', ne_eq]
      all_goals (try ((repeat' (first | (first | exact drows_brow _ | exact drows_nrow _ | exact drows_irow _ | exact drows_wrow _ | assumption | (simp [isDRows, brow, C.isD]; done) | (rw [← List.map_append]; first | exact drows_brow _ | exact drows_nrow _ | exact drows_irow _ | exact drows_wrow _)) | rfl | refine ⟨?_, ?_⟩ | (left; (first | exact drows_brow _ | exact drows_nrow _ | exact drows_irow _ | exact drows_wrow _ | assumption | (simp [isDRows, brow, C.isD]; done) | (rw [← List.map_append]; first | exact drows_brow _ | exact drows_nrow _ | exact drows_irow _ | exact drows_wrow _)))))))
    · simp [rlook]
    · first | (simp; done) | (intro k hk; simp [rlook]; omega)
  have hk' : k = v.ws.length := by simp at hf; omega
  rw [hk', List.drop_length] at hw
  try simp only [x_seq, x_exit, x_tn, x_tx, x_bx, x_lx, ↓reduceIte]
  refine aw_reg 2200 (RG.go fun Q hQ => ?_)
  simp only [RX, eff, ev_k, setS_cons, setS_nil, AOp.isCall, setD, setEs, presOf, AOp.needs, idsOf, AOp.rds, List.map_nil, List.nil_append, true_and, Bool.false_eq_true, Nat.reduceAdd, Nat.reduceEqDiff, ↓reduceIte]
  repeat refine ⟨by (first | omega | (simp; omega) | (simp; done) | exact ⟨by omega, by omega⟩ | exact ⟨by omega, by simp; omega⟩ | exact ⟨by simp; omega, by simp; omega⟩ | exact ⟨by simp, by simp; omega⟩ | (intro h; rw [h]; rfl) | (intro h; refine ⟨fun h2 => ?_, h⟩; rw [h, h2]; rfl) | (intro h; refine ⟨?_, h⟩; simp [inR] at h; omega) | (intro h; simp [inR] at h; omega) | assumption), ?_⟩
  refine hQ _ _ _ _ _ (RG.nil ?_)
  try simp only [x_ret, x_tn]
  refine Fin.b (.inr rfl) rfl trivial ?_
  rw [hrv, hw]; rfl

end Go.Abs

namespace Go.Abs
open Go Go.Proofs
set_option maxRecDepth 100000
set_option linter.unusedSimpArgs false
set_option maxHeartbeats 2000000

theorem hist_behind_1_con (l : List IT) (t : Int) (i : Nat) (hi : i < l.length) (hl : l.length ≤ 1000000) : Con Try.prog 91 [I i, .c (.bp 0 0), .c (.bp 1 0)] [.box [.sl (l.map irow)], .box [.v (.int .i64 t)]] (B (decide (l[i].b > t))) [.box [.sl (l.map irow)], .box [.v (.int .i64 t)]] := by
  have hr : ((l.map irow)[((i : Int)).toNat]?).getD [] = [.v (.int .i64 l[i].b), .sl (l[i].d.map brow)] := map_get irow hi []
  refine C_hist_behind_1 (Nat.le_of_ble_eq_true rfl) (Nat.le_of_ble_eq_true rfl) ?_
  simp only [A_hist_behind_1, argL, objL, List.length_nil, List.length_cons, Nat.reduceAdd, Nat.zero_add, x_seq]
  refine aw_reg 16 (RG.go fun Q hQ => ?_)
  simp only [RX, eff, ev_k, setS_cons, setS_nil, AOp.isCall, setD, setEs, presOf, AOp.needs, idsOf, AOp.rds, List.map_nil, List.nil_append, true_and, Bool.false_eq_true, reduceCtorEq, Nat.reduceAdd, Nat.reduceEqDiff, ↓reduceIte]
  repeat refine ⟨by (first | omega | (simp; omega) | (simp; done) | exact ⟨by omega, by omega⟩ | exact ⟨by omega, by simp; omega⟩ | exact ⟨by simp; omega, by simp; omega⟩ | exact ⟨by simp, by simp; omega⟩ | (intro h; rw [h]; rfl) | (intro h; refine ⟨fun h2 => ?_, h⟩; rw [h, h2]; rfl) | (intro h; refine ⟨?_, h⟩; simp [inR] at h; omega) | (intro h; simp [inR] at h; omega) | assumption), ?_⟩
  refine hQ _ _ _ _ _ (RG.nil ?_)
  try simp only [x_seq, x_tn]
  refine aw_draw 64 (RG.go fun Q hQ => ?_)
  simp only [RX, eff, ev_t, lk_cons, lkE_cons, setS_cons, setS_nil, AOp.isCall, setD, setEs, presOf, AOp.needs, SV.one?, SV.pre, binV, idsOf, AOp.rds, AOp.ops, SV.ids, C.ids0, Option.getD_some, List.drop_zero, List.length_cons, List.length_nil, List.getElem?_cons_zero, Option.map_some, List.map_nil, List.nil_append, List.cons_append, and_true, true_and, and_self, Bool.false_eq_true, reduceCtorEq, gt_iff_lt, Nat.reduceAdd, Nat.reduceEqDiff, Nat.reduceLT, ↓reduceIte, Nat.zero_add, List.append_nil, C_default, hr]
  repeat refine ⟨by (first | omega | (simp; omega) | (simp; done) | exact ⟨by omega, by omega⟩ | exact ⟨by omega, by simp; omega⟩ | exact ⟨by simp; omega, by simp; omega⟩ | exact ⟨by simp, by simp; omega⟩ | (intro h; rw [h]; rfl) | (intro h; refine ⟨fun h2 => ?_, h⟩; rw [h, h2]; rfl) | (intro h; refine ⟨?_, h⟩; simp [inR] at h; omega) | (intro h; simp [inR] at h; omega) | assumption), ?_⟩
  refine hQ _ _ _ _ _ (RG.nil ⟨by decide +kernel, ?_⟩)
  try simp only [x_ret, x_tn]
  refine Fin.objs [] [] (.inr rfl) rfl (by first | exact trivial | exact ⟨trivial, trivial⟩ | exact ⟨trivial, trivial, trivial⟩) ?_ ?_ (by simp [objL, rlook]) (by first | (simp [objL, rlook]; done) | (intro k hk; simp [objL, rlook]; omega))
  · simp only [mkSt_sl, lk_cons, lkE_cons, lkE_nil, WkSV, WkSV1, WkC, WkC0, rlook, frzEs, objL, Nat.zero_add, Nat.reduceEqDiff, ↓reduceIte, reduceCtorEq, ne_eq]
    all_goals (try ((repeat' (first | exact trivial | rfl | exact rfl | (refine ⟨⟨_, _, rfl⟩, ?_⟩; (first | exact drows_brow _ | exact drows_nrow _ | exact drows_irow _ | exact drows_wrow _ | assumption | (simp [isDRows, brow, C.isD]; done) | (rw [← List.map_append]; first | exact drows_brow _ | exact drows_nrow _ | exact drows_irow _ | exact drows_wrow _))) | (simp; done) | refine ⟨?_, ?_⟩))))
  · simp only [allL, lkE_cons, lkE_nil, WkC, WkC0, WkEnt, TrL, rlook, frzEs, objL, isDRows, Option.some.injEq, Nat.zero_add, ↓reduceIte, reduceCtorEq, and_true, exists_eq_left', ne_eq]
    all_goals (try ((repeat' (first | (first | exact drows_brow _ | exact drows_nrow _ | exact drows_irow _ | exact drows_wrow _ | assumption | (simp [isDRows, brow, C.isD]; done) | (rw [← List.map_append]; first | exact drows_brow _ | exact drows_nrow _ | exact drows_irow _ | exact drows_wrow _)) | rfl | refine ⟨?_, ?_⟩ | (left; (first | exact drows_brow _ | exact drows_nrow _ | exact drows_irow _ | exact drows_wrow _ | assumption | (simp [isDRows, brow, C.isD]; done) | (rw [← List.map_append]; first | exact drows_brow _ | exact drows_nrow _ | exact drows_irow _ | exact drows_wrow _)))))))

theorem sort_Search_con (l : List IT) (t : Int) (k : Nat) (hl : l.length ≤ 1000000) (hk : k ≤ l.length) (h1 : ∀ i (hi : i < l.length), i < k → l[i].b ≤ t) (h2 : ∀ i (hi : i < l.length), k ≤ i → t < l[i].b) :
    Con Try.prog 90 [I l.length, .c (.fn 91 [.bp 0 0, .bp 1 0])] [.box [.sl (l.map irow)], .box [.v (.int .i64 t)]] (I k) [.box [.sl (l.map irow)], .box [.v (.int .i64 t)]] := by
  refine C_sort_Search (Nat.le_of_ble_eq_true rfl) (Nat.le_of_ble_eq_true rfl) ?_
  simp only [A_sort_Search, argL, objL, List.length_nil, List.length_cons, Nat.reduceAdd, Nat.zero_add, x_seq]
  refine aw_reg 16 (RG.go fun Q hQ => ?_)
  simp only [RX, eff, ev_k, setS_cons, setS_nil, AOp.isCall, setD, setEs, presOf, AOp.needs, idsOf, AOp.rds, List.map_nil, List.nil_append, true_and, Bool.false_eq_true, reduceCtorEq, Nat.reduceAdd, Nat.reduceEqDiff, ↓reduceIte]
  repeat refine ⟨by (first | omega | (simp; omega) | (simp; done) | exact ⟨by omega, by omega⟩ | exact ⟨by omega, by simp; omega⟩ | exact ⟨by simp; omega, by simp; omega⟩ | exact ⟨by simp, by simp; omega⟩ | (intro h; rw [h]; rfl) | (intro h; refine ⟨fun h2 => ?_, h⟩; rw [h, h2]; rfl) | (intro h; refine ⟨?_, h⟩; simp [inR] at h; omega) | (intro h; simp [inR] at h; omega) | assumption), ?_⟩
  refine hQ _ _ _ _ _ (RG.nil ?_)
  try simp only [x_seq, x_tn]
  refine aw_reg 64 (RG.go fun Q hQ => ?_)
  simp only [RX, eff, ev_t, ev_k, lk_cons, setS_cons, setS_nil, AOp.isCall, setD, setEs, presOf, AOp.needs, idsOf, AOp.rds, List.map_nil, List.nil_append, true_and, Bool.false_eq_true, reduceCtorEq, Nat.reduceAdd, Nat.reduceEqDiff, ↓reduceIte]
  repeat refine ⟨by (first | omega | (simp; omega) | (simp; done) | exact ⟨by omega, by omega⟩ | exact ⟨by omega, by simp; omega⟩ | exact ⟨by simp; omega, by simp; omega⟩ | exact ⟨by simp, by simp; omega⟩ | (intro h; rw [h]; rfl) | (intro h; refine ⟨fun h2 => ?_, h⟩; rw [h, h2]; rfl) | (intro h; refine ⟨?_, h⟩; simp [inR] at h; omega) | (intro h; simp [inR] at h; omega) | assumption), ?_⟩
  refine hQ _ _ _ _ _ (RG.nil ?_)
  try simp only [x_seq, x_block, x_tn]
  refine aw_loopK (X := { p : Nat × Nat // p.1 ≤ k ∧ k ≤ p.2 ∧ p.2 ≤ l.length }) [1] (fun p => [(5, I p.1.1), (6, I p.1.2)]) [0, 1] (fun p => []) (fun p => p.1.2 - p.1.1) (⟨(0, l.length), by omega, hk, by omega⟩) ?_ ?_
  · skip
    simp only [keepS, keepE, Option.getD_some, lk_cons, lkE_cons, List.cons_append, List.nil_append, ↓reduceIte, reduceCtorEq]
    refine Le.lit [] [] _ _ ?_ ?_ ?_ ?_
    · simp only [Int.cast_ofNat_Int, allL, lk_cons, lkE_cons, lkE_nil, WkSV, WkSV1, WkC, WkC0, TrL, rlook, frzEs, Nat.reduceEqDiff, ↓reduceIte, reduceCtorEq, and_true, ne_eq, not_false_eq_true]
      all_goals (try ((repeat' (first | exact trivial | rfl | exact rfl | (refine ⟨⟨_, _, rfl⟩, ?_⟩; (first | exact drows_brow _ | exact drows_nrow _ | exact drows_irow _ | exact drows_wrow _ | assumption | (simp [isDRows, brow, C.isD]; done) | (rw [← List.map_append]; first | exact drows_brow _ | exact drows_nrow _ | exact drows_irow _ | exact drows_wrow _))) | (simp; done) | refine ⟨?_, ?_⟩))))
    · simp only [allL, lkE_cons, lkE_nil, WkC, WkC0, WkEnt, TrL, rlook, frzEs, isDRows, Option.some.injEq, ↓reduceIte, reduceCtorEq, and_true, exists_eq_left', ne_eq]
      all_goals (try ((repeat' (first | (first | exact drows_brow _ | exact drows_nrow _ | exact drows_irow _ | exact drows_wrow _ | assumption | (simp [isDRows, brow, C.isD]; done) | (rw [← List.map_append]; first | exact drows_brow _ | exact drows_nrow _ | exact drows_irow _ | exact drows_wrow _)) | rfl | refine ⟨?_, ?_⟩ | (left; (first | exact drows_brow _ | exact drows_nrow _ | exact drows_irow _ | exact drows_wrow _ | assumption | (simp [isDRows, brow, C.isD]; done) | (rw [← List.map_append]; first | exact drows_brow _ | exact drows_nrow _ | exact drows_irow _ | exact drows_wrow _)))))))
    · simp [rlook]
    · first | (simp; done) | (intro k hk; simp [rlook]; omega)
  rintro ⟨⟨i, j⟩, hi, hj, hjl⟩
  simp only at hi hj hjl
  simp only [keepS, keepE, Option.getD_some, lk_cons, lkE_cons, List.cons_append, List.nil_append, ↓reduceIte, reduceCtorEq]
  try simp only [x_seq]
  refine aw_reg 144 (RG.go fun Q hQ => ?_)
  simp only [RX, eff, ev_t, lk_cons, setS_cons, setS_nil, AOp.isCall, setD, setEs, presOf, AOp.needs, SV.one?, SV.pre, binV, idsOf, AOp.rds, AOp.ops, SV.ids, C.ids0, Option.map_some, List.map_nil, List.nil_append, true_and, and_self, Bool.false_eq_true, Nat.reduceAdd, Nat.reduceEqDiff, ↓reduceIte, List.append_nil]
  repeat refine ⟨by (first | omega | (simp; omega) | (simp; done) | exact ⟨by omega, by omega⟩ | exact ⟨by omega, by simp; omega⟩ | exact ⟨by simp; omega, by simp; omega⟩ | exact ⟨by simp, by simp; omega⟩ | (intro h; rw [h]; rfl) | (intro h; refine ⟨fun h2 => ?_, h⟩; rw [h, h2]; rfl) | (intro h; refine ⟨?_, h⟩; simp [inR] at h; omega) | (intro h; simp [inR] at h; omega) | assumption), ?_⟩
  refine hQ _ _ _ _ _ (RG.nil ?_)
  try simp only [x_tn]
  refine aw_cond _ rfl trivial (fun ht => ?_) (fun hf => ?_)
  · have hij : i < j := by simpa using ht
    have w1 : IntKind.i64.wrap ((i : Int) + j) = ((i + j : Nat) : Int) := by rw [w64 _ (by omega) (by omega)]; omega
    have w2 : IntKind.u64.wrap ((i + j : Nat) : Int) = ((i + j : Nat) : Int) := by rw [w_u64]; omega
    have w3 : ((i + j : Nat) : Int).fdiv (2 ^ min 1 IntKind.u64.bits) = (((i + j) / 2 : Nat) : Int) := by
      rw [show (2 : Int) ^ min 1 IntKind.u64.bits = 2 from rfl, Int.fdiv_eq_ediv_of_nonneg _ (by omega)]; omega
    have w4 : IntKind.i64.wrap (((i + j) / 2 : Nat) : Int) = (((i + j) / 2 : Nat) : Int) := w64 _ (by omega) (by omega)
    try simp only [x_seq, x_block, x_skip, x_tn]
    refine aw_reg 224 (RG.go fun Q hQ => ?_)
    simp only [RX, eff, ev_t, ev_k, lk_cons, setS_cons, setS_nil, AOp.isCall, setD, setEs, presOf, AOp.needs, SV.one?, SV.pre, binV, idsOf, AOp.rds, AOp.ops, SV.ids, C.ids0, Option.map_some, List.map_nil, List.nil_append, true_and, and_self, Bool.false_eq_true, Nat.reduceAdd, Nat.reduceEqDiff, Int.reduceToNat, ↓reduceIte, List.append_nil, Int.reduceLE, w1, w2, w3, w4]
    repeat refine ⟨by (first | omega | (simp; omega) | (simp; done) | exact ⟨by omega, by omega⟩ | exact ⟨by omega, by simp; omega⟩ | exact ⟨by simp; omega, by simp; omega⟩ | exact ⟨by simp, by simp; omega⟩ | (intro h; rw [h]; rfl) | (intro h; refine ⟨fun h2 => ?_, h⟩; rw [h, h2]; rfl) | (intro h; refine ⟨?_, h⟩; simp [inR] at h; omega) | (intro h; simp [inR] at h; omega) | assumption), ?_⟩
    refine hQ _ _ _ _ _ (RG.nil ?_)
    try simp only [x_seq, x_tn]
    obtain ⟨h, hh⟩ : ∃ h, h = (i + j) / 2 := ⟨_, rfl⟩
    rw [← hh]
    have hhl : h < l.length := by omega
    refine aw_reg 368 (RG.go fun Q hQ => ?_)
    simp only [RX, eff, ev_t, lk_cons, setS_cons, setS_nil, AOp.isCall, setD, setEs, presOf, AOp.needs, idsOf, AOp.rds, List.map_nil, List.nil_append, true_and, Bool.false_eq_true, Nat.reduceAdd, Nat.reduceEqDiff, ↓reduceIte]
    repeat refine ⟨by (first | omega | (simp; omega) | (simp; done) | exact ⟨by omega, by omega⟩ | exact ⟨by omega, by simp; omega⟩ | exact ⟨by simp; omega, by simp; omega⟩ | exact ⟨by simp, by simp; omega⟩ | (intro h; rw [h]; rfl) | (intro h; refine ⟨fun h2 => ?_, h⟩; rw [h, h2]; rfl) | (intro h; refine ⟨?_, h⟩; simp [inR] at h; omega) | (intro h; simp [inR] at h; omega) | assumption), ?_⟩
    refine hQ _ _ _ _ _ ?_
    refine RG.callvo [0, 1] [] rfl trivial (hist_behind_1_con l t h hhl hl) (.mk (tr_cons tr_v (tr_cons (tr_bp rfl) (tr_cons (tr_bp rfl) tr_nil))) (by simp only [TrL, TrC, TrC0, TrEnt, lkE_cons, ↓reduceIte, reduceCtorEq, and_self, exists_eq_left', Option.some.injEq, isDRows]) (by simp) (by simp) trivial (by simp [lkE_cons, lkE_nil]) (by simp [Ent.pure]) (by simp) (by simp)) ?_
    refine RG.go fun Q hQ => ?_
    simp only [RX, eff, ev_t, lk_cons, lkE_cons, lkE_nil, setS_cons, setS_nil, setE_cons, AOp.isCall, setD, setEs, presOf, AOp.needs, SV.one?, SV.pre, unV, idsOf, AOp.rds, AOp.ops, SV.ids, C.ids0, List.drop_succ_cons, List.drop_zero, List.length_cons, List.length_nil, Option.map_some, List.map_cons, List.map_nil, List.nil_append, true_and, and_self, Bool.false_eq_true, reduceCtorEq, gt_iff_lt, Nat.reduceAdd, Nat.reduceEqDiff, ↓reduceIte, Nat.zero_add, renSV, renSV1, renC, renC0, renEnt, backUps, List.zip_nil_right, List.zip_cons_cons, List.zipIdx_nil, List.filterMap_nil, List.append_nil, List.range_zero, Nat.sub_self]
    repeat refine ⟨by (first | omega | (simp; omega) | (simp; done) | exact ⟨by omega, by omega⟩ | exact ⟨by omega, by simp; omega⟩ | exact ⟨by simp; omega, by simp; omega⟩ | exact ⟨by simp, by simp; omega⟩ | (intro h; rw [h]; rfl) | (intro h; refine ⟨fun h2 => ?_, h⟩; rw [h, h2]; rfl) | (intro h; refine ⟨?_, h⟩; simp [inR] at h; omega) | (intro h; simp [inR] at h; omega) | assumption), ?_⟩
    refine hQ _ _ _ _ _ (RG.nil ?_)
    try simp only [x_tn]
    refine aw_cond _ rfl trivial (fun ht => ?_) (fun hf => ?_)
    · have hkh : h < k := by
        simp at ht
        rcases Nat.lt_or_ge h k with g | g
        · exact g
        · have := h2 h hhl g; omega
      try simp only [x_seq, x_block, x_skip, x_ret, x_exit, x_tn, x_tr, x_tx, x_bn, x_br, x_bx, x_ln, x_lr, x_lx, Nat.reduceEqDiff, ↓reduceIte, if_true, if_false, reduceCtorEq]
      refine aw_reg 464 (RG.go fun Q hQ => ?_)
      simp only [RX, eff, ev_t, ev_k, lk_cons, setS_cons, setS_nil, AOp.isCall, setD, setEs, presOf, AOp.needs, SV.one?, SV.pre, binV, idsOf, AOp.rds, AOp.ops, SV.ids, C.ids0, Option.map_some, List.map_nil, List.nil_append, true_and, and_self, Bool.false_eq_true, Nat.reduceAdd, Nat.reduceEqDiff, ↓reduceIte, List.append_nil, wi h _ hhl (by omega)]
      repeat refine ⟨by (first | omega | (simp; omega) | (simp; done) | exact ⟨by omega, by omega⟩ | exact ⟨by omega, by simp; omega⟩ | exact ⟨by simp; omega, by simp; omega⟩ | exact ⟨by simp, by simp; omega⟩ | (intro h; rw [h]; rfl) | (intro h; refine ⟨fun h2 => ?_, h⟩; rw [h, h2]; rfl) | (intro h; refine ⟨?_, h⟩; simp [inR] at h; omega) | (intro h; simp [inR] at h; omega) | assumption), ?_⟩
      refine hQ _ _ _ _ _ (RG.nil ?_)
      try simp only [x_bn, x_ln]
      refine ⟨⟨(h + 1, j), by simp only; omega⟩, ?_, by simp only; omega⟩
      refine Le.lit [] [] _ _ ?_ ?_ ?_ ?_
      · simp only [allL, lk_cons, lkE_cons, lkE_nil, WkSV, WkSV1, WkC, WkC0, TrL, rlook, frzEs, Nat.reduceEqDiff, ↓reduceIte, reduceCtorEq, and_true, ne_eq, not_false_eq_true]
        all_goals (try ((repeat' (first | exact trivial | rfl | exact rfl | (refine ⟨⟨_, _, rfl⟩, ?_⟩; (first | exact drows_brow _ | exact drows_nrow _ | exact drows_irow _ | exact drows_wrow _ | assumption | (simp [isDRows, brow, C.isD]; done) | (rw [← List.map_append]; first | exact drows_brow _ | exact drows_nrow _ | exact drows_irow _ | exact drows_wrow _))) | (simp; done) | refine ⟨?_, ?_⟩))))
      · simp only [allL, lkE_cons, lkE_nil, WkC, WkC0, WkEnt, TrL, rlook, frzEs, isDRows, Option.some.injEq, ↓reduceIte, reduceCtorEq, and_true, exists_eq_left', ne_eq]
        all_goals (try ((repeat' (first | (first | exact drows_brow _ | exact drows_nrow _ | exact drows_irow _ | exact drows_wrow _ | assumption | (simp [isDRows, brow, C.isD]; done) | (rw [← List.map_append]; first | exact drows_brow _ | exact drows_nrow _ | exact drows_irow _ | exact drows_wrow _)) | rfl | refine ⟨?_, ?_⟩ | (left; (first | exact drows_brow _ | exact drows_nrow _ | exact drows_irow _ | exact drows_wrow _ | assumption | (simp [isDRows, brow, C.isD]; done) | (rw [← List.map_append]; first | exact drows_brow _ | exact drows_nrow _ | exact drows_irow _ | exact drows_wrow _)))))))
      · simp [rlook]
      · first | (simp; done) | (intro k hk; simp [rlook]; omega)
    have hkh : k ≤ h := by
      simp at hf
      rcases Nat.lt_or_ge h k with g | g
      · have := h1 h hhl g; omega
      · exact g
    try simp only [x_seq, x_block, x_skip, x_ret, x_exit, x_tn, x_tr, x_tx, x_bn, x_br, x_bx, x_ln, x_lr, x_lx, Nat.reduceEqDiff, ↓reduceIte, if_true, if_false, reduceCtorEq]
    refine aw_reg 544 (RG.go fun Q hQ => ?_)
    simp only [RX, eff, ev_t, lk_cons, setS_cons, setS_nil, AOp.isCall, setD, setEs, presOf, AOp.needs, idsOf, AOp.rds, List.map_nil, List.nil_append, true_and, Bool.false_eq_true, Nat.reduceAdd, Nat.reduceEqDiff, ↓reduceIte]
    repeat refine ⟨by (first | omega | (simp; omega) | (simp; done) | exact ⟨by omega, by omega⟩ | exact ⟨by omega, by simp; omega⟩ | exact ⟨by simp; omega, by simp; omega⟩ | exact ⟨by simp, by simp; omega⟩ | (intro h; rw [h]; rfl) | (intro h; refine ⟨fun h2 => ?_, h⟩; rw [h, h2]; rfl) | (intro h; refine ⟨?_, h⟩; simp [inR] at h; omega) | (intro h; simp [inR] at h; omega) | assumption), ?_⟩
    refine hQ _ _ _ _ _ (RG.nil ?_)
    try simp only [x_bn, x_ln]
    refine ⟨⟨(i, h), by simp only; omega⟩, ?_, by simp only; omega⟩
    refine Le.lit [] [] _ _ ?_ ?_ ?_ ?_
    · simp only [allL, lk_cons, lkE_cons, lkE_nil, WkSV, WkSV1, WkC, WkC0, TrL, rlook, frzEs, Nat.reduceEqDiff, ↓reduceIte, reduceCtorEq, and_true, ne_eq, not_false_eq_true]
      all_goals (try ((repeat' (first | exact trivial | rfl | exact rfl | (refine ⟨⟨_, _, rfl⟩, ?_⟩; (first | exact drows_brow _ | exact drows_nrow _ | exact drows_irow _ | exact drows_wrow _ | assumption | (simp [isDRows, brow, C.isD]; done) | (rw [← List.map_append]; first | exact drows_brow _ | exact drows_nrow _ | exact drows_irow _ | exact drows_wrow _))) | (simp; done) | refine ⟨?_, ?_⟩))))
    · simp only [allL, lkE_cons, lkE_nil, WkC, WkC0, WkEnt, TrL, rlook, frzEs, isDRows, Option.some.injEq, ↓reduceIte, reduceCtorEq, and_true, exists_eq_left', ne_eq]
      all_goals (try ((repeat' (first | (first | exact drows_brow _ | exact drows_nrow _ | exact drows_irow _ | exact drows_wrow _ | assumption | (simp [isDRows, brow, C.isD]; done) | (rw [← List.map_append]; first | exact drows_brow _ | exact drows_nrow _ | exact drows_irow _ | exact drows_wrow _)) | rfl | refine ⟨?_, ?_⟩ | (left; (first | exact drows_brow _ | exact drows_nrow _ | exact drows_irow _ | exact drows_wrow _ | assumption | (simp [isDRows, brow, C.isD]; done) | (rw [← List.map_append]; first | exact drows_brow _ | exact drows_nrow _ | exact drows_irow _ | exact drows_wrow _)))))))
    · simp [rlook]
    · first | (simp; done) | (intro k hk; simp [rlook]; omega)
  have hij : i = k := by simp at hf; omega
  subst hij
  try simp only [x_seq, x_exit, x_tn, x_tx, x_bx, x_lx, ↓reduceIte]
  refine aw_reg 608 (RG.go fun Q hQ => ?_)
  simp only [RX, eff, ev_t, lk_cons, setS_cons, setS_nil, AOp.isCall, setD, setEs, presOf, AOp.needs, idsOf, AOp.rds, List.map_nil, List.nil_append, true_and, Bool.false_eq_true, Nat.reduceAdd, Nat.reduceEqDiff, ↓reduceIte]
  repeat refine ⟨by (first | omega | (simp; omega) | (simp; done) | exact ⟨by omega, by omega⟩ | exact ⟨by omega, by simp; omega⟩ | exact ⟨by simp; omega, by simp; omega⟩ | exact ⟨by simp, by simp; omega⟩ | (intro h; rw [h]; rfl) | (intro h; refine ⟨fun h2 => ?_, h⟩; rw [h, h2]; rfl) | (intro h; refine ⟨?_, h⟩; simp [inR] at h; omega) | (intro h; simp [inR] at h; omega) | assumption), ?_⟩
  refine hQ _ _ _ _ _ (RG.nil ?_)
  try simp only [x_ret, x_tn]
  refine Fin.objs [] [] (.inr rfl) rfl (by first | exact trivial | exact ⟨trivial, trivial⟩ | exact ⟨trivial, trivial, trivial⟩) ?_ ?_ (by simp [objL, rlook]) (by first | (simp [objL, rlook]; done) | (intro k hk; simp [objL, rlook]; omega))
  · simp only [mkSt_sl, lk_cons, lkE_cons, lkE_nil, WkSV, WkSV1, WkC, WkC0, rlook, frzEs, objL, Nat.zero_add, Nat.reduceEqDiff, ↓reduceIte, ne_eq]
    all_goals (try ((repeat' (first | exact trivial | rfl | exact rfl | (refine ⟨⟨_, _, rfl⟩, ?_⟩; (first | exact drows_brow _ | exact drows_nrow _ | exact drows_irow _ | exact drows_wrow _ | assumption | (simp [isDRows, brow, C.isD]; done) | (rw [← List.map_append]; first | exact drows_brow _ | exact drows_nrow _ | exact drows_irow _ | exact drows_wrow _))) | (simp; done) | refine ⟨?_, ?_⟩))))
  · simp only [allL, lkE_cons, lkE_nil, WkC, WkC0, WkEnt, TrL, rlook, frzEs, objL, isDRows, Option.some.injEq, Nat.zero_add, ↓reduceIte, reduceCtorEq, and_true, exists_eq_left', ne_eq]
    all_goals (try ((repeat' (first | (first | exact drows_brow _ | exact drows_nrow _ | exact drows_irow _ | exact drows_wrow _ | assumption | (simp [isDRows, brow, C.isD]; done) | (rw [← List.map_append]; first | exact drows_brow _ | exact drows_nrow _ | exact drows_irow _ | exact drows_wrow _)) | rfl | refine ⟨?_, ?_⟩ | (left; (first | exact drows_brow _ | exact drows_nrow _ | exact drows_irow _ | exact drows_wrow _ | assumption | (simp [isDRows, brow, C.isD]; done) | (rw [← List.map_append]; first | exact drows_brow _ | exact drows_nrow _ | exact drows_irow _ | exact drows_wrow _)))))))

def behN (t : Int) (l : List IT) : Nat := (l.takeWhile fun x => decide (x.b ≤ t)).length
def rise : List IT → Prop
  | [] => True
  | x :: l => (∀ y ∈ l, x.b ≤ y.b) ∧ rise l

theorem behN_le (t : Int) (l : List IT) : behN t l ≤ l.length := (List.takeWhile_prefix _).length_le
theorem behN_lt (t : Int) : ∀ (l : List IT) (i : Nat) (hi : i < l.length), i < behN t l → l[i].b ≤ t
  | x :: l, i, hi, h => by
    unfold behN at h
    rw [List.takeWhile_cons] at h
    split at h
    · rename_i hx
      cases i with
      | zero => simpa using hx
      | succ i => exact behN_lt t l i (by simpa using hi) (by simpa [behN] using h)
    · simp at h
theorem rise_le : ∀ (l : List IT), rise l → ∀ i j (hi : i < l.length) (hj : j < l.length), i ≤ j → l[i].b ≤ l[j].b
  | x :: l, h, 0, 0, _, _, _ => by simp
  | x :: l, h, 0, j + 1, _, hj, _ => h.1 _ (List.getElem_mem (by simpa using hj))
  | x :: l, h, i + 1, j + 1, hi, hj, hij => rise_le l h.2 i j (by simpa using hi) (by simpa using hj) (by omega)
theorem behN_ge (t : Int) (l : List IT) (hr : rise l) (i : Nat) (hi : i < l.length) (h : behN t l ≤ i) : t < l[i].b := by
  have hb : behN t l < l.length := by omega
  have h0 : t < l[behN t l].b := by
    have key : ∀ (l : List IT) (hb : behN t l < l.length), t < l[behN t l].b := by
      intro l
      induction l with
      | nil => intro hb; simp at hb
      | cons x l ih =>
        intro hb
        by_cases hx : x.b ≤ t
        · have e : behN t (x :: l) = behN t l + 1 := by simp [behN, hx]
          have := ih (by rw [e] at hb; simpa using hb)
          simp only [e, List.getElem_cons_succ]; exact this
        · have e : behN t (x :: l) = 0 := by simp [behN, hx]
          simp only [e, List.getElem_cons_zero]; omega
    exact key l hb
  have := rise_le l hr (behN t l) i hb hi h
  omega

theorem hist_behind_con (l : List IT) (t : Int) (hl : l.length ≤ 1000000) (hr : rise l) : Con Try.prog 78 [.c (.sl (l.map irow)), I t] [] (I (behN t l)) [] := by
  have cS := sort_Search_con l t (behN t l) hl (behN_le t l) (behN_lt t l) (behN_ge t l hr)
  refine C_hist_behind (Nat.le_of_ble_eq_true rfl) (Nat.le_of_ble_eq_true rfl) ?_
  simp only [A_hist_behind, argL, objL, List.length_nil, Nat.zero_add, x_seq]
  refine aw_reg 16 (RG.go fun Q hQ => ?_)
  simp only [RX, eff, ev_t, ev_k, lk_cons, lkE_cons, lkE_nil, setS_cons, setS_nil, setE_cons, setE_nil, AOp.isCall, setD, setEs, presOf, AOp.needs, SV.pre, SV.cells, idsOf, AOp.rds, AOp.ops, SV.ids, C.ids0, List.map_cons, List.map_nil, List.nil_append, true_and, and_self, Bool.false_eq_true, reduceCtorEq, Nat.reduceAdd, Nat.reduceEqDiff, ↓reduceIte, List.append_nil]
  repeat refine ⟨by (first | omega | (simp; omega) | (simp; done) | exact ⟨by omega, by omega⟩ | exact ⟨by omega, by simp; omega⟩ | exact ⟨by simp; omega, by simp; omega⟩ | exact ⟨by simp, by simp; omega⟩ | (intro h; rw [h]; rfl) | (intro h; refine ⟨fun h2 => ?_, h⟩; rw [h, h2]; rfl) | (intro h; refine ⟨?_, h⟩; simp [inR] at h; omega) | (intro h; simp [inR] at h; omega) | assumption), ?_⟩
  refine hQ _ _ _ _ _ (RG.nil ?_)
  try simp only [x_seq, x_tn]
  refine aw_reg 96 (RG.go fun Q hQ => ?_)
  simp only [RX, eff, ev_t, lk_cons, lkE_cons, setS_cons, setS_nil, AOp.isCall, setD, setEs, presOf, AOp.needs, SV.one?, SV.pre, idsOf, AOp.rds, AOp.ops, SV.ids, C.ids0, rowsOf, List.getElem?_cons_zero, Option.map_some, List.map_nil, List.nil_append, List.cons_append, true_and, and_self, Bool.false_eq_true, reduceCtorEq, Nat.reduceAdd, Nat.reduceEqDiff, ↓reduceIte, Option.bind_some, List.append_nil, List.length_map]
  repeat refine ⟨by (first | omega | (simp; omega) | (simp; done) | exact ⟨by omega, by omega⟩ | exact ⟨by omega, by simp; omega⟩ | exact ⟨by simp; omega, by simp; omega⟩ | exact ⟨by simp, by simp; omega⟩ | (intro h; rw [h]; rfl) | (intro h; refine ⟨fun h2 => ?_, h⟩; rw [h, h2]; rfl) | (intro h; refine ⟨?_, h⟩; simp [inR] at h; omega) | (intro h; simp [inR] at h; omega) | assumption), ?_⟩
  refine hQ _ _ _ _ _ ?_
  refine RG.callo [16, 32] [] (cS) (.mk (tr_cons tr_v (tr_cons ⟨rfl, ⟨rfl, rfl⟩, ⟨rfl, rfl⟩, trivial⟩ tr_nil)) (by first | trivial | (simp only [setEs, TrL, TrC, TrC0, TrEnt, lkE_cons, Nat.reduceEqDiff, ↓reduceIte, and_self, exists_eq_left', Option.some.injEq, isDRows]; done) | (simp only [Int.cast_ofNat_Int, setEs, setE_cons, setE_nil, TrL, TrSV, TrC, TrC0, TrEnt, Views, Frozen, lk_cons, lk_nil, lkE_cons, lkE_nil, ev_t, ev_k, List.map_cons, List.map_nil, List.getElem?_cons_zero, List.getElem?_cons_succ, List.getElem?_nil, List.mem_cons, List.not_mem_nil, or_false, false_or, or_true, true_or, Nat.reduceEqDiff, Nat.reduceAdd, ↓reduceIte, if_true, if_false, reduceCtorEq, true_and, and_true, and_self, exists_eq_left, exists_eq_left', ne_eq, not_false_eq_true, Option.some.injEq, Ent.arr.injEq, Ent.box.injEq, List.length_cons, List.length_nil, isDRows, List.append_nil, List.nil_append]; trivial) | (simp only [Int.cast_ofNat_Int, setEs, setE_cons, setE_nil, TrL, TrSV, TrC, TrC0, TrEnt, Views, Frozen, lk_cons, lk_nil, lkE_cons, lkE_nil, ev_t, ev_k, List.map_cons, List.map_nil, List.getElem?_cons_zero, List.getElem?_cons_succ, List.getElem?_nil, List.mem_cons, List.not_mem_nil, or_false, false_or, or_true, true_or, Nat.reduceEqDiff, Nat.reduceAdd, ↓reduceIte, if_true, if_false, reduceCtorEq, true_and, and_true, and_self, exists_eq_left, exists_eq_left', ne_eq, not_false_eq_true, Option.some.injEq, Ent.arr.injEq, Ent.box.injEq, List.length_cons, List.length_nil, isDRows, List.append_nil, List.nil_append]; repeat' (first | (first | exact drows_brow _ | exact drows_nrow _ | exact drows_irow _ | exact drows_wrow _ | assumption | (simp [isDRows, brow, C.isD]; done) | (rw [← List.map_append]; first | exact drows_brow _ | exact drows_nrow _ | exact drows_irow _ | exact drows_wrow _)) | refine ⟨?_, ?_⟩))) (by simp) (by simp) (trivial) (by first | (simp []; done) | (intro j hj; simp at hj; simp only [setEs, setE_cons, setE_nil, lkE_cons, lkE_nil]; repeat rw [if_neg (by omega)])) (by first | (simp [Ent.pure]; done) | (simp [Ent.pure]; repeat' (first | (first | exact drows_brow _ | exact drows_nrow _ | exact drows_irow _ | exact drows_wrow _ | assumption | (simp [isDRows, brow, C.isD]; done) | (rw [← List.map_append]; first | exact drows_brow _ | exact drows_nrow _ | exact drows_irow _ | exact drows_wrow _)) | refine ⟨?_, ?_⟩))) (by simp) (by simp)) ?_
  refine RG.go fun Q hQ => ?_
  simp only [RX, eff, ev_t, lk_cons, lkE_cons, lkE_nil, setS_cons, setS_nil, setE_cons, AOp.isCall, setD, setEs, presOf, AOp.needs, idsOf, AOp.rds, List.drop_succ_cons, List.drop_zero, List.length_cons, List.length_nil, List.map_cons, List.map_nil, List.nil_append, true_and, Bool.false_eq_true, reduceCtorEq, Nat.reduceAdd, Nat.reduceEqDiff, ↓reduceIte, Nat.zero_add, renSV, renSV1, renC, renC0, renEnt, backUps, List.zip_nil_right, List.zip_cons_cons, List.zipIdx_nil, List.filterMap_nil, List.append_nil, List.range_zero, Nat.sub_self]
  repeat refine ⟨by (first | omega | (simp; omega) | (simp; done) | exact ⟨by omega, by omega⟩ | exact ⟨by omega, by simp; omega⟩ | exact ⟨by simp; omega, by simp; omega⟩ | exact ⟨by simp, by simp; omega⟩ | (intro h; rw [h]; rfl) | (intro h; refine ⟨fun h2 => ?_, h⟩; rw [h, h2]; rfl) | (intro h; refine ⟨?_, h⟩; simp [inR] at h; omega) | (intro h; simp [inR] at h; omega) | assumption), ?_⟩
  refine hQ _ _ _ _ _ (RG.nil ?_)
  try simp only [x_ret, x_tn]
  exact Fin.scalar (.inr rfl) rfl trivial rfl trivial

end Go.Abs

namespace Go.Abs
open Go Go.Proofs
set_option maxRecDepth 100000
set_option linter.unusedSimpArgs false
set_option maxHeartbeats 2000000

theorem cloneB_con (d : List Nat) (hb : d.length ≤ 1000000) : Con Try.prog 77 [.c (.sl (d.map brow))] [] (.c (.sl (d.map brow))) [] :=
  (slices_Clone_byte_byte_con (d.map brow) (drows_brow d) (brow_len d) (by simp; omega)).rows (drows_brow d)
theorem cloneI_con (l : List Int) (hb : l.length ≤ 1000000) : Con Try.prog 40 [.c (.sl (l.map nrow))] [] (.c (.sl (l.map nrow))) [] :=
  (slices_Clone_int_int_con (l.map nrow) (drows_nrow l) (nrow_len l) (by simp; omega)).rows (drows_nrow l)

theorem hist_At_con (l : List IT) (t : Int) (hl : l.length ≤ 1000000) (hr : rise l) (hd : ∀ x ∈ l, x.d.length ≤ 1000000) :
    Con Try.prog 58 [.c (.sl (l.map irow)), I t] [] (.tup [.c (.sl (((l.take (behN t l)).getLast?.elim [] (·.d)).map brow)), B (decide (0 < behN t l))]) [] := by
  have hk := behN_le t l
  have cB := hist_behind_con l t hl hr
  generalize behN t l = k at *
  refine C_hist_At (Nat.le_of_ble_eq_true rfl) (Nat.le_of_ble_eq_true rfl) ?_
  simp only [A_hist_At, argL, objL, List.length_nil, Nat.zero_add, x_seq]
  refine aw_reg 16 (RG.go fun Q hQ => ?_)
  simp only [RX, eff, ev_k, setS_cons, setS_nil, AOp.isCall, setD, setEs, presOf, AOp.needs, idsOf, AOp.rds, List.map_nil, List.nil_append, true_and, Bool.false_eq_true, reduceCtorEq, Nat.reduceAdd, Nat.reduceEqDiff, ↓reduceIte]
  repeat refine ⟨by (first | omega | (simp; omega) | (simp; done) | exact ⟨by omega, by omega⟩ | exact ⟨by omega, by simp; omega⟩ | exact ⟨by simp; omega, by simp; omega⟩ | exact ⟨by simp, by simp; omega⟩ | (intro h; rw [h]; rfl) | (intro h; refine ⟨fun h2 => ?_, h⟩; rw [h, h2]; rfl) | (intro h; refine ⟨?_, h⟩; simp [inR] at h; omega) | (intro h; simp [inR] at h; omega) | assumption), ?_⟩
  refine hQ _ _ _ _ _ (RG.nil ?_)
  try simp only [x_seq, x_tn]
  refine aw_reg 80 (RG.go fun Q hQ => ?_)
  simp only [RX, eff, ev_t, lk_cons, setS_cons, setS_nil, AOp.isCall, setD, setEs, presOf, AOp.needs, idsOf, AOp.rds, List.map_nil, List.nil_append, true_and, Bool.false_eq_true, reduceCtorEq, Nat.reduceAdd, Nat.reduceEqDiff, ↓reduceIte]
  repeat refine ⟨by (first | omega | (simp; omega) | (simp; done) | exact ⟨by omega, by omega⟩ | exact ⟨by omega, by simp; omega⟩ | exact ⟨by simp; omega, by simp; omega⟩ | exact ⟨by simp, by simp; omega⟩ | (intro h; rw [h]; rfl) | (intro h; refine ⟨fun h2 => ?_, h⟩; rw [h, h2]; rfl) | (intro h; refine ⟨?_, h⟩; simp [inR] at h; omega) | (intro h; simp [inR] at h; omega) | assumption), ?_⟩
  refine hQ _ _ _ _ _ ?_
  refine RG.call [] (cB) (by (repeat' (first | exact tr_nil | refine tr_cons ?_ ?_ | exact tr_v | exact tr_sl | exact tr_nils | exact tr_agg (by repeat' (first | exact trivial | rfl | exact rfl | refine ⟨?_, ?_⟩)) | exact tr_opt (by simpa using hg) tr_v | exact tr_opt (by simpa using hg) tr_sl | exact tr_opt (by simpa using hg) (tr_agg (by repeat' (first | exact trivial | rfl | exact rfl | refine ⟨?_, ?_⟩)))))) trivial (by (first | exact .inl trivial | exact .inr ⟨rfl, trivial⟩)) ?_
  refine RG.go fun Q hQ => ?_
  simp only [RX, eff, ev_t, lk_cons, setS_cons, setS_nil, AOp.isCall, setD, setEs, presOf, AOp.needs, idsOf, AOp.rds, List.map_nil, List.nil_append, true_and, Bool.false_eq_true, reduceCtorEq, Nat.reduceAdd, Nat.reduceEqDiff, ↓reduceIte]
  repeat refine ⟨by (first | omega | (simp; omega) | (simp; done) | exact ⟨by omega, by omega⟩ | exact ⟨by omega, by simp; omega⟩ | exact ⟨by simp; omega, by simp; omega⟩ | exact ⟨by simp, by simp; omega⟩ | (intro h; rw [h]; rfl) | (intro h; refine ⟨fun h2 => ?_, h⟩; rw [h, h2]; rfl) | (intro h; refine ⟨?_, h⟩; simp [inR] at h; omega) | (intro h; simp [inR] at h; omega) | assumption), ?_⟩
  refine hQ _ _ _ _ _ (RG.nil ?_)
  try simp only [x_seq, x_tn]
  refine aw_reg 176 (RG.go fun Q hQ => ?_)
  simp only [RX, eff, ev_t, ev_k, lk_cons, setS_cons, setS_nil, AOp.isCall, setD, setEs, presOf, AOp.needs, SV.one?, SV.pre, binV, idsOf, AOp.rds, AOp.ops, SV.ids, C.ids0, Option.map_some, List.map_nil, List.nil_append, true_and, and_self, Bool.false_eq_true, reduceCtorEq, Nat.reduceAdd, Nat.reduceEqDiff, ↓reduceIte, List.append_nil]
  repeat refine ⟨by (first | omega | (simp; omega) | (simp; done) | exact ⟨by omega, by omega⟩ | exact ⟨by omega, by simp; omega⟩ | exact ⟨by simp; omega, by simp; omega⟩ | exact ⟨by simp, by simp; omega⟩ | (intro h; rw [h]; rfl) | (intro h; refine ⟨fun h2 => ?_, h⟩; rw [h, h2]; rfl) | (intro h; refine ⟨?_, h⟩; simp [inR] at h; omega) | (intro h; simp [inR] at h; omega) | assumption), ?_⟩
  refine hQ _ _ _ _ _ (RG.nil ?_)
  try simp only [x_tn]
  refine aw_cond _ rfl trivial (fun ht => ?_) (fun hf => ?_)
  · have hk0 : k = 0 := by simp at ht; omega
    subst hk0
    try simp only [x_seq]
    refine aw_reg 240 (RG.go fun Q hQ => ?_)
    simp only [RX, eff, ev_k, setS_cons, AOp.isCall, setD, setEs, presOf, AOp.needs, idsOf, AOp.rds, List.map_nil, List.nil_append, true_and, Bool.false_eq_true, reduceCtorEq, Nat.reduceAdd, Nat.reduceEqDiff, ↓reduceIte, BEq.rfl, Int.cast_ofNat_Int]
    repeat refine ⟨by (first | omega | (simp; omega) | (simp; done) | exact ⟨by omega, by omega⟩ | exact ⟨by omega, by simp; omega⟩ | exact ⟨by simp; omega, by simp; omega⟩ | exact ⟨by simp, by simp; omega⟩ | (intro h; rw [h]; rfl) | (intro h; refine ⟨fun h2 => ?_, h⟩; rw [h, h2]; rfl) | (intro h; refine ⟨?_, h⟩; simp [inR] at h; omega) | (intro h; simp [inR] at h; omega) | assumption), ?_⟩
    refine hQ _ _ _ _ _ (RG.nil ?_)
    try simp only [x_ret, x_tn, x_tr]
    refine Fin.data [] (.inr rfl) rfl (by (first | exact trivial | exact ⟨trivial, trivial⟩ | exact ⟨trivial, trivial, trivial⟩)) ?_
    simp only [mkSt_sl, lk_cons, WkSV, WkSV1, WkC, WkC0, TrL, Nat.reduceEqDiff, ↓reduceIte, reduceCtorEq, and_true]
    all_goals (simp)
  have hk0 : 0 < k := by simp at hf; omega
  have hk1 : k - 1 < l.length := by omega
  have hw : IntKind.i64.wrap ((k : Int) - 1) = ((k - 1 : Nat) : Int) := by rw [w64 _ (by omega) (by omega)]; omega
  have hr1 : ((l.map irow)[(((k - 1 : Nat) : Int)).toNat]?).getD [] = [.v (.int .i64 l[k - 1].b), .sl (l[k - 1].d.map brow)] := map_get irow hk1 []
  have hdl := hd _ (List.getElem_mem hk1)
  have hlast : (l.take k).getLast?.elim [] (·.d) = l[k - 1].d := by
    obtain ⟨j, rfl⟩ : ∃ j, k = j + 1 := ⟨k - 1, by omega⟩
    simp only [Nat.add_sub_cancel]
    rw [take_one l j (by omega), List.getLast?_concat]; rfl
  rw [hlast, decide_eq_true hk0]
  try simp only [x_seq, x_skip, x_tn]
  refine aw_reg 304 (RG.go fun Q hQ => ?_)
  simp only [RX, eff, ev_t, ev_k, lk_cons, setS_cons, setS_nil, AOp.isCall, setD, setEs, presOf, AOp.needs, SV.one?, SV.pre, binV, idsOf, AOp.rds, AOp.ops, SV.ids, C.ids0, Option.getD_some, List.drop_succ_cons, List.drop_zero, List.length_cons, List.length_nil, List.getElem?_cons_zero, Option.map_some, List.map_nil, List.nil_append, and_true, true_and, and_self, Bool.false_eq_true, reduceCtorEq, Nat.reduceAdd, Nat.reduceEqDiff, Nat.reduceLT, ↓reduceIte, Nat.zero_add, List.append_nil, C_default, hw, hr1]
  repeat refine ⟨by (first | omega | (simp; omega) | (simp; done) | exact ⟨by omega, by omega⟩ | exact ⟨by omega, by simp; omega⟩ | exact ⟨by simp; omega, by simp; omega⟩ | exact ⟨by simp, by simp; omega⟩ | (intro h; rw [h]; rfl) | (intro h; refine ⟨fun h2 => ?_, h⟩; rw [h, h2]; rfl) | (intro h; refine ⟨?_, h⟩; simp [inR] at h; omega) | (intro h; simp [inR] at h; omega) | assumption), ?_⟩
  refine hQ _ _ _ _ _ ?_
  refine RG.call [] (cloneB_con l[k - 1].d hdl) (by (repeat' (first | exact tr_nil | refine tr_cons ?_ ?_ | exact tr_v | exact tr_sl | exact tr_nils | exact tr_agg (by repeat' (first | exact trivial | rfl | exact rfl | refine ⟨?_, ?_⟩)) | exact tr_opt (by simpa using hg) tr_v | exact tr_opt (by simpa using hg) tr_sl | exact tr_opt (by simpa using hg) (tr_agg (by repeat' (first | exact trivial | rfl | exact rfl | refine ⟨?_, ?_⟩)))))) trivial (by (first | exact .inl trivial | exact .inr ⟨rfl, trivial⟩)) ?_
  refine RG.go fun Q hQ => ?_
  simp only [RX, eff, ev_t, ev_k, lk_cons, setS_cons, setS_nil, AOp.isCall, setD, setEs, presOf, AOp.needs, idsOf, AOp.rds, List.map_nil, List.nil_append, true_and, Bool.false_eq_true, reduceCtorEq, Nat.reduceAdd, Nat.reduceEqDiff, ↓reduceIte]
  repeat refine ⟨by (first | omega | (simp; omega) | (simp; done) | exact ⟨by omega, by omega⟩ | exact ⟨by omega, by simp; omega⟩ | exact ⟨by simp; omega, by simp; omega⟩ | exact ⟨by simp, by simp; omega⟩ | (intro h; rw [h]; rfl) | (intro h; refine ⟨fun h2 => ?_, h⟩; rw [h, h2]; rfl) | (intro h; refine ⟨?_, h⟩; simp [inR] at h; omega) | (intro h; simp [inR] at h; omega) | assumption), ?_⟩
  refine hQ _ _ _ _ _ (RG.nil ?_)
  try simp only [x_ret, x_tn]
  refine Fin.data [] (.inr rfl) rfl (by (first | exact trivial | exact ⟨trivial, trivial⟩ | exact ⟨trivial, trivial, trivial⟩)) ?_
  simp only [mkSt_sl, lk_cons, WkSV, WkSV1, WkC, WkC0, TrL, Nat.reduceEqDiff, ↓reduceIte, reduceCtorEq, and_true]
  all_goals (simp)

theorem set_same {α β : Type} (f : α → β) {l : List α} {i : Nat} (hi : i < l.length) : (l.map f).set i (f l[i]) = l.map f := by
  rw [← List.map_set, List.set_getElem_self]

theorem volume_items_con (l : List IT) (hl : l.length ≤ 1000000) (hd : ∀ x ∈ l, x.d.length ≤ 1000000) : Con Try.prog 55 [.c (.sl (l.map irow))] [] (.c (.osl 0)) [.arr 76 2 (l.map irow) false] := by
  refine C_volume_items (Nat.le_of_ble_eq_true rfl) (Nat.le_of_ble_eq_true rfl) ?_
  simp only [A_volume_items, argL, objL, List.length_nil, x_seq]
  refine aw_reg 16 (RG.go fun Q hQ => ?_)
  simp only [RX, eff, ev_k, setS_cons, setS_nil, AOp.isCall, setD, setEs, presOf, AOp.needs, idsOf, AOp.rds, List.map_nil, List.nil_append, true_and, Bool.false_eq_true, reduceCtorEq, Nat.reduceAdd, ↓reduceIte]
  repeat refine ⟨by (first | omega | (simp; omega) | (simp; done) | exact ⟨by omega, by omega⟩ | exact ⟨by omega, by simp; omega⟩ | exact ⟨by simp; omega, by simp; omega⟩ | exact ⟨by simp, by simp; omega⟩ | (intro h; rw [h]; rfl) | (intro h; refine ⟨fun h2 => ?_, h⟩; rw [h, h2]; rfl) | (intro h; refine ⟨?_, h⟩; simp [inR] at h; omega) | (intro h; simp [inR] at h; omega) | assumption), ?_⟩
  refine hQ _ _ _ _ _ (RG.nil ?_)
  try simp only [x_seq, x_tn]
  refine aw_reg 64 (RG.go fun Q hQ => ?_)
  simp only [RX, eff, ev_t, lk_cons, setS_cons, setS_nil, AOp.isCall, setD, setEs, presOf, AOp.needs, idsOf, AOp.rds, List.map_nil, List.nil_append, true_and, Bool.false_eq_true, reduceCtorEq, Nat.reduceAdd, Nat.reduceEqDiff, ↓reduceIte]
  repeat refine ⟨by (first | omega | (simp; omega) | (simp; done) | exact ⟨by omega, by omega⟩ | exact ⟨by omega, by simp; omega⟩ | exact ⟨by simp; omega, by simp; omega⟩ | exact ⟨by simp, by simp; omega⟩ | (intro h; rw [h]; rfl) | (intro h; refine ⟨fun h2 => ?_, h⟩; rw [h, h2]; rfl) | (intro h; refine ⟨?_, h⟩; simp [inR] at h; omega) | (intro h; simp [inR] at h; omega) | assumption), ?_⟩
  refine hQ _ _ _ _ _ ?_
  refine RG.callo [] [] (slices_Clone_api_Item_api_Item_con (l.map irow) (drows_irow l) (irow_len l) (by simp; omega)) (.mk (by (repeat' (first | exact tr_nil | refine tr_cons ?_ ?_ | exact tr_v | exact tr_bp rfl | exact tr_osl rfl | exact tr_sl | exact tr_nils | exact tr_agg (by repeat' (first | exact trivial | rfl | exact rfl | refine ⟨?_, ?_⟩)) | exact tr_opt (by simpa using hg) tr_v | exact tr_opt (by simpa using hg) tr_sl | exact tr_opt (by simpa using hg) (tr_agg (by repeat' (first | exact trivial | rfl | exact rfl | refine ⟨?_, ?_⟩)))))) (by first | trivial | (simp only [Int.cast_ofNat_Int, setEs, setE_cons, setE_nil, TrL, TrSV, TrC, TrC0, TrEnt, Views, Frozen, lk_cons, lk_nil, lkE_cons, lkE_nil, ev_t, ev_k, List.map_cons, List.map_nil, List.getElem?_cons_zero, List.getElem?_cons_succ, List.getElem?_nil, List.mem_cons, List.not_mem_nil, or_false, false_or, or_true, true_or, Nat.reduceEqDiff, Nat.reduceAdd, ↓reduceIte, if_true, if_false, reduceCtorEq, true_and, and_true, and_self, exists_eq_left, exists_eq_left', ne_eq, not_false_eq_true, Option.some.injEq, Ent.arr.injEq, Ent.box.injEq, List.length_cons, List.length_nil, isDRows, List.append_nil, List.nil_append]; done) | (simp only [Int.cast_ofNat_Int, setEs, setE_cons, setE_nil, TrL, TrSV, TrC, TrC0, TrEnt, Views, Frozen, lk_cons, lk_nil, lkE_cons, lkE_nil, ev_t, ev_k, List.map_cons, List.map_nil, List.getElem?_cons_zero, List.getElem?_cons_succ, List.getElem?_nil, List.mem_cons, List.not_mem_nil, or_false, false_or, or_true, true_or, Nat.reduceEqDiff, Nat.reduceAdd, ↓reduceIte, if_true, if_false, reduceCtorEq, true_and, and_true, and_self, exists_eq_left, exists_eq_left', ne_eq, not_false_eq_true, Option.some.injEq, Ent.arr.injEq, Ent.box.injEq, List.length_cons, List.length_nil, isDRows, List.append_nil, List.nil_append]; trivial) | (simp only [Int.cast_ofNat_Int, setEs, setE_cons, setE_nil, TrL, TrSV, TrC, TrC0, TrEnt, Views, Frozen, lk_cons, lk_nil, lkE_cons, lkE_nil, ev_t, ev_k, List.map_cons, List.map_nil, List.getElem?_cons_zero, List.getElem?_cons_succ, List.getElem?_nil, List.mem_cons, List.not_mem_nil, or_false, false_or, or_true, true_or, Nat.reduceEqDiff, Nat.reduceAdd, ↓reduceIte, if_true, if_false, reduceCtorEq, true_and, and_true, and_self, exists_eq_left, exists_eq_left', ne_eq, not_false_eq_true, Option.some.injEq, Ent.arr.injEq, Ent.box.injEq, List.length_cons, List.length_nil, isDRows, List.append_nil, List.nil_append]; repeat' (first | (first | exact drows_brow _ | exact drows_nrow _ | exact drows_irow _ | exact drows_wrow _ | assumption | (simp [isDRows, brow, C.isD]; done) | (rw [← List.map_append]; first | exact drows_brow _ | exact drows_nrow _ | exact drows_irow _ | exact drows_wrow _)) | refine ⟨?_, ?_⟩))) (by simp) (by simp) (trivial) (by first | (simp [lkE_nil]; done) | (intro j hj; simp at hj; simp only [setEs, setE_cons, setE_nil, lkE_cons, lkE_nil]; repeat rw [if_neg (by omega)])) (by first | (simp [Ent.pure]; done) | (simp [Ent.pure]; repeat' (first | (first | exact drows_brow _ | exact drows_nrow _ | exact drows_irow _ | exact drows_wrow _ | assumption | (simp [isDRows, brow, C.isD]; done) | (rw [← List.map_append]; first | exact drows_brow _ | exact drows_nrow _ | exact drows_irow _ | exact drows_wrow _)) | refine ⟨?_, ?_⟩))) (by simp) (by simp)) ?_
  refine RG.go fun Q hQ => ?_
  simp only [RX, eff, ev_t, lk_cons, lkE_nil, setS_cons, setS_nil, setE_nil, AOp.isCall, setD, setEs, presOf, AOp.needs, idsOf, AOp.rds, List.drop_zero, List.length_cons, List.length_nil, List.map_cons, List.map_nil, List.nil_append, true_and, Bool.false_eq_true, reduceCtorEq, Nat.reduceAdd, Nat.reduceEqDiff, ↓reduceIte, Nat.zero_add, renSV, renSV1, renC, renC0, rn, renEnt, backUps, List.zip_nil_left, List.zipIdx_cons, List.zipIdx_nil, List.filterMap_nil, List.append_nil, List.getElem?_nil, Nat.sub_self, Nat.sub_zero, Nat.add_zero]
  repeat refine ⟨by (first | omega | (simp; omega) | (simp; done) | exact ⟨by omega, by omega⟩ | exact ⟨by omega, by simp; omega⟩ | exact ⟨by simp; omega, by simp; omega⟩ | exact ⟨by simp, by simp; omega⟩ | (intro h; rw [h]; rfl) | (intro h; refine ⟨fun h2 => ?_, h⟩; rw [h, h2]; rfl) | (intro h; refine ⟨?_, h⟩; simp [inR] at h; omega) | (intro h; simp [inR] at h; omega) | assumption), ?_⟩
  refine hQ _ _ _ _ _ (RG.nil ?_)
  try simp only [x_seq, x_tn]
  refine aw_reg 144 (RG.go fun Q hQ => ?_)
  simp only [RX, eff, ev_t, ev_k, lk_cons, lkE_cons, setS_cons, setS_nil, AOp.isCall, setD, setEs, presOf, AOp.needs, SV.one?, SV.pre, idsOf, AOp.rds, AOp.ops, SV.ids, C.ids0, rowsOf, List.map_nil, List.nil_append, List.cons_append, true_and, and_self, Bool.false_eq_true, reduceCtorEq, Nat.reduceAdd, Nat.reduceEqDiff, ↓reduceIte, Option.bind_some, List.append_nil]
  repeat refine ⟨by (first | omega | (simp; omega) | (simp; done) | exact ⟨by omega, by omega⟩ | exact ⟨by omega, by simp; omega⟩ | exact ⟨by simp; omega, by simp; omega⟩ | exact ⟨by simp, by simp; omega⟩ | (intro h; rw [h]; rfl) | (intro h; refine ⟨fun h2 => ?_, h⟩; rw [h, h2]; rfl) | (intro h; refine ⟨?_, h⟩; simp [inR] at h; omega) | (intro h; simp [inR] at h; omega) | assumption), ?_⟩
  refine hQ _ _ _ _ _ (RG.nil ?_)
  try simp only [x_block, x_tn]
  refine aw_loopK (X := { i : Nat // i ≤ l.length }) [3, 8] (fun i => [(9, I i.1)]) [80] (fun i => []) (fun i => l.length - i.1) (⟨0, by omega⟩) ?_ ?_
  · skip
    simp only [keepS, keepE, Option.getD_some, lk_cons, lkE_cons, List.cons_append, List.nil_append, Nat.reduceEqDiff, ↓reduceIte, reduceCtorEq]
    refine Le.lit [] [] _ _ ?_ ?_ ?_ ?_
    · simp only [Int.cast_ofNat_Int, allL, lk_cons, lkE_cons, lkE_nil, WkSV, WkSV1, WkC, WkC0, rlook, frzEs, Nat.reduceEqDiff, ↓reduceIte, reduceCtorEq, and_true, ne_eq, not_false_eq_true]
      all_goals (try ((repeat' (first | exact trivial | rfl | exact rfl | (refine ⟨⟨_, _, rfl⟩, ?_⟩; (first | exact drows_brow _ | exact drows_nrow _ | exact drows_irow _ | exact drows_wrow _ | assumption | (simp [isDRows, brow, C.isD]; done) | (rw [← List.map_append]; first | exact drows_brow _ | exact drows_nrow _ | exact drows_irow _ | exact drows_wrow _))) | (simp; done) | refine ⟨?_, ?_⟩))))
    · simp only [allL, lkE_cons, lkE_nil, WkEnt, rlook, frzEs, isDRows, Option.some.injEq, ↓reduceIte, reduceCtorEq, true_and, and_true, exists_eq_left', ne_eq, true_or]
      all_goals (exact drows_irow _)
    · simp [rlook]
    · first | (simp; done) | (intro k hk; simp [rlook]; omega)
  rintro ⟨i, hi⟩
  simp only [keepS, keepE, Option.getD_some, lk_cons, lkE_cons, List.cons_append, List.nil_append, Nat.reduceEqDiff, ↓reduceIte, reduceCtorEq]
  try simp only [x_seq]
  refine aw_reg 224 (RG.go fun Q hQ => ?_)
  simp only [RX, eff, ev_t, lk_cons, setS_cons, setS_nil, AOp.isCall, setD, setEs, presOf, AOp.needs, SV.one?, SV.pre, binV, idsOf, AOp.rds, AOp.ops, SV.ids, C.ids0, Option.map_some, List.map_nil, List.nil_append, true_and, and_self, Bool.false_eq_true, Nat.reduceAdd, Nat.reduceEqDiff, ↓reduceIte, List.append_nil]
  repeat refine ⟨by (first | omega | (simp; omega) | (simp; done) | exact ⟨by omega, by omega⟩ | exact ⟨by omega, by simp; omega⟩ | exact ⟨by simp; omega, by simp; omega⟩ | exact ⟨by simp, by simp; omega⟩ | (intro h; rw [h]; rfl) | (intro h; refine ⟨fun h2 => ?_, h⟩; rw [h, h2]; rfl) | (intro h; refine ⟨?_, h⟩; simp [inR] at h; omega) | (intro h; simp [inR] at h; omega) | assumption), ?_⟩
  refine hQ _ _ _ _ _ (RG.nil ?_)
  try simp only [x_seq, x_tn]
  refine aw_cond _ rfl trivial (fun ht => ?_) (fun hf => ?_)
  · have hi' : i < l.length := by simpa using ht
    have hr : ((l.map irow)[((i : Int)).toNat]?).getD [] = [.v (.int .i64 l[i].b), .sl (l[i].d.map brow)] := map_get irow hi' []
    have hdl := hd _ (List.getElem_mem hi')
    have hset : (l.map irow).set ((i : Int)).toNat [.v (.int .i64 l[i].b), .sl (l[i].d.map brow)] = l.map irow := set_same irow hi'
    try simp only [x_seq, x_block, x_skip, x_tn]
    refine aw_reg 272 (RG.go fun Q hQ => ?_)
    simp only [RX, eff, ev_t, lk_cons, setS_cons, setS_nil, AOp.isCall, setD, setEs, presOf, AOp.needs, idsOf, AOp.rds, List.map_nil, List.nil_append, true_and, Bool.false_eq_true, Nat.reduceAdd, Nat.reduceEqDiff, ↓reduceIte]
    repeat refine ⟨by (first | omega | (simp; omega) | (simp; done) | exact ⟨by omega, by omega⟩ | exact ⟨by omega, by simp; omega⟩ | exact ⟨by simp; omega, by simp; omega⟩ | exact ⟨by simp, by simp; omega⟩ | (intro h; rw [h]; rfl) | (intro h; refine ⟨fun h2 => ?_, h⟩; rw [h, h2]; rfl) | (intro h; refine ⟨?_, h⟩; simp [inR] at h; omega) | (intro h; simp [inR] at h; omega) | assumption), ?_⟩
    refine hQ _ _ _ _ _ (RG.nil ?_)
    try simp only [x_tn]
    refine aw_reg 336 (RG.go fun Q hQ => ?_)
    simp only [RX, eff, ev_t, lk_cons, lkE_cons, setS_cons, setS_nil, AOp.isCall, setD, setEs, presOf, AOp.needs, SV.one?, SV.pre, idsOf, AOp.rds, AOp.ops, SV.ids, C.ids0, Option.getD_some, List.getElem?_cons_zero, List.getElem?_cons_succ, List.map_nil, List.nil_append, List.cons_append, and_true, true_and, and_self, Bool.false_eq_true, Nat.reduceAdd, Nat.reduceEqDiff, Nat.reduceLT, ↓reduceIte, Nat.zero_add, List.append_nil, C_default, hr]
    repeat refine ⟨by (first | omega | (simp; omega) | (simp; done) | exact ⟨by omega, by omega⟩ | exact ⟨by omega, by simp; omega⟩ | exact ⟨by simp; omega, by simp; omega⟩ | exact ⟨by simp, by simp; omega⟩ | (intro h; rw [h]; rfl) | (intro h; refine ⟨fun h2 => ?_, h⟩; rw [h, h2]; rfl) | (intro h; refine ⟨?_, h⟩; simp [inR] at h; omega) | (intro h; simp [inR] at h; omega) | assumption), ?_⟩
    refine hQ _ _ _ _ _ ?_
    refine RG.call [] (cloneB_con l[i].d hdl) (by (repeat' (first | exact tr_nil | refine tr_cons ?_ ?_ | exact tr_v | exact tr_sl | exact tr_nils | exact tr_agg (by repeat' (first | exact trivial | rfl | exact rfl | refine ⟨?_, ?_⟩)) | exact tr_opt (by simpa using hg) tr_v | exact tr_opt (by simpa using hg) tr_sl | exact tr_opt (by simpa using hg) (tr_agg (by repeat' (first | exact trivial | rfl | exact rfl | refine ⟨?_, ?_⟩)))))) trivial (by (first | exact .inl trivial | exact .inr ⟨rfl, trivial⟩)) ?_
    refine RG.go fun Q hQ => ?_
    simp only [RX, eff, ev_t, lk_cons, lkE_cons, setS_cons, setS_nil, setE_cons, AOp.isCall, setD, setEs, presOf, AOp.needs, SV.one?, SV.pre, SV.cells, idsOf, AOp.rds, AOp.ops, SV.ids, C.ids0, splice, List.length_cons, List.length_nil, List.map_cons, List.map_nil, List.nil_append, List.cons_append, and_true, true_and, and_self, Bool.false_eq_true, Nat.reduceAdd, Nat.reduceEqDiff, ↓reduceIte, Nat.zero_add, Nat.le_refl, List.append_nil]
    simp only [List.take_succ_cons, List.take_zero, List.drop_succ_cons, List.drop_zero, List.nil_append, List.cons_append, List.append_nil, hr, hset]
    repeat refine ⟨by (first | omega | (simp; omega) | (simp; done) | exact ⟨by omega, by omega⟩ | exact ⟨by omega, by simp; omega⟩ | exact ⟨by simp; omega, by simp; omega⟩ | exact ⟨by simp, by simp; omega⟩ | (intro h; rw [h]; rfl) | (intro h; refine ⟨fun h2 => ?_, h⟩; rw [h, h2]; rfl) | (intro h; refine ⟨?_, h⟩; simp [inR] at h; omega) | (intro h; simp [inR] at h; omega) | assumption), ?_⟩
    refine hQ _ _ _ _ _ (RG.nil ?_)
    try simp only [x_tn, x_bn]
    refine aw_reg 544 (RG.go fun Q hQ => ?_)
    simp only [RX, eff, ev_t, ev_k, lk_cons, setS_cons, setS_nil, AOp.isCall, setD, setEs, presOf, AOp.needs, SV.one?, SV.pre, binV, idsOf, AOp.rds, AOp.ops, SV.ids, C.ids0, Option.map_some, List.map_nil, List.nil_append, true_and, and_self, Bool.false_eq_true, Nat.reduceAdd, Nat.reduceEqDiff, ↓reduceIte, List.append_nil, wi i _ hi' (by omega)]
    repeat refine ⟨by (first | omega | (simp; omega) | (simp; done) | exact ⟨by omega, by omega⟩ | exact ⟨by omega, by simp; omega⟩ | exact ⟨by simp; omega, by simp; omega⟩ | exact ⟨by simp, by simp; omega⟩ | (intro h; rw [h]; rfl) | (intro h; refine ⟨fun h2 => ?_, h⟩; rw [h, h2]; rfl) | (intro h; refine ⟨?_, h⟩; simp [inR] at h; omega) | (intro h; simp [inR] at h; omega) | assumption), ?_⟩
    refine hQ _ _ _ _ _ (RG.nil ?_)
    try simp only [x_ln]
    refine ⟨⟨i + 1, hi'⟩, ?_, by simp only; omega⟩
    refine Le.lit [] [] _ _ ?_ ?_ ?_ ?_
    · simp only [allL, lk_cons, lkE_cons, lkE_nil, WkSV, WkSV1, WkC, WkC0, rlook, frzEs, Nat.reduceEqDiff, ↓reduceIte, reduceCtorEq, and_true, ne_eq, not_false_eq_true]
      all_goals (try ((repeat' (first | exact trivial | rfl | exact rfl | (refine ⟨⟨_, _, rfl⟩, ?_⟩; (first | exact drows_brow _ | exact drows_nrow _ | exact drows_irow _ | exact drows_wrow _ | assumption | (simp [isDRows, brow, C.isD]; done) | (rw [← List.map_append]; first | exact drows_brow _ | exact drows_nrow _ | exact drows_irow _ | exact drows_wrow _))) | (simp; done) | refine ⟨?_, ?_⟩))))
    · simp only [allL, lkE_cons, lkE_nil, WkEnt, rlook, frzEs, isDRows, Option.some.injEq, ↓reduceIte, reduceCtorEq, true_and, and_true, exists_eq_left', ne_eq, true_or]
      all_goals (exact drows_irow _)
    · simp [rlook]
    · first | (simp; done) | (intro k hk; simp [rlook]; omega)
  try simp only [x_seq, x_exit, x_tn, x_tx, x_bx, x_lx, ↓reduceIte]
  refine aw_reg 608 (RG.go fun Q hQ => ?_)
  simp only [RX, eff, ev_t, lk_cons, setS_cons, setS_nil, AOp.isCall, setD, setEs, presOf, AOp.needs, idsOf, AOp.rds, List.map_nil, List.nil_append, true_and, Bool.false_eq_true, Nat.reduceAdd, Nat.reduceEqDiff, ↓reduceIte]
  repeat refine ⟨by (first | omega | (simp; omega) | (simp; done) | exact ⟨by omega, by omega⟩ | exact ⟨by omega, by simp; omega⟩ | exact ⟨by simp; omega, by simp; omega⟩ | exact ⟨by simp, by simp; omega⟩ | (intro h; rw [h]; rfl) | (intro h; refine ⟨fun h2 => ?_, h⟩; rw [h, h2]; rfl) | (intro h; refine ⟨?_, h⟩; simp [inR] at h; omega) | (intro h; simp [inR] at h; omega) | assumption), ?_⟩
  refine hQ _ _ _ _ _ (RG.nil ?_)
  try simp only [x_ret, x_tn]
  refine Fin.objs [] [(0, 80)] (.inr rfl) rfl (by first | exact trivial | exact ⟨trivial, trivial⟩ | exact ⟨trivial, trivial, trivial⟩) ?_ ?_ (by simp [objL, rlook]) (by first | (simp [objL, rlook]; done) | (intro k hk; simp [objL, rlook]; omega))
  · simp only [mkSt_sl, lk_cons, lkE_cons, lkE_nil, WkSV, WkSV1, WkC, WkC0, rlook, frzEs, objL, Nat.reduceEqDiff, ↓reduceIte, reduceCtorEq, and_true, ne_eq, not_false_eq_true]
    all_goals (try ((repeat' (first | exact trivial | rfl | exact rfl | (refine ⟨⟨_, _, rfl⟩, ?_⟩; (first | exact drows_brow _ | exact drows_nrow _ | exact drows_irow _ | exact drows_wrow _ | assumption | (simp [isDRows, brow, C.isD]; done) | (rw [← List.map_append]; first | exact drows_brow _ | exact drows_nrow _ | exact drows_irow _ | exact drows_wrow _))) | (simp; done) | refine ⟨?_, ?_⟩))))
  · simp only [allL, lkE_cons, lkE_nil, WkEnt, rlook, frzEs, objL, isDRows, Option.some.injEq, ↓reduceIte, reduceCtorEq, true_and, and_true, exists_eq_left', ne_eq, true_or]
    all_goals (exact drows_irow _)

theorem itemsD_con (l : List IT) (hl : l.length ≤ 1000000) (hd : ∀ x ∈ l, x.d.length ≤ 1000000) : Con Try.prog 55 [.c (.sl (l.map irow))] [] (.c (.sl (l.map irow))) [] :=
  (volume_items_con l hl hd).rows (drows_irow l)

theorem volume_copied_con (v : VOL) (ok : Vok v) : Con Try.prog 46 [.agg (volC v)] [] (.agg [.v (.int .i64 v.id), .v (.int .i64 v.blocks), .v (.int .i64 v.size), .v (.int .i64 v.per), .sl (v.place.map nrow), .v (.int .i64 v.total), .v (.int .i64 v.next), .v (.bool v.hid), .v (.int .i64 v.floor), .osl 0, .osl 1])
    [.arr 2 1 (v.pins.map nrow) false, .arr 55 2 (v.ws.map wrow) false] := by
  obtain ⟨ok1, ok2, ok3, ok4⟩ := ok
  refine C_volume_copied (Nat.le_of_ble_eq_true rfl) (Nat.le_of_ble_eq_true rfl) ?_
  simp only [A_volume_copied, argL, objL, List.length_nil, x_seq]
  refine aw_reg 16 (RG.go fun Q hQ => ?_)
  simp only [RX, eff, ev_t, lk_cons, lkE_cons, lkE_nil, setS_cons, setS_nil, setE_cons, setE_nil, AOp.isCall, setD, setEs, presOf, AOp.needs, SV.pre, SV.cells, idsOf, AOp.rds, AOp.ops, SV.ids, List.map_cons, List.map_nil, List.nil_append, true_and, and_self, Bool.false_eq_true, reduceCtorEq, Nat.reduceAdd, Nat.reduceEqDiff, ↓reduceIte, List.append_nil, volC, vC]
  repeat refine ⟨by (first | omega | (simp; omega) | (simp; done) | exact ⟨by omega, by omega⟩ | exact ⟨by omega, by simp; omega⟩ | exact ⟨by simp; omega, by simp; omega⟩ | exact ⟨by simp, by simp; omega⟩ | (intro h; rw [h]; rfl) | (intro h; refine ⟨fun h2 => ?_, h⟩; rw [h, h2]; rfl) | (intro h; refine ⟨?_, h⟩; simp [inR] at h; omega) | (intro h; simp [inR] at h; omega) | assumption), ?_⟩
  refine hQ _ _ _ _ _ (RG.nil ?_)
  try simp only [x_seq, x_tn]
  refine aw_draw 80 (RG.go fun Q hQ => ?_)
  simp only [RX, eff, ev_t, lk_cons, lkE_cons, setS_cons, setS_nil, AOp.isCall, setD, setEs, presOf, AOp.needs, SV.one?, SV.pre, idsOf, AOp.rds, AOp.ops, SV.ids, C.ids0, List.getElem?_cons_zero, List.getElem?_cons_succ, Option.map_some, List.map_nil, List.nil_append, List.cons_append, true_and, and_self, Bool.false_eq_true, reduceCtorEq, Nat.reduceAdd, Nat.reduceEqDiff, ↓reduceIte, Nat.zero_add, List.append_nil]
  repeat refine ⟨by (first | omega | (simp; omega) | (simp; done) | exact ⟨by omega, by omega⟩ | exact ⟨by omega, by simp; omega⟩ | exact ⟨by simp; omega, by simp; omega⟩ | exact ⟨by simp, by simp; omega⟩ | (intro h; rw [h]; rfl) | (intro h; refine ⟨fun h2 => ?_, h⟩; rw [h, h2]; rfl) | (intro h; refine ⟨?_, h⟩; simp [inR] at h; omega) | (intro h; simp [inR] at h; omega) | assumption), ?_⟩
  refine hQ _ _ _ _ _ ?_
  refine RG.call [] (cloneI_con v.place ok1) (by (repeat' (first | exact tr_nil | refine tr_cons ?_ ?_ | exact tr_v | exact tr_sl | exact tr_nils | exact tr_agg (by repeat' (first | exact trivial | rfl | exact rfl | refine ⟨?_, ?_⟩)) | exact tr_opt (by simpa using hg) tr_v | exact tr_opt (by simpa using hg) tr_sl | exact tr_opt (by simpa using hg) (tr_agg (by repeat' (first | exact trivial | rfl | exact rfl | refine ⟨?_, ?_⟩)))))) trivial (by (first | exact .inl trivial | exact .inr ⟨rfl, trivial⟩)) ?_
  refine RG.go fun Q hQ => ?_
  simp only [RX, eff, ev_t, lk_cons, lkE_cons, setS_cons, setS_nil, AOp.isCall, setD, setEs, presOf, AOp.needs, SV.one?, SV.pre, idsOf, AOp.rds, AOp.ops, SV.ids, C.ids0, List.getElem?_cons_zero, List.getElem?_cons_succ, Option.map_some, List.map_nil, List.nil_append, List.cons_append, true_and, and_self, Bool.false_eq_true, reduceCtorEq, Nat.reduceAdd, Nat.reduceEqDiff, ↓reduceIte, Nat.zero_add, List.append_nil]
  repeat refine ⟨by (first | omega | (simp; omega) | (simp; done) | exact ⟨by omega, by omega⟩ | exact ⟨by omega, by simp; omega⟩ | exact ⟨by simp; omega, by simp; omega⟩ | exact ⟨by simp, by simp; omega⟩ | (intro h; rw [h]; rfl) | (intro h; refine ⟨fun h2 => ?_, h⟩; rw [h, h2]; rfl) | (intro h; refine ⟨?_, h⟩; simp [inR] at h; omega) | (intro h; simp [inR] at h; omega) | assumption), ?_⟩
  refine hQ _ _ _ _ _ ?_
  refine RG.callo [] [] (slices_Clone_int64_int64_con (v.pins.map nrow) (drows_nrow _) (nrow_len _) (by simp; omega)) (.mk (by (repeat' (first | exact tr_nil | refine tr_cons ?_ ?_ | exact tr_v | exact tr_bp rfl | exact tr_osl rfl | exact tr_sl | exact tr_nils | exact tr_agg (by repeat' (first | exact trivial | rfl | exact rfl | refine ⟨?_, ?_⟩)) | exact tr_opt (by simpa using hg) tr_v | exact tr_opt (by simpa using hg) tr_sl | exact tr_opt (by simpa using hg) (tr_agg (by repeat' (first | exact trivial | rfl | exact rfl | refine ⟨?_, ?_⟩)))))) (by first | trivial | (simp only [Int.cast_ofNat_Int, setEs, setE_cons, setE_nil, TrL, TrSV, TrC, TrC0, TrEnt, Views, Frozen, lk_cons, lk_nil, lkE_cons, lkE_nil, ev_t, ev_k, List.map_cons, List.map_nil, List.getElem?_cons_zero, List.getElem?_cons_succ, List.getElem?_nil, List.mem_cons, List.not_mem_nil, or_false, false_or, or_true, true_or, Nat.reduceEqDiff, Nat.reduceAdd, ↓reduceIte, if_true, if_false, reduceCtorEq, true_and, and_true, and_self, exists_eq_left, exists_eq_left', ne_eq, not_false_eq_true, Option.some.injEq, Ent.arr.injEq, Ent.box.injEq, List.length_cons, List.length_nil, isDRows, List.append_nil, List.nil_append]; done) | (simp only [Int.cast_ofNat_Int, setEs, setE_cons, setE_nil, TrL, TrSV, TrC, TrC0, TrEnt, Views, Frozen, lk_cons, lk_nil, lkE_cons, lkE_nil, ev_t, ev_k, List.map_cons, List.map_nil, List.getElem?_cons_zero, List.getElem?_cons_succ, List.getElem?_nil, List.mem_cons, List.not_mem_nil, or_false, false_or, or_true, true_or, Nat.reduceEqDiff, Nat.reduceAdd, ↓reduceIte, if_true, if_false, reduceCtorEq, true_and, and_true, and_self, exists_eq_left, exists_eq_left', ne_eq, not_false_eq_true, Option.some.injEq, Ent.arr.injEq, Ent.box.injEq, List.length_cons, List.length_nil, isDRows, List.append_nil, List.nil_append]; trivial) | (simp only [Int.cast_ofNat_Int, setEs, setE_cons, setE_nil, TrL, TrSV, TrC, TrC0, TrEnt, Views, Frozen, lk_cons, lk_nil, lkE_cons, lkE_nil, ev_t, ev_k, List.map_cons, List.map_nil, List.getElem?_cons_zero, List.getElem?_cons_succ, List.getElem?_nil, List.mem_cons, List.not_mem_nil, or_false, false_or, or_true, true_or, Nat.reduceEqDiff, Nat.reduceAdd, ↓reduceIte, if_true, if_false, reduceCtorEq, true_and, and_true, and_self, exists_eq_left, exists_eq_left', ne_eq, not_false_eq_true, Option.some.injEq, Ent.arr.injEq, Ent.box.injEq, List.length_cons, List.length_nil, isDRows, List.append_nil, List.nil_append]; repeat' (first | (first | exact drows_brow _ | exact drows_nrow _ | exact drows_irow _ | exact drows_wrow _ | assumption | (simp [isDRows, brow, C.isD]; done) | (rw [← List.map_append]; first | exact drows_brow _ | exact drows_nrow _ | exact drows_irow _ | exact drows_wrow _)) | refine ⟨?_, ?_⟩))) (by simp) (by simp) (trivial) (by first | (simp [lkE_cons, lkE_nil]; done) | (intro j hj; simp at hj; simp only [setEs, setE_cons, setE_nil, lkE_cons, lkE_nil]; repeat rw [if_neg (by omega)])) (by first | (simp [Ent.pure]; done) | (simp [Ent.pure]; repeat' (first | (first | exact drows_brow _ | exact drows_nrow _ | exact drows_irow _ | exact drows_wrow _ | assumption | (simp [isDRows, brow, C.isD]; done) | (rw [← List.map_append]; first | exact drows_brow _ | exact drows_nrow _ | exact drows_irow _ | exact drows_wrow _)) | refine ⟨?_, ?_⟩))) (by simp) (by simp)) ?_
  refine RG.go fun Q hQ => ?_
  simp only [RX, eff, ev_t, lk_cons, lkE_cons, lkE_nil, setS_cons, setS_nil, setE_cons, setE_nil, AOp.isCall, setD, setEs, presOf, AOp.needs, SV.one?, SV.pre, idsOf, AOp.rds, AOp.ops, SV.ids, C.ids0, List.drop_zero, List.length_cons, List.length_nil, List.getElem?_cons_zero, List.getElem?_cons_succ, Option.map_some, List.map_cons, List.map_nil, List.nil_append, List.cons_append, true_and, and_self, Bool.false_eq_true, reduceCtorEq, Nat.reduceAdd, Nat.reduceEqDiff, ↓reduceIte, Nat.zero_add, renSV, renSV1, renC, renC0, rn, renEnt, backUps, List.zip_nil_left, List.zipIdx_cons, List.zipIdx_nil, List.filterMap_nil, List.append_nil, List.getElem?_nil, Nat.sub_self, Nat.sub_zero, Nat.add_zero]
  repeat refine ⟨by (first | omega | (simp; omega) | (simp; done) | exact ⟨by omega, by omega⟩ | exact ⟨by omega, by simp; omega⟩ | exact ⟨by simp; omega, by simp; omega⟩ | exact ⟨by simp, by simp; omega⟩ | (intro h; rw [h]; rfl) | (intro h; refine ⟨fun h2 => ?_, h⟩; rw [h, h2]; rfl) | (intro h; refine ⟨?_, h⟩; simp [inR] at h; omega) | (intro h; simp [inR] at h; omega) | assumption), ?_⟩
  refine hQ _ _ _ _ _ ?_
  refine RG.callo [] [] (slices_Clone_api_Write_api_Write_con (v.ws.map wrow) (drows_wrow _) (wrow_len _) (by simp; omega)) (.mk (by (repeat' (first | exact tr_nil | refine tr_cons ?_ ?_ | exact tr_v | exact tr_bp rfl | exact tr_osl rfl | exact tr_sl | exact tr_nils | exact tr_agg (by repeat' (first | exact trivial | rfl | exact rfl | refine ⟨?_, ?_⟩)) | exact tr_opt (by simpa using hg) tr_v | exact tr_opt (by simpa using hg) tr_sl | exact tr_opt (by simpa using hg) (tr_agg (by repeat' (first | exact trivial | rfl | exact rfl | refine ⟨?_, ?_⟩)))))) (by first | trivial | (simp only [Int.cast_ofNat_Int, setEs, setE_cons, setE_nil, TrL, TrSV, TrC, TrC0, TrEnt, Views, Frozen, lk_cons, lk_nil, lkE_cons, lkE_nil, ev_t, ev_k, List.map_cons, List.map_nil, List.getElem?_cons_zero, List.getElem?_cons_succ, List.getElem?_nil, List.mem_cons, List.not_mem_nil, or_false, false_or, or_true, true_or, Nat.reduceEqDiff, Nat.reduceAdd, ↓reduceIte, if_true, if_false, reduceCtorEq, true_and, and_true, and_self, exists_eq_left, exists_eq_left', ne_eq, not_false_eq_true, Option.some.injEq, Ent.arr.injEq, Ent.box.injEq, List.length_cons, List.length_nil, isDRows, List.append_nil, List.nil_append]; done) | (simp only [Int.cast_ofNat_Int, setEs, setE_cons, setE_nil, TrL, TrSV, TrC, TrC0, TrEnt, Views, Frozen, lk_cons, lk_nil, lkE_cons, lkE_nil, ev_t, ev_k, List.map_cons, List.map_nil, List.getElem?_cons_zero, List.getElem?_cons_succ, List.getElem?_nil, List.mem_cons, List.not_mem_nil, or_false, false_or, or_true, true_or, Nat.reduceEqDiff, Nat.reduceAdd, ↓reduceIte, if_true, if_false, reduceCtorEq, true_and, and_true, and_self, exists_eq_left, exists_eq_left', ne_eq, not_false_eq_true, Option.some.injEq, Ent.arr.injEq, Ent.box.injEq, List.length_cons, List.length_nil, isDRows, List.append_nil, List.nil_append]; trivial) | (simp only [Int.cast_ofNat_Int, setEs, setE_cons, setE_nil, TrL, TrSV, TrC, TrC0, TrEnt, Views, Frozen, lk_cons, lk_nil, lkE_cons, lkE_nil, ev_t, ev_k, List.map_cons, List.map_nil, List.getElem?_cons_zero, List.getElem?_cons_succ, List.getElem?_nil, List.mem_cons, List.not_mem_nil, or_false, false_or, or_true, true_or, Nat.reduceEqDiff, Nat.reduceAdd, ↓reduceIte, if_true, if_false, reduceCtorEq, true_and, and_true, and_self, exists_eq_left, exists_eq_left', ne_eq, not_false_eq_true, Option.some.injEq, Ent.arr.injEq, Ent.box.injEq, List.length_cons, List.length_nil, isDRows, List.append_nil, List.nil_append]; repeat' (first | (first | exact drows_brow _ | exact drows_nrow _ | exact drows_irow _ | exact drows_wrow _ | assumption | (simp [isDRows, brow, C.isD]; done) | (rw [← List.map_append]; first | exact drows_brow _ | exact drows_nrow _ | exact drows_irow _ | exact drows_wrow _)) | refine ⟨?_, ?_⟩))) (by simp) (by simp) (trivial) (by first | (simp [lkE_cons, lkE_nil]; done) | (intro j hj; simp at hj; simp only [setEs, setE_cons, setE_nil, lkE_cons, lkE_nil]; repeat rw [if_neg (by omega)])) (by first | (simp [Ent.pure]; done) | (simp [Ent.pure]; repeat' (first | (first | exact drows_brow _ | exact drows_nrow _ | exact drows_irow _ | exact drows_wrow _ | assumption | (simp [isDRows, brow, C.isD]; done) | (rw [← List.map_append]; first | exact drows_brow _ | exact drows_nrow _ | exact drows_irow _ | exact drows_wrow _)) | refine ⟨?_, ?_⟩))) (by simp) (by simp)) ?_
  refine RG.go fun Q hQ => ?_
  simp only [RX, eff, ev_t, lk_cons, lkE_cons, lkE_nil, setS_cons, setS_nil, setE_cons, setE_nil, AOp.isCall, setD, setEs, presOf, AOp.needs, SV.one?, SV.pre, SV.cells, idsOf, AOp.rds, AOp.ops, SV.ids, C.ids0, splice, List.take_succ_cons, List.take_zero, List.drop_succ_cons, List.drop_zero, List.length_cons, List.length_nil, List.map_cons, List.map_nil, List.nil_append, List.cons_append, true_and, and_self, Bool.false_eq_true, reduceCtorEq, Nat.reduceAdd, Nat.reduceEqDiff, Nat.reduceLeDiff, ↓reduceIte, Nat.zero_add, Nat.le_refl, renSV, renSV1, renC, renC0, rn, renEnt, backUps, List.zip_nil_left, List.zipIdx_cons, List.zipIdx_nil, List.filterMap_nil, List.append_nil, List.getElem?_nil, Nat.sub_self, Nat.sub_zero, Nat.add_zero]
  repeat refine ⟨by (first | omega | (simp; omega) | (simp; done) | exact ⟨by omega, by omega⟩ | exact ⟨by omega, by simp; omega⟩ | exact ⟨by simp; omega, by simp; omega⟩ | exact ⟨by simp, by simp; omega⟩ | (intro h; rw [h]; rfl) | (intro h; refine ⟨fun h2 => ?_, h⟩; rw [h, h2]; rfl) | (intro h; refine ⟨?_, h⟩; simp [inR] at h; omega) | (intro h; simp [inR] at h; omega) | assumption), ?_⟩
  refine hQ _ _ _ _ _ (RG.nil ⟨by decide +kernel, ?_⟩)
  try simp only [x_seq, x_tn]
  refine aw_reg 352 (RG.go fun Q hQ => ?_)
  simp only [RX, eff, ev_t, ev_k, lk_cons, lkE_cons, setS_cons, setS_nil, AOp.isCall, setD, setEs, presOf, AOp.needs, SV.one?, SV.pre, idsOf, AOp.rds, AOp.ops, SV.ids, C.ids0, rowsOf, List.getElem?_cons_zero, List.getElem?_cons_succ, Option.map_some, List.map_nil, List.nil_append, List.cons_append, true_and, and_self, Bool.false_eq_true, reduceCtorEq, Nat.reduceAdd, Nat.reduceEqDiff, ↓reduceIte, Option.bind_some, Nat.zero_add, List.append_nil]
  repeat refine ⟨by (first | omega | (simp; omega) | (simp; done) | exact ⟨by omega, by omega⟩ | exact ⟨by omega, by simp; omega⟩ | exact ⟨by simp; omega, by simp; omega⟩ | exact ⟨by simp, by simp; omega⟩ | (intro h; rw [h]; rfl) | (intro h; refine ⟨fun h2 => ?_, h⟩; rw [h, h2]; rfl) | (intro h; refine ⟨?_, h⟩; simp [inR] at h; omega) | (intro h; simp [inR] at h; omega) | assumption), ?_⟩
  refine hQ _ _ _ _ _ (RG.nil ?_)
  try simp only [x_block, x_tn]
  refine aw_loopK (X := { i : Nat // i ≤ v.ws.length }) [1, 2, 18] (fun i => [(19, I i.1)]) [16, 32, 160, 208] (fun i => []) (fun i => v.ws.length - i.1) (⟨0, by omega⟩) ?_ ?_
  · skip
    simp only [keepS, keepE, Option.getD_some, lk_cons, lkE_cons, List.cons_append, List.nil_append, Nat.reduceEqDiff, ↓reduceIte, reduceCtorEq]
    refine Le.lit [] [] _ _ ?_ ?_ ?_ ?_
    · simp only [Int.cast_ofNat_Int, allL, lk_cons, lkE_cons, lkE_nil, WkSV, WkSV1, WkC, WkC0, rlook, frzEs, Nat.reduceEqDiff, ↓reduceIte, reduceCtorEq, and_true, ne_eq, not_false_eq_true]
      all_goals (try ((repeat' (first | exact trivial | rfl | exact rfl | (refine ⟨⟨_, _, rfl⟩, ?_⟩; (first | exact drows_brow _ | exact drows_nrow _ | exact drows_irow _ | exact drows_wrow _ | assumption | (simp [isDRows, brow, C.isD]; done) | (rw [← List.map_append]; first | exact drows_brow _ | exact drows_nrow _ | exact drows_irow _ | exact drows_wrow _))) | (simp; done) | refine ⟨?_, ?_⟩))))
    · simp only [allL, lkE_cons, lkE_nil, WkC, WkC0, WkEnt, TrL, rlook, frzEs, isDRows, Option.some.injEq, Nat.reduceEqDiff, ↓reduceIte, reduceCtorEq, true_and, and_true, exists_eq_left', ne_eq, not_false_eq_true, true_or]
      all_goals (exact ⟨drows_nrow _, drows_wrow _⟩)
    · simp [rlook]
    · first | (simp; done) | (intro k hk; simp [rlook]; omega)
  rintro ⟨i, hi⟩
  simp only [keepS, keepE, Option.getD_some, lk_cons, lkE_cons, List.cons_append, List.nil_append, Nat.reduceEqDiff, ↓reduceIte, reduceCtorEq]
  try simp only [x_seq]
  refine aw_reg 448 (RG.go fun Q hQ => ?_)
  simp only [RX, eff, ev_t, lk_cons, setS_cons, setS_nil, AOp.isCall, setD, setEs, presOf, AOp.needs, SV.one?, SV.pre, binV, idsOf, AOp.rds, AOp.ops, SV.ids, C.ids0, Option.map_some, List.map_nil, List.nil_append, true_and, and_self, Bool.false_eq_true, Nat.reduceAdd, Nat.reduceEqDiff, ↓reduceIte, List.append_nil]
  repeat refine ⟨by (first | omega | (simp; omega) | (simp; done) | exact ⟨by omega, by omega⟩ | exact ⟨by omega, by simp; omega⟩ | exact ⟨by simp; omega, by simp; omega⟩ | exact ⟨by simp, by simp; omega⟩ | (intro h; rw [h]; rfl) | (intro h; refine ⟨fun h2 => ?_, h⟩; rw [h, h2]; rfl) | (intro h; refine ⟨?_, h⟩; simp [inR] at h; omega) | (intro h; simp [inR] at h; omega) | assumption), ?_⟩
  refine hQ _ _ _ _ _ (RG.nil ?_)
  try simp only [x_seq, x_tn]
  refine aw_cond _ rfl trivial (fun ht => ?_) (fun hf => ?_)
  · have hi' : i < v.ws.length := by simpa using ht
    have hr : ((v.ws.map wrow)[((i : Int)).toNat]?).getD [] = [.v (.int .i64 v.ws[i].s), .sl (v.ws[i].its.map irow)] := map_get wrow hi' []
    have hset : (v.ws.map wrow).set ((i : Int)).toNat [.v (.int .i64 v.ws[i].s), .sl (v.ws[i].its.map irow)] = v.ws.map wrow := set_same wrow hi'
    obtain ⟨hz1, hz2⟩ := ok4 _ (List.getElem_mem hi')
    try simp only [x_seq, x_block, x_skip, x_tn]
    refine aw_reg 496 (RG.go fun Q hQ => ?_)
    simp only [RX, eff, ev_t, lk_cons, setS_cons, setS_nil, AOp.isCall, setD, setEs, presOf, AOp.needs, idsOf, AOp.rds, List.map_nil, List.nil_append, true_and, Bool.false_eq_true, Nat.reduceAdd, Nat.reduceEqDiff, ↓reduceIte]
    repeat refine ⟨by (first | omega | (simp; omega) | (simp; done) | exact ⟨by omega, by omega⟩ | exact ⟨by omega, by simp; omega⟩ | exact ⟨by simp; omega, by simp; omega⟩ | exact ⟨by simp, by simp; omega⟩ | (intro h; rw [h]; rfl) | (intro h; refine ⟨fun h2 => ?_, h⟩; rw [h, h2]; rfl) | (intro h; refine ⟨?_, h⟩; simp [inR] at h; omega) | (intro h; simp [inR] at h; omega) | assumption), ?_⟩
    refine hQ _ _ _ _ _ (RG.nil ?_)
    try simp only [x_tn]
    refine aw_draw 560 (RG.go fun Q hQ => ?_)
    simp only [RX, eff, ev_t, lk_cons, lkE_cons, setS_cons, setS_nil, AOp.isCall, setD, setEs, presOf, AOp.needs, SV.one?, SV.pre, idsOf, AOp.rds, AOp.ops, SV.ids, C.ids0, Option.getD_some, List.getElem?_cons_zero, List.getElem?_cons_succ, Option.map_some, List.map_nil, List.nil_append, List.cons_append, and_true, true_and, and_self, Bool.false_eq_true, Nat.reduceAdd, Nat.reduceEqDiff, Nat.reduceLT, ↓reduceIte, Nat.zero_add, List.append_nil, C_default, hr]
    repeat refine ⟨by (first | omega | (simp; omega) | (simp; done) | exact ⟨by omega, by omega⟩ | exact ⟨by omega, by simp; omega⟩ | exact ⟨by simp; omega, by simp; omega⟩ | exact ⟨by simp, by simp; omega⟩ | (intro h; rw [h]; rfl) | (intro h; refine ⟨fun h2 => ?_, h⟩; rw [h, h2]; rfl) | (intro h; refine ⟨?_, h⟩; simp [inR] at h; omega) | (intro h; simp [inR] at h; omega) | assumption), ?_⟩
    refine hQ _ _ _ _ _ ?_
    refine RG.call [] (itemsD_con v.ws[i].its hz1 hz2) (by (repeat' (first | exact tr_nil | refine tr_cons ?_ ?_ | exact tr_v | exact tr_sl | exact tr_nils | exact tr_agg (by repeat' (first | exact trivial | rfl | exact rfl | refine ⟨?_, ?_⟩)) | exact tr_opt (by simpa using hg) tr_v | exact tr_opt (by simpa using hg) tr_sl | exact tr_opt (by simpa using hg) (tr_agg (by repeat' (first | exact trivial | rfl | exact rfl | refine ⟨?_, ?_⟩)))))) trivial (by (first | exact .inl trivial | exact .inr ⟨rfl, trivial⟩)) ?_
    refine RG.go fun Q hQ => ?_
    simp only [RX, eff, ev_t, lk_cons, lkE_cons, setS_cons, setS_nil, setE_cons, AOp.isCall, setD, setEs, presOf, AOp.needs, SV.one?, SV.pre, SV.cells, idsOf, AOp.rds, AOp.ops, SV.ids, C.ids0, splice, List.length_cons, List.length_nil, List.map_cons, List.map_nil, List.nil_append, List.cons_append, and_true, true_and, and_self, Bool.false_eq_true, Nat.reduceAdd, Nat.reduceEqDiff, ↓reduceIte, Nat.zero_add, Nat.le_refl, List.append_nil]
    simp only [List.take_succ_cons, List.take_zero, List.drop_succ_cons, List.drop_zero, List.nil_append, List.cons_append, List.append_nil, hr, hset]
    repeat refine ⟨by (first | omega | (simp; omega) | (simp; done) | exact ⟨by omega, by omega⟩ | exact ⟨by omega, by simp; omega⟩ | exact ⟨by simp; omega, by simp; omega⟩ | exact ⟨by simp, by simp; omega⟩ | (intro h; rw [h]; rfl) | (intro h; refine ⟨fun h2 => ?_, h⟩; rw [h, h2]; rfl) | (intro h; refine ⟨?_, h⟩; simp [inR] at h; omega) | (intro h; simp [inR] at h; omega) | assumption), ?_⟩
    refine hQ _ _ _ _ _ (RG.nil ⟨by decide +kernel, ?_⟩)
    try simp only [x_tn, x_bn]
    refine aw_reg 800 (RG.go fun Q hQ => ?_)
    simp only [RX, eff, ev_t, ev_k, lk_cons, setS_cons, setS_nil, AOp.isCall, setD, setEs, presOf, AOp.needs, SV.one?, SV.pre, binV, idsOf, AOp.rds, AOp.ops, SV.ids, C.ids0, Option.map_some, List.map_nil, List.nil_append, true_and, and_self, Bool.false_eq_true, Nat.reduceAdd, Nat.reduceEqDiff, ↓reduceIte, List.append_nil, wi i _ hi' (by omega)]
    repeat refine ⟨by (first | omega | (simp; omega) | (simp; done) | exact ⟨by omega, by omega⟩ | exact ⟨by omega, by simp; omega⟩ | exact ⟨by simp; omega, by simp; omega⟩ | exact ⟨by simp, by simp; omega⟩ | (intro h; rw [h]; rfl) | (intro h; refine ⟨fun h2 => ?_, h⟩; rw [h, h2]; rfl) | (intro h; refine ⟨?_, h⟩; simp [inR] at h; omega) | (intro h; simp [inR] at h; omega) | assumption), ?_⟩
    refine hQ _ _ _ _ _ (RG.nil ?_)
    try simp only [x_ln]
    refine ⟨⟨i + 1, hi'⟩, ?_, by simp only; omega⟩
    refine Le.lit [] [] _ _ ?_ ?_ ?_ ?_
    · simp only [allL, lk_cons, lkE_cons, lkE_nil, WkSV, WkSV1, WkC, WkC0, rlook, frzEs, Nat.reduceEqDiff, ↓reduceIte, reduceCtorEq, and_true, ne_eq, not_false_eq_true]
      all_goals (try ((repeat' (first | exact trivial | rfl | exact rfl | (refine ⟨⟨_, _, rfl⟩, ?_⟩; (first | exact drows_brow _ | exact drows_nrow _ | exact drows_irow _ | exact drows_wrow _ | assumption | (simp [isDRows, brow, C.isD]; done) | (rw [← List.map_append]; first | exact drows_brow _ | exact drows_nrow _ | exact drows_irow _ | exact drows_wrow _))) | (simp; done) | refine ⟨?_, ?_⟩))))
    · simp only [allL, lkE_cons, lkE_nil, WkC, WkC0, WkEnt, TrL, rlook, frzEs, isDRows, Option.some.injEq, Nat.reduceEqDiff, ↓reduceIte, reduceCtorEq, true_and, and_true, exists_eq_left', ne_eq, not_false_eq_true, true_or]
      all_goals (exact ⟨drows_nrow _, drows_wrow _⟩)
    · simp [rlook]
    · first | (simp; done) | (intro k hk; simp [rlook]; omega)
  try simp only [x_seq, x_exit, x_tn, x_tx, x_bx, x_lx, ↓reduceIte]
  refine aw_reg 864 (RG.go fun Q hQ => ?_)
  simp only [RX, eff, ev_t, lk_cons, lkE_cons, setS_cons, setS_nil, setE_cons, AOp.isCall, setD, setEs, presOf, AOp.needs, SV.one?, SV.pre, SV.cells, idsOf, AOp.rds, AOp.ops, SV.ids, C.ids0, splice, List.take_succ_cons, List.take_zero, List.drop_succ_cons, List.drop_zero, List.length_cons, List.length_nil, List.map_cons, List.map_nil, List.nil_append, List.cons_append, true_and, and_self, Bool.false_eq_true, Nat.reduceAdd, Nat.reduceEqDiff, ↓reduceIte, Nat.zero_add, Nat.le_refl, List.append_nil]
  repeat refine ⟨by (first | omega | (simp; omega) | (simp; done) | exact ⟨by omega, by omega⟩ | exact ⟨by omega, by simp; omega⟩ | exact ⟨by simp; omega, by simp; omega⟩ | exact ⟨by simp, by simp; omega⟩ | (intro h; rw [h]; rfl) | (intro h; refine ⟨fun h2 => ?_, h⟩; rw [h, h2]; rfl) | (intro h; refine ⟨?_, h⟩; simp [inR] at h; omega) | (intro h; simp [inR] at h; omega) | assumption), ?_⟩
  refine hQ _ _ _ _ _ (RG.nil ?_)
  try simp only [x_ret, x_tn]
  refine Fin.objs [] [(0, 160), (1, 208)] (.inr rfl) rfl (by first | exact trivial | exact ⟨trivial, trivial⟩ | exact ⟨trivial, trivial, trivial⟩) ?_ ?_ (by simp [objL, rlook]) (by first | (simp [objL, rlook]; done) | (intro k hk; simp [objL, rlook]; omega))
  · simp only [lkE_cons, lkE_nil, WkSV, WkSV1, rlook, frzEs, objL, Nat.zero_add, ne_eq]
    all_goals ((repeat' (first | exact trivial | rfl | exact rfl | (refine ⟨⟨_, _, rfl⟩, ?_⟩; (first | exact drows_brow _ | exact drows_nrow _ | exact drows_irow _ | exact drows_wrow _ | assumption | (simp [isDRows, brow, C.isD]; done) | (rw [← List.map_append]; first | exact drows_brow _ | exact drows_nrow _ | exact drows_irow _ | exact drows_wrow _))) | (simp; done) | refine ⟨?_, ?_⟩)))
  · simp only [allL, lkE_cons, lkE_nil, WkEnt, rlook, frzEs, objL, isDRows, Option.some.injEq, Nat.zero_add, Nat.reduceEqDiff, ↓reduceIte, reduceCtorEq, true_and, and_true, exists_eq_left', ne_eq, true_or]
    all_goals (exact ⟨drows_nrow _, drows_wrow _⟩)

end Go.Abs

namespace Go.Abs
open Go Go.Proofs
set_option maxRecDepth 100000
set_option linter.unusedSimpArgs false
set_option maxHeartbeats 2000000

def newV (c : CMD) : VOL := ⟨c.vol, c.blocks, c.size, c.per, c.place, c.total, 0, decide (0 < c.total), 0, [], []⟩
def zeroV : VOL := ⟨0, 0, 0, 0, [], 0, 0, false, 0, [], []⟩
def newR (c : CMD) : VOL × Int := if shapeV (newV c) = true then (newV c, 0) else (zeroV, 23)

theorem volume_New_con (c : CMD) (hb : c.place.length ≤ 1000000) : Con Try.prog 13 [.agg (cmdC c)] [] (.tup [.agg (volC (newR c).1), I (newR c).2]) [] := by
  have cS := volume_shape_con (newV c) hb
  have hzc : volC (newV c) = [.v (.int .i64 c.vol), .v (.int .i64 c.blocks), .v (.int .i64 c.size), .v (.int .i64 c.per), .sl (c.place.map nrow), .v (.int .i64 c.total), .v (.int .i64 0), .v (.bool (decide (0 < c.total))), .v (.int .i64 0), .sl [], .sl []] := rfl
  refine C_volume_New (Nat.le_of_ble_eq_true rfl) (Nat.le_of_ble_eq_true rfl) ?_
  simp only [A_volume_New, argL, objL, List.length_nil, x_seq]
  refine aw_reg 16 (RG.go fun Q hQ => ?_)
  simp only [RX, eff, ev_t, ev_k, lk_cons, lkE_cons, lkE_nil, setS_cons, setS_nil, setE_cons, setE_nil, AOp.isCall, setD, setEs, presOf, AOp.needs, SV.pre, SV.cells, idsOf, AOp.rds, AOp.ops, SV.ids, List.map_cons, List.map_nil, List.nil_append, true_and, and_self, Bool.false_eq_true, reduceCtorEq, Nat.reduceAdd, Nat.reduceEqDiff, ↓reduceIte, List.append_nil, cmdC, cC]
  repeat refine ⟨by (first | omega | (simp; omega) | (simp; done) | exact ⟨by omega, by omega⟩ | exact ⟨by omega, by simp; omega⟩ | exact ⟨by simp; omega, by simp; omega⟩ | exact ⟨by simp, by simp; omega⟩ | (intro h; rw [h]; rfl) | (intro h; refine ⟨fun h2 => ?_, h⟩; rw [h, h2]; rfl) | (intro h; refine ⟨?_, h⟩; simp [inR] at h; omega) | (intro h; simp [inR] at h; omega) | assumption), ?_⟩
  refine hQ _ _ _ _ _ (RG.nil ?_)
  try simp only [x_seq, x_tn]
  refine aw_draw 96 (RG.go fun Q hQ => ?_)
  simp only [RX, eff, ev_t, lk_cons, lkE_cons, setS_cons, setS_nil, AOp.isCall, setD, setEs, presOf, AOp.needs, SV.one?, SV.pre, idsOf, AOp.rds, AOp.ops, SV.ids, C.ids0, List.getElem?_cons_zero, List.getElem?_cons_succ, Option.map_some, List.map_nil, List.nil_append, List.cons_append, true_and, and_self, Bool.false_eq_true, reduceCtorEq, Nat.reduceAdd, Nat.reduceEqDiff, ↓reduceIte, Nat.zero_add, List.append_nil]
  repeat refine ⟨by (first | omega | (simp; omega) | (simp; done) | exact ⟨by omega, by omega⟩ | exact ⟨by omega, by simp; omega⟩ | exact ⟨by simp; omega, by simp; omega⟩ | exact ⟨by simp, by simp; omega⟩ | (intro h; rw [h]; rfl) | (intro h; refine ⟨fun h2 => ?_, h⟩; rw [h, h2]; rfl) | (intro h; refine ⟨?_, h⟩; simp [inR] at h; omega) | (intro h; simp [inR] at h; omega) | assumption), ?_⟩
  refine hQ _ _ _ _ _ ?_
  refine RG.call [] (cloneI_con c.place hb) (by (repeat' (first | exact tr_nil | refine tr_cons ?_ ?_ | exact tr_v | exact tr_sl | exact tr_nils | exact tr_agg (by repeat' (first | exact trivial | rfl | exact rfl | refine ⟨?_, ?_⟩)) | exact tr_opt (by simpa using hg) tr_v | exact tr_opt (by simpa using hg) tr_sl | exact tr_opt (by simpa using hg) (tr_agg (by repeat' (first | exact trivial | rfl | exact rfl | refine ⟨?_, ?_⟩)))))) trivial (by (first | exact .inl trivial | exact .inr ⟨rfl, trivial⟩)) ?_
  refine RG.go fun Q hQ => ?_
  simp only [RX, eff, ev_t, ev_k, lk_cons, lkE_cons, lkE_nil, setS_cons, setS_nil, setE_cons, setE_nil, AOp.isCall, setD, setEs, presOf, AOp.needs, SV.one?, SV.pre, SV.cells, binV, idsOf, AOp.rds, AOp.ops, SV.ids, C.ids0, bldFold, splice, List.take_succ_cons, List.take_zero, List.drop_succ_cons, List.drop_zero, List.length_cons, List.length_nil, List.getElem?_cons_zero, List.getElem?_cons_succ, Option.map_some, List.map_cons, List.map_nil, List.nil_append, List.cons_append, true_and, and_self, Bool.false_eq_true, reduceCtorEq, gt_iff_lt, Nat.reduceAdd, Nat.reduceEqDiff, Nat.reduceLeDiff, ↓reduceIte, Nat.zero_add, Nat.le_refl, List.append_nil]
  repeat refine ⟨by (first | omega | (simp; omega) | (simp; done) | exact ⟨by omega, by omega⟩ | exact ⟨by omega, by simp; omega⟩ | exact ⟨by simp; omega, by simp; omega⟩ | exact ⟨by simp, by simp; omega⟩ | (intro h; rw [h]; rfl) | (intro h; refine ⟨fun h2 => ?_, h⟩; rw [h, h2]; rfl) | (intro h; refine ⟨?_, h⟩; simp [inR] at h; omega) | (intro h; simp [inR] at h; omega) | assumption), ?_⟩
  refine hQ _ _ _ _ _ (RG.nil ⟨by decide +kernel, ?_⟩)
  try simp only [x_seq, x_tn]
  refine aw_reg 432 (RG.go fun Q hQ => ?_)
  simp only [RX, eff, ev_t, lk_cons, lkE_cons, setS_cons, setS_nil, AOp.isCall, setD, setEs, presOf, AOp.needs, SV.one?, SV.pre, idsOf, AOp.rds, AOp.ops, SV.ids, C.ids0, List.take_succ_cons, List.take_zero, List.drop_zero, List.length_cons, List.length_nil, List.map_nil, List.nil_append, List.cons_append, true_and, and_self, Bool.false_eq_true, reduceCtorEq, Nat.reduceAdd, Nat.reduceEqDiff, ↓reduceIte, Nat.zero_add, Nat.le_refl, List.append_nil]
  repeat refine ⟨by (first | omega | (simp; omega) | (simp; done) | exact ⟨by omega, by omega⟩ | exact ⟨by omega, by simp; omega⟩ | exact ⟨by simp; omega, by simp; omega⟩ | exact ⟨by simp, by simp; omega⟩ | (intro h; rw [h]; rfl) | (intro h; refine ⟨fun h2 => ?_, h⟩; rw [h, h2]; rfl) | (intro h; refine ⟨?_, h⟩; simp [inR] at h; omega) | (intro h; simp [inR] at h; omega) | assumption), ?_⟩
  refine hQ _ _ _ _ _ ?_
  refine RG.call [] (cS) (by (repeat' (first | exact tr_nil | refine tr_cons ?_ ?_ | exact tr_v | exact tr_sl | exact tr_nils | exact tr_agg (by repeat' (first | exact trivial | rfl | exact rfl | refine ⟨?_, ?_⟩)) | exact tr_opt (by simpa using hg) tr_v | exact tr_opt (by simpa using hg) tr_sl | exact tr_opt (by simpa using hg) (tr_agg (by repeat' (first | exact trivial | rfl | exact rfl | refine ⟨?_, ?_⟩)))))) trivial (by (first | exact .inl trivial | exact .inr ⟨rfl, trivial⟩)) ?_
  refine RG.go fun Q hQ => ?_
  simp only [RX, eff, ev_t, lk_cons, setS_cons, setS_nil, AOp.isCall, setD, setEs, presOf, AOp.needs, SV.one?, SV.pre, unV, idsOf, AOp.rds, AOp.ops, SV.ids, C.ids0, Option.map_some, List.map_nil, List.nil_append, true_and, and_self, Bool.false_eq_true, reduceCtorEq, Nat.reduceAdd, Nat.reduceEqDiff, ↓reduceIte, List.append_nil]
  repeat refine ⟨by (first | omega | (simp; omega) | (simp; done) | exact ⟨by omega, by omega⟩ | exact ⟨by omega, by simp; omega⟩ | exact ⟨by simp; omega, by simp; omega⟩ | exact ⟨by simp, by simp; omega⟩ | (intro h; rw [h]; rfl) | (intro h; refine ⟨fun h2 => ?_, h⟩; rw [h, h2]; rfl) | (intro h; refine ⟨?_, h⟩; simp [inR] at h; omega) | (intro h; simp [inR] at h; omega) | assumption), ?_⟩
  refine hQ _ _ _ _ _ (RG.nil ?_)
  try simp only [x_tn]
  refine aw_cond _ rfl trivial (fun ht => ?_) (fun hf => ?_)
  · have hn : newR c = (zeroV, 23) := by
      unfold newR; rw [if_neg (by simpa using ht)]
    rw [hn]
    try simp only [x_seq]
    refine aw_reg 512 (RG.go fun Q hQ => ?_)
    simp only [RX, eff, ev_t, ev_k, lk_cons, lkE_cons, setS_cons, setS_nil, setE_cons, AOp.isCall, setD, setEs, presOf, AOp.needs, SV.one?, SV.pre, SV.cells, idsOf, AOp.rds, AOp.ops, SV.ids, C.ids0, bldFold, splice, List.take_zero, List.drop_succ_cons, List.drop_zero, List.length_cons, List.length_nil, Option.map_some, List.map_cons, List.map_nil, List.nil_append, List.cons_append, true_and, and_self, Bool.false_eq_true, reduceCtorEq, Nat.reduceAdd, Nat.reduceEqDiff, ↓reduceIte, Nat.zero_add, Nat.le_refl, List.append_nil]
    repeat refine ⟨by (first | omega | (simp; omega) | (simp; done) | exact ⟨by omega, by omega⟩ | exact ⟨by omega, by simp; omega⟩ | exact ⟨by simp; omega, by simp; omega⟩ | exact ⟨by simp, by simp; omega⟩ | (intro h; rw [h]; rfl) | (intro h; refine ⟨fun h2 => ?_, h⟩; rw [h, h2]; rfl) | (intro h; refine ⟨?_, h⟩; simp [inR] at h; omega) | (intro h; simp [inR] at h; omega) | assumption), ?_⟩
    refine hQ _ _ _ _ _ (RG.nil ?_)
    try simp only [x_ret, x_tn, x_tr]
    refine Fin.data [] (.inr rfl) rfl (by (first | exact trivial | exact ⟨trivial, trivial⟩ | exact ⟨trivial, trivial, trivial⟩)) ?_
    simp only [mkSt_sl, lk_cons, WkSV, WkSV1, WkC, WkC0, TrL, frzEs, Nat.reduceEqDiff, ↓reduceIte, reduceCtorEq, and_true]
    all_goals ((repeat' (first | exact trivial | rfl | exact rfl | (refine ⟨⟨_, _, rfl⟩, ?_⟩; (first | exact drows_brow _ | exact drows_nrow _ | exact drows_irow _ | exact drows_wrow _ | assumption | (simp [isDRows, brow, C.isD]; done) | (rw [← List.map_append]; first | exact drows_brow _ | exact drows_nrow _ | exact drows_irow _ | exact drows_wrow _))) | (simp; done) | refine ⟨?_, ?_⟩)))
  have hn : newR c = (newV c, 0) := by
    unfold newR; rw [if_pos (by simpa using hf)]
  rw [hn]
  try simp only [x_seq, x_skip, x_tn]
  refine aw_reg 592 (RG.go fun Q hQ => ?_)
  simp only [RX, eff, ev_t, ev_k, lk_cons, lkE_cons, setS_cons, setS_nil, setE_cons, AOp.isCall, setD, setEs, presOf, AOp.needs, SV.one?, SV.pre, SV.cells, idsOf, AOp.rds, AOp.ops, SV.ids, C.ids0, splice, List.take_succ_cons, List.take_zero, List.drop_succ_cons, List.drop_zero, List.length_cons, List.length_nil, List.map_cons, List.map_nil, List.nil_append, List.cons_append, true_and, and_self, Bool.false_eq_true, reduceCtorEq, Nat.reduceAdd, Nat.reduceEqDiff, ↓reduceIte, Nat.zero_add, Nat.le_refl, List.append_nil]
  repeat refine ⟨by (first | omega | (simp; omega) | (simp; done) | exact ⟨by omega, by omega⟩ | exact ⟨by omega, by simp; omega⟩ | exact ⟨by simp; omega, by simp; omega⟩ | exact ⟨by simp, by simp; omega⟩ | (intro h; rw [h]; rfl) | (intro h; refine ⟨fun h2 => ?_, h⟩; rw [h, h2]; rfl) | (intro h; refine ⟨?_, h⟩; simp [inR] at h; omega) | (intro h; simp [inR] at h; omega) | assumption), ?_⟩
  refine hQ _ _ _ _ _ (RG.nil ?_)
  try simp only [x_ret, x_tn]
  refine Fin.data [] (.inr rfl) rfl (by (first | exact trivial | exact ⟨trivial, trivial⟩ | exact ⟨trivial, trivial, trivial⟩)) ?_
  simp only [mkSt_sl, lk_cons, WkSV, WkSV1, WkC, WkC0, TrL, frzEs, Nat.reduceEqDiff, ↓reduceIte, reduceCtorEq, and_true]
  all_goals ((repeat' (first | exact trivial | rfl | exact rfl | (refine ⟨⟨_, _, rfl⟩, ?_⟩; (first | exact drows_brow _ | exact drows_nrow _ | exact drows_irow _ | exact drows_wrow _ | assumption | (simp [isDRows, brow, C.isD]; done) | (rw [← List.map_append]; first | exact drows_brow _ | exact drows_nrow _ | exact drows_irow _ | exact drows_wrow _))) | (simp; done) | refine ⟨?_, ?_⟩)))

def timeE (floor t most : Int) : Int := if t < floor then 30 else if most < t then 31 else 0

theorem volume_time_con (v : VOL) (t most : Int) : Con Try.prog 57 [.agg (volC v), I t, I most] [] (I (timeE v.floor t most)) [] := by
  refine C_volume_time (Nat.le_of_ble_eq_true rfl) (Nat.le_of_ble_eq_true rfl) ?_
  simp only [A_volume_time, argL, objL, List.length_nil, Nat.reduceAdd, Nat.zero_add, x_seq]
  refine aw_reg 16 (RG.go fun Q hQ => ?_)
  simp only [RX, eff, ev_t, ev_k, lk_cons, lkE_nil, setS_cons, setS_nil, setE_nil, AOp.isCall, setD, setEs, presOf, AOp.needs, SV.pre, SV.cells, idsOf, AOp.rds, AOp.ops, SV.ids, List.map_cons, List.map_nil, List.nil_append, true_and, and_self, Bool.false_eq_true, reduceCtorEq, Nat.reduceAdd, Nat.reduceEqDiff, ↓reduceIte, List.append_nil, volC, vC]
  repeat refine ⟨by (first | omega | (simp; omega) | (simp; done) | exact ⟨by omega, by omega⟩ | exact ⟨by omega, by simp; omega⟩ | exact ⟨by simp; omega, by simp; omega⟩ | exact ⟨by simp, by simp; omega⟩ | (intro h; rw [h]; rfl) | (intro h; refine ⟨fun h2 => ?_, h⟩; rw [h, h2]; rfl) | (intro h; refine ⟨?_, h⟩; simp [inR] at h; omega) | (intro h; simp [inR] at h; omega) | assumption), ?_⟩
  refine hQ _ _ _ _ _ (RG.nil ?_)
  try simp only [x_seq, x_block, x_tn]
  refine aw_reg 80 (RG.go fun Q hQ => ?_)
  simp only [RX, eff, ev_t, lk_cons, lkE_cons, setS_cons, setS_nil, AOp.isCall, setD, setEs, presOf, AOp.needs, SV.one?, SV.pre, binV, idsOf, AOp.rds, AOp.ops, SV.ids, C.ids0, List.getElem?_cons_zero, List.getElem?_cons_succ, Option.map_some, List.map_nil, List.nil_append, List.cons_append, true_and, and_self, Bool.false_eq_true, reduceCtorEq, Nat.reduceAdd, Nat.reduceEqDiff, ↓reduceIte, Nat.zero_add, List.append_nil]
  repeat refine ⟨by (first | omega | (simp; omega) | (simp; done) | exact ⟨by omega, by omega⟩ | exact ⟨by omega, by simp; omega⟩ | exact ⟨by simp; omega, by simp; omega⟩ | exact ⟨by simp, by simp; omega⟩ | (intro h; rw [h]; rfl) | (intro h; refine ⟨fun h2 => ?_, h⟩; rw [h, h2]; rfl) | (intro h; refine ⟨?_, h⟩; simp [inR] at h; omega) | (intro h; simp [inR] at h; omega) | assumption), ?_⟩
  refine hQ _ _ _ _ _ (RG.nil ?_)
  try simp only [x_tn]
  refine aw_cond _ rfl trivial (fun ht => ?_) (fun hf => ?_)
  · skip
    try simp only [x_seq]
    refine aw_reg 192 (RG.go fun Q hQ => ?_)
    simp only [RX, eff, ev_k, setS_cons, AOp.isCall, setD, setEs, presOf, AOp.needs, idsOf, AOp.rds, List.map_nil, List.nil_append, true_and, Bool.false_eq_true, reduceCtorEq, Nat.reduceAdd, Nat.reduceEqDiff, ↓reduceIte]
    repeat refine ⟨by (first | omega | (simp; omega) | (simp; done) | exact ⟨by omega, by omega⟩ | exact ⟨by omega, by simp; omega⟩ | exact ⟨by simp; omega, by simp; omega⟩ | exact ⟨by simp, by simp; omega⟩ | (intro h; rw [h]; rfl) | (intro h; refine ⟨fun h2 => ?_, h⟩; rw [h, h2]; rfl) | (intro h; refine ⟨?_, h⟩; simp [inR] at h; omega) | (intro h; simp [inR] at h; omega) | assumption), ?_⟩
    refine hQ _ _ _ _ _ (RG.nil ?_)
    try simp only [x_ret, x_tn, x_tr, x_br]
    refine Fin.i (.inr rfl) rfl trivial ?_
    unfold timeE; rw [if_pos (by simpa using ht)]
  have h1 : ¬ t < v.floor := by simpa using hf
  try simp only [x_seq]
  refine aw_reg 240 (RG.go fun Q hQ => ?_)
  simp only [RX, eff, ev_t, lk_cons, setS_cons, setS_nil, AOp.isCall, setD, setEs, presOf, AOp.needs, SV.one?, SV.pre, binV, idsOf, AOp.rds, AOp.ops, SV.ids, C.ids0, Option.map_some, List.map_nil, List.nil_append, true_and, and_self, Bool.false_eq_true, reduceCtorEq, gt_iff_lt, Nat.reduceAdd, Nat.reduceEqDiff, ↓reduceIte, List.append_nil]
  repeat refine ⟨by (first | omega | (simp; omega) | (simp; done) | exact ⟨by omega, by omega⟩ | exact ⟨by omega, by simp; omega⟩ | exact ⟨by simp; omega, by simp; omega⟩ | exact ⟨by simp, by simp; omega⟩ | (intro h; rw [h]; rfl) | (intro h; refine ⟨fun h2 => ?_, h⟩; rw [h, h2]; rfl) | (intro h; refine ⟨?_, h⟩; simp [inR] at h; omega) | (intro h; simp [inR] at h; omega) | assumption), ?_⟩
  refine hQ _ _ _ _ _ (RG.nil ?_)
  try simp only [x_tn]
  refine aw_cond _ rfl trivial (fun ht => ?_) (fun hf => ?_)
  · skip
    try simp only [x_seq]
    refine aw_reg 336 (RG.go fun Q hQ => ?_)
    simp only [RX, eff, ev_k, setS_cons, AOp.isCall, setD, setEs, presOf, AOp.needs, idsOf, AOp.rds, List.map_nil, List.nil_append, true_and, Bool.false_eq_true, reduceCtorEq, Nat.reduceAdd, Nat.reduceEqDiff, ↓reduceIte]
    repeat refine ⟨by (first | omega | (simp; omega) | (simp; done) | exact ⟨by omega, by omega⟩ | exact ⟨by omega, by simp; omega⟩ | exact ⟨by simp; omega, by simp; omega⟩ | exact ⟨by simp, by simp; omega⟩ | (intro h; rw [h]; rfl) | (intro h; refine ⟨fun h2 => ?_, h⟩; rw [h, h2]; rfl) | (intro h; refine ⟨?_, h⟩; simp [inR] at h; omega) | (intro h; simp [inR] at h; omega) | assumption), ?_⟩
    refine hQ _ _ _ _ _ (RG.nil ?_)
    try simp only [x_ret, x_tn, x_tr, x_br]
    refine Fin.i (.inr rfl) rfl trivial ?_
    unfold timeE; rw [if_neg h1, if_pos (by simpa using ht)]
  try simp only [x_seq, x_skip, x_tn, x_bn]
  refine aw_reg 384 (RG.go fun Q hQ => ?_)
  simp only [RX, eff, ev_k, setS_cons, AOp.isCall, setD, setEs, presOf, AOp.needs, idsOf, AOp.rds, List.map_nil, List.nil_append, true_and, Bool.false_eq_true, reduceCtorEq, Nat.reduceAdd, Nat.reduceEqDiff, ↓reduceIte]
  repeat refine ⟨by (first | omega | (simp; omega) | (simp; done) | exact ⟨by omega, by omega⟩ | exact ⟨by omega, by simp; omega⟩ | exact ⟨by simp; omega, by simp; omega⟩ | exact ⟨by simp, by simp; omega⟩ | (intro h; rw [h]; rfl) | (intro h; refine ⟨fun h2 => ?_, h⟩; rw [h, h2]; rfl) | (intro h; refine ⟨?_, h⟩; simp [inR] at h; omega) | (intro h; simp [inR] at h; omega) | assumption), ?_⟩
  refine hQ _ _ _ _ _ (RG.nil ?_)
  try simp only [x_ret, x_tn]
  refine Fin.i (.inr rfl) rfl trivial ?_
  unfold timeE; rw [if_neg h1, if_neg (by simpa using hf)]

def vO (v : VOL) (pins ws : C) : List C := [.v (.int .i64 v.id), .v (.int .i64 v.blocks), .v (.int .i64 v.size), .v (.int .i64 v.per), .sl (v.place.map nrow), .v (.int .i64 v.total), .v (.int .i64 v.next), .v (.bool v.hid), .v (.int .i64 v.floor), pins, ws]
def addW (v : VOL) (l : List IT) : VOL := { v with ws := v.ws ++ [⟨v.ws.length + 1, l⟩] }

theorem volume_write_yes (v : VOL) (l : List IT) (ok : Vok v) (hl : l.length ≤ 1000000) (hd : ∀ x ∈ l, x.d.length ≤ 1000000) (hr : itemsR v.blocks v.size l = true) :
    Con Try.prog 47 [.agg (vO v (.osl 0) (.osl 1)), .c (.sl (l.map irow))] [.arr 2 1 (v.pins.map nrow) false, .arr 55 2 (v.ws.map wrow) false] (.tup [.agg (vO v (.osl 0) (.osl 2)), I 0])
      [.arr 2 1 (v.pins.map nrow) false, .gone, .arr 55 2 ((addW v l).ws.map wrow) false] := by
  have cI := volume_ItemsRight_con v.blocks v.size l hl hd
  rw [hr] at cI
  obtain ⟨ok1, ok2, ok3, ok4⟩ := ok
  refine C_volume_write (Nat.le_of_ble_eq_true rfl) (Nat.le_of_ble_eq_true rfl) ?_
  simp only [A_volume_write, argL, objL, List.length_nil, List.length_cons, Nat.reduceAdd, Nat.zero_add, x_seq]
  refine aw_reg 16 (RG.go fun Q hQ => ?_)
  simp only [RX, eff, ev_t, ev_k, lk_cons, lkE_cons, lkE_nil, setS_cons, setS_nil, setE_cons, setE_nil, AOp.isCall, setD, setEs, presOf, AOp.needs, SV.pre, SV.cells, idsOf, AOp.rds, AOp.ops, SV.ids, List.map_cons, List.map_nil, List.nil_append, true_and, and_self, Bool.false_eq_true, reduceCtorEq, Nat.reduceAdd, Nat.reduceEqDiff, ↓reduceIte, List.append_nil, vO]
  repeat refine ⟨by (first | omega | (simp; omega) | (simp; done) | exact ⟨by omega, by omega⟩ | exact ⟨by omega, by simp; omega⟩ | exact ⟨by simp; omega, by simp; omega⟩ | exact ⟨by simp, by simp; omega⟩ | (intro h; rw [h]; rfl) | (intro h; refine ⟨fun h2 => ?_, h⟩; rw [h, h2]; rfl) | (intro h; refine ⟨?_, h⟩; simp [inR] at h; omega) | (intro h; simp [inR] at h; omega) | assumption), ?_⟩
  refine hQ _ _ _ _ _ (RG.nil ?_)
  try simp only [x_seq, x_tn]
  refine aw_reg 96 (RG.go fun Q hQ => ?_)
  simp only [RX, eff, ev_t, lk_cons, lkE_cons, setS_cons, setS_nil, AOp.isCall, setD, setEs, presOf, AOp.needs, SV.one?, SV.pre, idsOf, AOp.rds, AOp.ops, SV.ids, C.ids0, List.getElem?_cons_zero, List.getElem?_cons_succ, Option.map_some, List.map_nil, List.nil_append, List.cons_append, true_and, and_self, Bool.false_eq_true, reduceCtorEq, Nat.reduceAdd, Nat.reduceEqDiff, ↓reduceIte, Nat.zero_add, List.append_nil]
  repeat refine ⟨by (first | omega | (simp; omega) | (simp; done) | exact ⟨by omega, by omega⟩ | exact ⟨by omega, by simp; omega⟩ | exact ⟨by simp; omega, by simp; omega⟩ | exact ⟨by simp, by simp; omega⟩ | (intro h; rw [h]; rfl) | (intro h; refine ⟨fun h2 => ?_, h⟩; rw [h, h2]; rfl) | (intro h; refine ⟨?_, h⟩; simp [inR] at h; omega) | (intro h; simp [inR] at h; omega) | assumption), ?_⟩
  refine hQ _ _ _ _ _ ?_
  refine RG.call [] (cI) (by (repeat' (first | exact tr_nil | refine tr_cons ?_ ?_ | exact tr_v | exact tr_sl | exact tr_nils | exact tr_agg (by repeat' (first | exact trivial | rfl | exact rfl | refine ⟨?_, ?_⟩)) | exact tr_opt (by simpa using hg) tr_v | exact tr_opt (by simpa using hg) tr_sl | exact tr_opt (by simpa using hg) (tr_agg (by repeat' (first | exact trivial | rfl | exact rfl | refine ⟨?_, ?_⟩)))))) trivial (by (first | exact .inl trivial | exact .inr ⟨rfl, trivial⟩)) ?_
  refine RG.go fun Q hQ => ?_
  simp only [RX, eff, ev_t, lk_cons, setS_cons, setS_nil, AOp.isCall, setD, setEs, presOf, AOp.needs, SV.one?, SV.pre, unV, idsOf, AOp.rds, AOp.ops, SV.ids, C.ids0, Option.map_some, List.map_nil, List.nil_append, true_and, and_self, Bool.false_eq_true, Bool.not_true, reduceCtorEq, Nat.reduceAdd, Nat.reduceEqDiff, ↓reduceIte, List.append_nil]
  repeat refine ⟨by (first | omega | (simp; omega) | (simp; done) | exact ⟨by omega, by omega⟩ | exact ⟨by omega, by simp; omega⟩ | exact ⟨by simp; omega, by simp; omega⟩ | exact ⟨by simp, by simp; omega⟩ | (intro h; rw [h]; rfl) | (intro h; refine ⟨fun h2 => ?_, h⟩; rw [h, h2]; rfl) | (intro h; refine ⟨?_, h⟩; simp [inR] at h; omega) | (intro h; simp [inR] at h; omega) | assumption), ?_⟩
  refine hQ _ _ _ _ _ (RG.nil ?_)
  try simp only [x_tn]
  refine aw_cond _ rfl trivial (fun ht => by cases ht) (fun hf => ?_)
  try simp only [x_seq, x_skip, x_tn]
  refine aw_draw 320 (RG.go fun Q hQ => ?_)
  simp only [RX, eff, ev_t, lk_cons, lkE_cons, setS_cons, setS_nil, AOp.isCall, setD, setEs, presOf, AOp.needs, SV.one?, SV.pre, idsOf, AOp.rds, AOp.ops, SV.ids, C.ids0, List.take_succ_cons, List.take_zero, List.drop_zero, List.length_cons, List.length_nil, List.getElem?_cons_zero, List.getElem?_cons_succ, Option.map_some, List.map_nil, List.nil_append, List.cons_append, true_and, and_self, Bool.false_eq_true, reduceCtorEq, Nat.reduceAdd, Nat.reduceEqDiff, ↓reduceIte, Nat.zero_add, Nat.le_refl, List.append_nil]
  repeat refine ⟨by (first | omega | (simp; omega) | (simp; done) | exact ⟨by omega, by omega⟩ | exact ⟨by omega, by simp; omega⟩ | exact ⟨by simp; omega, by simp; omega⟩ | exact ⟨by simp, by simp; omega⟩ | (intro h; rw [h]; rfl) | (intro h; refine ⟨fun h2 => ?_, h⟩; rw [h, h2]; rfl) | (intro h; refine ⟨?_, h⟩; simp [inR] at h; omega) | (intro h; simp [inR] at h; omega) | assumption), ?_⟩
  refine hQ _ _ _ _ _ ?_
  refine RG.call [0, 1] (volume_Len_con v) (by (repeat' (first | exact tr_nil | refine tr_cons ?_ ?_ | exact tr_v | exact tr_sl | exact tr_nils | exact tr_agg (by (repeat' (first | exact trivial | rfl | exact rfl | (refine ⟨by simp, _, _, _, rfl, ?_⟩; (first | exact drows_brow _ | exact drows_nrow _ | exact drows_irow _ | exact drows_wrow _ | assumption | (simp [isDRows, brow, C.isD]; done) | (rw [← List.map_append]; first | exact drows_brow _ | exact drows_nrow _ | exact drows_irow _ | exact drows_wrow _))) | refine ⟨?_, ?_⟩))) | exact tr_view (by simp) rfl (by (first | exact drows_brow _ | exact drows_nrow _ | exact drows_irow _ | exact drows_wrow _ | assumption | (simp [isDRows, brow, C.isD]; done) | (rw [← List.map_append]; first | exact drows_brow _ | exact drows_nrow _ | exact drows_irow _ | exact drows_wrow _)))))) (by repeat' (first | exact trivial | refine views1 rfl ?_)) (by (first | exact .inl trivial | exact .inr ⟨rfl, trivial⟩)) ?_
  refine RG.go fun Q hQ => ?_
  simp only [RX, eff, ev_t, ev_k, lk_cons, setS_cons, setS_nil, AOp.isCall, setD, setEs, presOf, AOp.needs, SV.one?, SV.pre, binV, idsOf, AOp.rds, AOp.ops, SV.ids, C.ids0, Option.map_some, List.map_nil, List.nil_append, true_and, and_self, Bool.false_eq_true, reduceCtorEq, Nat.reduceAdd, Nat.reduceEqDiff, ↓reduceIte, List.append_nil]
  repeat refine ⟨by (first | omega | (simp; omega) | (simp; done) | exact ⟨by omega, by omega⟩ | exact ⟨by omega, by simp; omega⟩ | exact ⟨by simp; omega, by simp; omega⟩ | exact ⟨by simp, by simp; omega⟩ | (intro h; rw [h]; rfl) | (intro h; refine ⟨fun h2 => ?_, h⟩; rw [h, h2]; rfl) | (intro h; refine ⟨?_, h⟩; simp [inR] at h; omega) | (intro h; simp [inR] at h; omega) | assumption), ?_⟩
  refine hQ _ _ _ _ _ ?_
  refine RG.call [] (itemsD_con l hl hd) (by (repeat' (first | exact tr_nil | refine tr_cons ?_ ?_ | exact tr_v | exact tr_sl | exact tr_nils | exact tr_agg (by repeat' (first | exact trivial | rfl | exact rfl | refine ⟨?_, ?_⟩)) | exact tr_opt (by simpa using hg) tr_v | exact tr_opt (by simpa using hg) tr_sl | exact tr_opt (by simpa using hg) (tr_agg (by repeat' (first | exact trivial | rfl | exact rfl | refine ⟨?_, ?_⟩)))))) trivial (by (first | exact .inl trivial | exact .inr ⟨rfl, trivial⟩)) ?_
  refine RG.go fun Q hQ => ?_
  simp only [RX, eff, ev_t, lk_cons, lkE_cons, lkE_nil, setS_cons, setS_nil, setE_cons, setE_nil, AOp.isCall, setD, setEs, presOf, AOp.needs, SV.one?, SV.pre, SV.cells, idsOf, AOp.rds, AOp.ops, SV.ids, C.ids0, rowsOf, srcOf, bldFold, bSRows, splice, List.take_succ_cons, List.take_zero, List.drop_succ_cons, List.drop_zero, List.length_cons, List.length_nil, Option.map_some, List.map_cons, List.map_nil, List.nil_append, List.cons_append, true_and, and_self, Bool.false_eq_true, reduceCtorEq, Nat.reduceAdd, Nat.reduceEqDiff, Nat.reduceLeDiff, ↓reduceIte, Nat.zero_add, Nat.le_refl, List.append_nil]
  simp only [lenV, w64 ((v.ws.length : Int) + 1) (by omega) (by omega)]
  repeat refine ⟨by (first | omega | (simp; omega) | (simp; done) | exact ⟨by omega, by omega⟩ | exact ⟨by omega, by simp; omega⟩ | exact ⟨by simp; omega, by simp; omega⟩ | exact ⟨by simp, by simp; omega⟩ | (intro h; rw [h]; rfl) | (intro h; refine ⟨fun h2 => ?_, h⟩; rw [h, h2]; rfl) | (intro h; refine ⟨?_, h⟩; simp [inR] at h; omega) | (intro h; simp [inR] at h; omega) | assumption), ?_⟩
  refine hQ _ _ _ _ _ (RG.nil ⟨by decide +kernel, ?_⟩)
  try simp only [x_seq, x_tn]
  refine aw_reg 544 (RG.go fun Q hQ => ?_)
  simp only [RX, eff, ev_t, ev_k, lk_cons, lkE_cons, setS_cons, setS_nil, setE_cons, AOp.isCall, setD, setEs, presOf, AOp.needs, SV.one?, SV.pre, SV.cells, idsOf, AOp.rds, AOp.ops, SV.ids, C.ids0, splice, List.take_succ_cons, List.take_zero, List.drop_succ_cons, List.drop_zero, List.length_cons, List.length_nil, List.map_cons, List.map_nil, List.nil_append, List.cons_append, true_and, and_self, Bool.false_eq_true, reduceCtorEq, Nat.reduceAdd, Nat.reduceEqDiff, ↓reduceIte, Nat.zero_add, Nat.le_refl, List.append_nil]
  repeat refine ⟨by (first | omega | (simp; omega) | (simp; done) | exact ⟨by omega, by omega⟩ | exact ⟨by omega, by simp; omega⟩ | exact ⟨by simp; omega, by simp; omega⟩ | exact ⟨by simp, by simp; omega⟩ | (intro h; rw [h]; rfl) | (intro h; refine ⟨fun h2 => ?_, h⟩; rw [h, h2]; rfl) | (intro h; refine ⟨?_, h⟩; simp [inR] at h; omega) | (intro h; simp [inR] at h; omega) | assumption), ?_⟩
  refine hQ _ _ _ _ _ (RG.nil ?_)
  try simp only [x_ret, x_tn]
  refine Fin.objs [] [(2, 464)] (.inr rfl) rfl (by first | exact trivial | exact ⟨trivial, trivial⟩ | exact ⟨trivial, trivial, trivial⟩) ?_ ?_ (by simp [objL, rlook]) (by first | (simp [objL, rlook]; done) | (intro k hk; simp [objL, rlook]; omega))
  · simp only [mkSt_sl, lk_cons, lkE_cons, lkE_nil, WkSV, WkSV1, WkC, WkC0, TrL, rlook, frzEs, objL, Nat.reduceAdd, Nat.zero_add, Nat.reduceEqDiff, ↓reduceIte, reduceCtorEq, and_true, ne_eq]
    all_goals ((repeat' (first | exact trivial | rfl | exact rfl | (refine ⟨⟨_, _, rfl⟩, ?_⟩; (first | exact drows_brow _ | exact drows_nrow _ | exact drows_irow _ | exact drows_wrow _ | assumption | (simp [isDRows, brow, C.isD]; done) | (rw [← List.map_append]; first | exact drows_brow _ | exact drows_nrow _ | exact drows_irow _ | exact drows_wrow _))) | (simp; done) | refine ⟨?_, ?_⟩)))
  · simp only [allL, lkE_cons, lkE_nil, WkEnt, rlook, frzEs, objL, isDRows, Option.some.injEq, Nat.reduceAdd, Nat.zero_add, Nat.reduceEqDiff, ↓reduceIte, reduceCtorEq, true_and, and_true, exists_eq_left', ne_eq, true_or]
    all_goals (exact ⟨drows_nrow _, ⟨by simp [addW, wrow, wrC], drows_wrow _⟩⟩)

theorem volume_write_no (v : VOL) (l : List IT) (ok : Vok v) (hl : l.length ≤ 1000000) (hd : ∀ x ∈ l, x.d.length ≤ 1000000) (hr : itemsR v.blocks v.size l = false) :
    Con Try.prog 47 [.agg (vO v (.osl 0) (.osl 1)), .c (.sl (l.map irow))] [.arr 2 1 (v.pins.map nrow) false, .arr 55 2 (v.ws.map wrow) false] (.tup [.agg (vO v (.osl 0) (.osl 1)), I 23])
      [.arr 2 1 (v.pins.map nrow) false, .arr 55 2 (v.ws.map wrow) false] := by
  have cI := volume_ItemsRight_con v.blocks v.size l hl hd
  rw [hr] at cI
  refine C_volume_write (Nat.le_of_ble_eq_true rfl) (Nat.le_of_ble_eq_true rfl) ?_
  simp only [A_volume_write, argL, objL, List.length_nil, List.length_cons, Nat.reduceAdd, Nat.zero_add, x_seq]
  refine aw_reg 16 (RG.go fun Q hQ => ?_)
  simp only [RX, eff, ev_t, ev_k, lk_cons, lkE_cons, lkE_nil, setS_cons, setS_nil, setE_cons, setE_nil, AOp.isCall, setD, setEs, presOf, AOp.needs, SV.pre, SV.cells, idsOf, AOp.rds, AOp.ops, SV.ids, List.map_cons, List.map_nil, List.nil_append, true_and, and_self, Bool.false_eq_true, reduceCtorEq, Nat.reduceAdd, Nat.reduceEqDiff, ↓reduceIte, List.append_nil, vO]
  repeat refine ⟨by (first | omega | (simp; omega) | (simp; done) | exact ⟨by omega, by omega⟩ | exact ⟨by omega, by simp; omega⟩ | exact ⟨by simp; omega, by simp; omega⟩ | exact ⟨by simp, by simp; omega⟩ | (intro h; rw [h]; rfl) | (intro h; refine ⟨fun h2 => ?_, h⟩; rw [h, h2]; rfl) | (intro h; refine ⟨?_, h⟩; simp [inR] at h; omega) | (intro h; simp [inR] at h; omega) | assumption), ?_⟩
  refine hQ _ _ _ _ _ (RG.nil ?_)
  try simp only [x_seq, x_tn]
  refine aw_reg 96 (RG.go fun Q hQ => ?_)
  simp only [RX, eff, ev_t, lk_cons, lkE_cons, setS_cons, setS_nil, AOp.isCall, setD, setEs, presOf, AOp.needs, SV.one?, SV.pre, idsOf, AOp.rds, AOp.ops, SV.ids, C.ids0, List.getElem?_cons_zero, List.getElem?_cons_succ, Option.map_some, List.map_nil, List.nil_append, List.cons_append, true_and, and_self, Bool.false_eq_true, reduceCtorEq, Nat.reduceAdd, Nat.reduceEqDiff, ↓reduceIte, Nat.zero_add, List.append_nil]
  repeat refine ⟨by (first | omega | (simp; omega) | (simp; done) | exact ⟨by omega, by omega⟩ | exact ⟨by omega, by simp; omega⟩ | exact ⟨by simp; omega, by simp; omega⟩ | exact ⟨by simp, by simp; omega⟩ | (intro h; rw [h]; rfl) | (intro h; refine ⟨fun h2 => ?_, h⟩; rw [h, h2]; rfl) | (intro h; refine ⟨?_, h⟩; simp [inR] at h; omega) | (intro h; simp [inR] at h; omega) | assumption), ?_⟩
  refine hQ _ _ _ _ _ ?_
  refine RG.call [] (cI) (by (repeat' (first | exact tr_nil | refine tr_cons ?_ ?_ | exact tr_v | exact tr_sl | exact tr_nils | exact tr_agg (by repeat' (first | exact trivial | rfl | exact rfl | refine ⟨?_, ?_⟩)) | exact tr_opt (by simpa using hg) tr_v | exact tr_opt (by simpa using hg) tr_sl | exact tr_opt (by simpa using hg) (tr_agg (by repeat' (first | exact trivial | rfl | exact rfl | refine ⟨?_, ?_⟩)))))) trivial (by (first | exact .inl trivial | exact .inr ⟨rfl, trivial⟩)) ?_
  refine RG.go fun Q hQ => ?_
  simp only [RX, eff, ev_t, lk_cons, setS_cons, setS_nil, AOp.isCall, setD, setEs, presOf, AOp.needs, SV.one?, SV.pre, unV, idsOf, AOp.rds, AOp.ops, SV.ids, C.ids0, Option.map_some, List.map_nil, List.nil_append, true_and, and_self, Bool.false_eq_true, Bool.not_false, reduceCtorEq, Nat.reduceAdd, Nat.reduceEqDiff, ↓reduceIte, List.append_nil]
  repeat refine ⟨by (first | omega | (simp; omega) | (simp; done) | exact ⟨by omega, by omega⟩ | exact ⟨by omega, by simp; omega⟩ | exact ⟨by simp; omega, by simp; omega⟩ | exact ⟨by simp, by simp; omega⟩ | (intro h; rw [h]; rfl) | (intro h; refine ⟨fun h2 => ?_, h⟩; rw [h, h2]; rfl) | (intro h; refine ⟨?_, h⟩; simp [inR] at h; omega) | (intro h; simp [inR] at h; omega) | assumption), ?_⟩
  refine hQ _ _ _ _ _ (RG.nil ?_)
  try simp only [x_tn]
  refine aw_cond _ rfl trivial (fun ht => ?_) (fun hf => by cases hf)
  try simp only [x_seq]
  refine aw_reg 320 (RG.go fun Q hQ => ?_)
  simp only [RX, eff, ev_t, ev_k, lk_cons, lkE_cons, setS_cons, setS_nil, setE_cons, AOp.isCall, setD, setEs, presOf, AOp.needs, SV.one?, SV.pre, SV.cells, idsOf, AOp.rds, AOp.ops, SV.ids, C.ids0, splice, List.take_succ_cons, List.take_zero, List.drop_succ_cons, List.drop_zero, List.length_cons, List.length_nil, List.map_cons, List.map_nil, List.nil_append, List.cons_append, true_and, and_self, Bool.false_eq_true, reduceCtorEq, Nat.reduceAdd, Nat.reduceEqDiff, ↓reduceIte, Nat.zero_add, Nat.le_refl, List.append_nil]
  repeat refine ⟨by (first | omega | (simp; omega) | (simp; done) | exact ⟨by omega, by omega⟩ | exact ⟨by omega, by simp; omega⟩ | exact ⟨by simp; omega, by simp; omega⟩ | exact ⟨by simp, by simp; omega⟩ | (intro h; rw [h]; rfl) | (intro h; refine ⟨fun h2 => ?_, h⟩; rw [h, h2]; rfl) | (intro h; refine ⟨?_, h⟩; simp [inR] at h; omega) | (intro h; simp [inR] at h; omega) | assumption), ?_⟩
  refine hQ _ _ _ _ _ (RG.nil ?_)
  try simp only [x_ret, x_tn, x_tr]
  refine Fin.objs [] [] (.inr rfl) rfl (by first | exact trivial | exact ⟨trivial, trivial⟩ | exact ⟨trivial, trivial, trivial⟩) ?_ ?_ (by simp [objL, rlook]) (by first | (simp [objL, rlook]; done) | (intro k hk; simp [objL, rlook]; omega))
  · simp only [mkSt_sl, lk_cons, lkE_cons, lkE_nil, WkSV, WkSV1, WkC, WkC0, TrL, rlook, frzEs, objL, Nat.zero_add, Nat.reduceEqDiff, ↓reduceIte, reduceCtorEq, and_true, ne_eq]
    all_goals ((repeat' (first | exact trivial | rfl | exact rfl | (refine ⟨⟨_, _, rfl⟩, ?_⟩; (first | exact drows_brow _ | exact drows_nrow _ | exact drows_irow _ | exact drows_wrow _ | assumption | (simp [isDRows, brow, C.isD]; done) | (rw [← List.map_append]; first | exact drows_brow _ | exact drows_nrow _ | exact drows_irow _ | exact drows_wrow _))) | (simp; done) | refine ⟨?_, ?_⟩)))
  · simp only [allL, lkE_cons, lkE_nil, WkEnt, rlook, frzEs, objL, isDRows, Option.some.injEq, Nat.zero_add, ↓reduceIte, reduceCtorEq, true_and, and_true, exists_eq_left', ne_eq, true_or]
    all_goals (exact ⟨drows_nrow _, drows_wrow _⟩)


end Go.Abs

