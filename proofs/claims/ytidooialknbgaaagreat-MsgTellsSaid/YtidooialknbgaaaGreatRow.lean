/- From what a function is said to do to its row. No condition. -/
import Derived.Test.YtidooialknbgaaaGreatConc
import Derived.Test.YtidooialknbgaaaGreatRows
import Derived.WalkKit
import Derived.ProofKit
import Derived.OpenShut
import Derived.ShutString
import Derived.ChangeOld
import Derived.Below
set_option linter.unusedVariables false
set_option linter.unusedSimpArgs false
set_option linter.unnecessarySimpa false
namespace Go.Abs
open Go Go.Proofs
open Go.ChangeShapes Go.WideShapes Go.ChangeAt Go.RowKit

theorem Con.law {P : Program} {f : FuncId} {args : List SV} (h : Con P f args [] (B true) []) {vs : Array Value} {w : World} (hs : vs.size = args.length)
  (ha : ∀ (j : Nat) (s : SV) (v : Value),args[j]? = some s→vs[j]? = some v→ArgOk w s v) :
  Calls P f vs w fun e w'=>e = .returned (.bool true)∧Below w.heap.size w w':=by
 have hle : ∀ b,b < w.heap.size→okOf (groundOf (fun b=>b < w.heap.size) (fun _=>none) [] w).okb (groundOf (fun b=>b < w.heap.size) (fun _=>none) [] w).B w.heap.size (fun _=>none) (stOf args []).σ b:=fun b hb =>
  ⟨.inl (.inl hb),hb,fun id e he=>by simp [stOf] at he⟩
 have hE : Env.Le { h:=w.heap,ok:=fun b=>b < w.heap.size,m:=fun _=>none,σ:=fun _=>none } ((groundOf (fun b=>b < w.heap.size) (fun _=>none) [] w).env (fun _=>none) (stOf args []) w) :=
  ⟨fun b hb=>⟨hle b hb,rfl⟩,fun id a ha=>(by cases ha),fun id E s rows fz b cur ha=>(by cases ha)⟩
 have hR : R (groundOf (fun b=>b < w.heap.size) (fun _=>none) [] w) (fun _=>none) (stOf args []) vs w:=by
  refine ⟨Frame0.refl _ _,fun t=>?_,fun id e he=>by simp [stOf] at he,fun id e b he=>by simp [stOf] at he,fun id id' e e' b he=>by simp [stOf] at he,fun b hb=>⟨hb,fun ⟨i,hi,_⟩=>by simp at hi⟩,fun k e0 hk=>by simp [groundOf] at hk⟩
  show RSV _ (args.getD t .dead) _
  rcases Nat.lt_or_ge t args.length with ht | ht
  ·have h1 : args[t]? = some args[t]:=List.getElem?_eq_getElem ht
   have h2 : vs[t]? = some (vs[t]'(by omega)):=Array.getElem?_eq_getElem (by omega)
   have:=ha t _ _ h1 h2
   rw [show args.getD t .dead = args[t] by simp [List.getD,h1],show vs.getD t undef = vs[t]'(by omega) by simp [Array.getD_eq_getD_getElem?,h2]]
   exact RSV.le hE this
  ·rw [show args.getD t .dead = .dead by simp [List.getD,List.getElem?_eq_none ht]]
   trivial
 refine (h.2.2 _ _ w vs hs hR).mono ?_
 rintro e w' ⟨v,m',rfl,hb,hres⟩
 have hv:=rc_v (show RC _ (.v (.bool true)) v from hres)
 refine ⟨by rw [hv],hb.frame.os,hb.frame.tape,hb.frame.output,hb.frame.size,fun k hk=>hb.frame.block k hk fun ⟨i,hi,_⟩=>by simp at hi⟩


theorem Arg.u8 {P : Program} {t : TypeId} (ht : P.underlying t = some (.int .u8)) : Arg P t (fun n : Nat=>.v (.int .u8 n)) (fun n=>n < 256) :=
 (Arg.int ht).map Int.toNat (fun a h=>by simp [Lit.wf,IntKind.min,IntKind.max,IntKind.signed,IntKind.bits] at h;rw [Int.toNat_of_nonneg h.1])
  fun a h=>by simp [Lit.wf,IntKind.min,IntKind.max,IntKind.signed,IntKind.bits] at h;omega
theorem Arg.bytes {P : Program} {t e : TypeId} (ht : P.underlying t = some (.slice e)) (he : P.underlying e = some (.int .u8)) (hc : P.cellsOf e = 1) : Arg P t (fun l : List Nat=>.sl (l.map brow)) (fun l=>(∀ c ∈ l,c < 256)∧l.length≤9223372036854775807) :=
 Arg.slice ht hc (by decide) (Arg.u8 he).row

def ArgFw (P : Program) (fs : List Field) (off n : Nat) {α : Type} (row : α→List C) (ok : α→Prop) : Prop :=
 ∀ (H : Type) (enc : TypeId × Value→H) (w : World) (spare : Nat→Bool) (held : Bool) (fuel : Nat) (cs : List Value),cs.length = off + n →
  (∀ f ∈ fs,∃ x,DataW.trod enc P w 0 spare held fuel f.type ((cs.drop f.offset).take (P.cellsOf f.type)) = some x)→∃ a,ok a∧RL (RD w.heap (fun b=>b < w.heap.size)) (row a) (cs.drop off)
theorem RL.app2 {R : C→Value→Prop} {a b : List C} {u v : List Value} (h1 : RL R a u) (h2 : RL R b v) : RL R (a ++ b) (u ++ v):=by
 obtain ⟨l1,r1⟩:=h1
 obtain ⟨l2,r2⟩:=h2
 refine ⟨by simp [l1,l2],fun i c x hc hx=>?_⟩
 by_cases h : i < a.length
 ·rw [List.getElem?_append_left h] at hc
  rw [List.getElem?_append_left (by omega)] at hx
  exact r1 i c x hc hx
 ·rw [List.getElem?_append_right (by omega)] at hc
  rw [List.getElem?_append_right (by omega),← l1] at hx
  exact r2 _ c x hc hx
theorem ArgFw.nil {P : Program} {off : Nat} : ArgFw P [] off 0 (fun _ : Unit=>[]) (fun _=>True):=by
 intro H enc w spare held fuel cs hl _
 refine ⟨(),trivial,?_⟩
 rw [List.drop_eq_nil_of_le (by omega)]
 exact ⟨rfl,fun i c v hc=>by cases hc⟩
theorem ArgFw.cons {P : Program} {f : Field} {fs : List Field} {off s n : Nat} {α β : Type} {g : α→List C} {ok : α→Prop} {row : β→List C} {ok' : β→Prop} (ho : f.offset = off) (hc : P.cellsOf f.type = s) (h : ArgRow P f.type s g ok) (hs : ArgFw P fs (off + s) n row ok') :
  ArgFw P (f :: fs) off (s + n) (fun p : α × β=>g p.1 ++ row p.2) (fun p=>ok p.1∧ok' p.2):=by
 intro H enc w spare held fuel cs hl hx
 obtain ⟨x,hx0⟩:=hx f (by simp)
 rw [ho,hc] at hx0
 obtain ⟨a,ha,hr⟩:=h H enc w spare held fuel _ x (by simp;omega) hx0
 obtain ⟨b,hb,hr2⟩:=hs H enc w spare held fuel cs (by omega) (fun y hy=>hx y (by simp [hy]))
 refine ⟨(a,b),⟨ha,hb⟩,?_⟩
 have e : cs.drop off = (cs.drop off).take s ++ cs.drop (off + s):=by rw [← List.drop_drop,List.take_append_drop]
 rw [e]
 exact hr.app2 hr2
theorem ArgRow.wide {P : Program} {t : TypeId} {fs : Array Field} {n : Nat} {α : Type} {row : α→List C} {ok : α→Prop} (ht : P.underlying t = some (.struct fs)) (h : ArgFw P fs.toList 0 n row ok) : ArgRow P t n row ok:=by
 intro H enc w spare held fuel cs x hs hx
 obtain ⟨xs,m,_,_,hl,hlen,hf⟩:=DataW.trod_struct ht hx
 obtain ⟨a,ha,hr⟩:=h H enc w spare held m cs (by omega) (fun f hm=>by
  obtain ⟨i,hi,rfl⟩:=List.getElem_of_mem hm
  have hi' : i < fs.size:=by simpa using hi
  have:=hf i _ (by rw [Array.getElem?_eq_getElem hi'])
  have hx2 : i < xs.length:=by omega
  exact ⟨xs[i],by simpa [hx2] using this⟩)
 exact ⟨a,ha,by simpa using hr⟩
theorem arg_int : Arg Tryz.prog 3 (fun n : Int=>.v (.int .i64 n)) (fun _=>True):=(Arg.int Tryz.underlying3).map id (fun _ _=>rfl) fun _ _=>trivial
theorem arg_i64 : Arg Tryz.prog 2 (fun n : Int=>.v (.int .i64 n)) (fun _=>True):=(Arg.int Tryz.underlying2).map id (fun _ _=>rfl) fun _ _=>trivial
theorem arg_bool : Arg Tryz.prog 4 (fun b : Bool=>.v (.bool b)) (fun _=>True):=Arg.bool Tryz.underlying4
theorem arg_u8 : Arg Tryz.prog 5 (fun n : Nat=>.v (.int .u8 n)) (fun n=>n < 256):=Arg.u8 Tryz.underlying5
theorem arg_bytes : Arg Tryz.prog 24 (fun l : List Nat=>.sl (l.map brow)) (fun l=>(∀ c ∈ l,c < 256)∧l.length≤9223372036854775807):=Arg.bytes Tryz.underlying24 Tryz.underlying5 (by kernel_rfl)
theorem arg_ints : Arg Tryz.prog 23 (fun l : List Int=>.sl (l.map nrow)) (fun _=>True) :=
 (Arg.slice Tryz.underlying23 (by kernel_rfl) (by decide) arg_int.row).map id (fun _ _=>rfl) fun _ _=>trivial
theorem arg_entry : ArgRow Tryz.prog 58 4 erow (fun e=>∀ c ∈ e.d,c < 256) :=
 (ArgRow.struct Tryz.underlying58 rfl (by kernel_rfl) (.cons arg_int (.cons arg_int (.cons arg_int (.cons arg_bytes .nil))))).map (fun p=>(⟨p.1,p.2.1,p.2.2.1,p.2.2.2.1⟩ : EN)) (fun _ _=>rfl) fun _ h=>h.2.2.2.1.1
theorem arg_entries : Arg Tryz.prog 22 (fun l : List EN=>.sl (l.map erow)) (fun l=>∀ e ∈ l,∀ c ∈ e.d,c < 256) :=
 (Arg.slice Tryz.underlying22 (by kernel_rfl) (by decide) arg_entry).map id (fun _ _=>rfl) fun _ h=>h.1
theorem arg_base : ArgRow Tryz.prog 26 4 (fun p : Int × Int × List Int × List Nat=>basC p.1 p.2.1 p.2.2.1 p.2.2.2) (fun p=>∀ c ∈ p.2.2.2,c < 256) :=
 (ArgRow.struct Tryz.underlying26 rfl (by kernel_rfl) (.cons arg_int (.cons arg_int (.cons arg_ints (.cons arg_bytes .nil))))).map (fun p=>(p.1,p.2.1,p.2.2.1,p.2.2.2.1)) (fun _ _=>rfl) fun _ h=>h.2.2.2.1.1
theorem arg_msg : ArgRow Tryz.prog 28 19 msgC byM :=
 (ArgRow.wide Tryz.underlying28 (.cons rfl (by kernel_rfl) arg_int.row (.cons rfl (by kernel_rfl) arg_int.row (.cons rfl (by kernel_rfl) arg_int.row (.cons rfl (by kernel_rfl) arg_int.row (.cons rfl (by kernel_rfl) arg_int.row (.cons rfl (by kernel_rfl) arg_int.row (.cons rfl (by kernel_rfl) arg_int.row (.cons rfl (by kernel_rfl) arg_int.row (.cons rfl (by kernel_rfl) arg_bool.row (.cons rfl (by kernel_rfl) arg_entries.row (.cons rfl (by kernel_rfl) arg_base (.cons rfl (by kernel_rfl) arg_bytes.row (.cons rfl (by kernel_rfl) arg_int.row (.cons rfl (by kernel_rfl) arg_int.row (.cons rfl (by kernel_rfl) arg_i64.row (.cons rfl (by kernel_rfl) arg_i64.row .nil))))))))))))))))).map
  (fun p=>(⟨p.1,p.2.1,p.2.2.1,p.2.2.2.1,p.2.2.2.2.1,p.2.2.2.2.2.1,p.2.2.2.2.2.2.1,p.2.2.2.2.2.2.2.1,p.2.2.2.2.2.2.2.2.1,p.2.2.2.2.2.2.2.2.2.1,p.2.2.2.2.2.2.2.2.2.2.1.1,p.2.2.2.2.2.2.2.2.2.2.1.2.1,p.2.2.2.2.2.2.2.2.2.2.1.2.2.1,p.2.2.2.2.2.2.2.2.2.2.1.2.2.2,p.2.2.2.2.2.2.2.2.2.2.2.1,p.2.2.2.2.2.2.2.2.2.2.2.2.1,p.2.2.2.2.2.2.2.2.2.2.2.2.2.1,p.2.2.2.2.2.2.2.2.2.2.2.2.2.2.1,p.2.2.2.2.2.2.2.2.2.2.2.2.2.2.2.1⟩ : MG)) (fun _ _=>rfl)
  fun _ h=>⟨h.2.2.2.2.2.2.2.2.2.1,h.2.2.2.2.2.2.2.2.2.2.1,h.2.2.2.2.2.2.2.2.2.2.2.1.1⟩

end Go.Abs

