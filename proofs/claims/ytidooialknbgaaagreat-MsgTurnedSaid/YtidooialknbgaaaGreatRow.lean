/- From what a function is said to do to its row. No condition. -/
import Derived.Test.YtidooialknbgaaaGreatConc
import Derived.Test.YtidooialknbgaaaGreatRows
import Derived.WalkKit
import Derived.ProofKit
import Derived.OpenShut
import Derived.ShutString
import Derived.ChangeOld
import Derived.Below
set_option linter.unusedVariables false
set_option linter.unusedSimpArgs false
set_option linter.unnecessarySimpa false
namespace Go.Abs
open Go Go.Proofs
open Go.ChangeShapes Go.WideShapes Go.ChangeAt Go.RowKit

theorem Con.law {P : Program} {f : FuncId} {args : List SV} (h : Con P f args [] (B true) []) {vs : Array Value} {w : World} (hs : vs.size = args.length)
  (ha : ∀ (j : Nat) (s : SV) (v : Value),args[j]? = some s→vs[j]? = some v→ArgOk w s v) :
  Calls P f vs w fun e w'=>e = .returned (.bool true)∧Below w.heap.size w w':=by
 have hle : ∀ b,b < w.heap.size→okOf (groundOf (fun b=>b < w.heap.size) (fun _=>none) [] w).okb (groundOf (fun b=>b < w.heap.size) (fun _=>none) [] w).B w.heap.size (fun _=>none) (stOf args []).σ b:=fun b hb =>
  ⟨.inl (.inl hb),hb,fun id e he=>by simp [stOf] at he⟩
 have hE : Env.Le { h:=w.heap,ok:=fun b=>b < w.heap.size,m:=fun _=>none,σ:=fun _=>none } ((groundOf (fun b=>b < w.heap.size) (fun _=>none) [] w).env (fun _=>none) (stOf args []) w) :=
  ⟨fun b hb=>⟨hle b hb,rfl⟩,fun id a ha=>(by cases ha),fun id E s rows fz b cur ha=>(by cases ha)⟩
 have hR : R (groundOf (fun b=>b < w.heap.size) (fun _=>none) [] w) (fun _=>none) (stOf args []) vs w:=by
  refine ⟨Frame0.refl _ _,fun t=>?_,fun id e he=>by simp [stOf] at he,fun id e b he=>by simp [stOf] at he,fun id id' e e' b he=>by simp [stOf] at he,fun b hb=>⟨hb,fun ⟨i,hi,_⟩=>by simp at hi⟩,fun k e0 hk=>by simp [groundOf] at hk⟩
  show RSV _ (args.getD t .dead) _
  rcases Nat.lt_or_ge t args.length with ht | ht
  ·have h1 : args[t]? = some args[t]:=List.getElem?_eq_getElem ht
   have h2 : vs[t]? = some (vs[t]'(by omega)):=Array.getElem?_eq_getElem (by omega)
   have:=ha t _ _ h1 h2
   rw [show args.getD t .dead = args[t] by simp [List.getD,h1],show vs.getD t undef = vs[t]'(by omega) by simp [Array.getD_eq_getD_getElem?,h2]]
   exact RSV.le hE this
  ·rw [show args.getD t .dead = .dead by simp [List.getD,List.getElem?_eq_none ht]]
   trivial
 refine (h.2.2 _ _ w vs hs hR).mono ?_
 rintro e w' ⟨v,m',rfl,hb,hres⟩
 have hv:=rc_v (show RC _ (.v (.bool true)) v from hres)
 refine ⟨by rw [hv],hb.frame.os,hb.frame.tape,hb.frame.output,hb.frame.size,fun k hk=>hb.frame.block k hk fun ⟨i,hi,_⟩=>by simp at hi⟩


theorem Arg.u8 {P : Program} {t : TypeId} (ht : P.underlying t = some (.int .u8)) : Arg P t (fun n : Nat=>.v (.int .u8 n)) (fun n=>n < 256) :=
 (Arg.int ht).map Int.toNat (fun a h=>by simp [Lit.wf,IntKind.min,IntKind.max,IntKind.signed,IntKind.bits] at h;rw [Int.toNat_of_nonneg h.1])
  fun a h=>by simp [Lit.wf,IntKind.min,IntKind.max,IntKind.signed,IntKind.bits] at h;omega
def ArgFw (P : Program) (fs : List Field) (off n : Nat) {α : Type} (row : α→List C) (ok : α→Prop) : Prop :=
 ∀ (H : Type) (enc : TypeId × Value→H) (w : World) (spare : Nat→Bool) (held : Bool) (fuel : Nat) (cs : List Value),cs.length = off + n →
  (∀ f ∈ fs,∃ x,DataW.trod enc P w 0 spare held fuel f.type ((cs.drop f.offset).take (P.cellsOf f.type)) = some x)→∃ a,ok a∧RL (RD w.heap (fun b=>b < w.heap.size)) (row a) (cs.drop off)
theorem ArgFw.nil {P : Program} {off : Nat} : ArgFw P [] off 0 (fun _ : Unit=>[]) (fun _=>True):=by
 intro H enc w spare held fuel cs hl _
 refine ⟨(),trivial,?_⟩
 rw [List.drop_eq_nil_of_le (by omega)]
 exact ⟨rfl,fun i c v hc=>by cases hc⟩
theorem arg_u8 : Arg Tryz.prog 5 (fun n : Nat=>.v (.int .u8 n)) (fun n=>n < 256):=Arg.u8 Tryz.underlying5
theorem arg_u16 : Arg Tryz.prog 43 (fun n : Nat=>.v (.int .u16 n)) (fun n=>n < 65536) :=
 (Arg.int Tryz.underlying43).map Int.toNat (fun a h=>by simp [Lit.wf,IntKind.min,IntKind.max,IntKind.signed,IntKind.bits] at h;rw [Int.toNat_of_nonneg h.1])
  fun a h=>by simp [Lit.wf,IntKind.min,IntKind.max,IntKind.signed,IntKind.bits] at h;omega
theorem arg_u32 : Arg Tryz.prog 49 (fun n : Nat=>.v (.int .u32 n)) (fun n=>n < 4294967296) :=
 (Arg.int Tryz.underlying49).map Int.toNat (fun a h=>by simp [Lit.wf,IntKind.min,IntKind.max,IntKind.signed,IntKind.bits] at h;rw [Int.toNat_of_nonneg h.1])
  fun a h=>by simp [Lit.wf,IntKind.min,IntKind.max,IntKind.signed,IntKind.bits] at h;omega
end Go.Abs

