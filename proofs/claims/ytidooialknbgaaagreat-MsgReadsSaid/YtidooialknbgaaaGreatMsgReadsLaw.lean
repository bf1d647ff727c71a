/- MsgReads answers true whatever its input, and the input reads as it did. No condition. -/
import Derived.Test.YtidooialknbgaaaGreatRows
import Derived.Test.YtidooialknbgaaaGreatRow
import Derived.WalkKit
import Derived.ProofKit
import Derived.OpenShut
import Derived.ShutString
import Derived.ChangeOld
import Derived.Below
import Derived.Lib.SmallJoins
set_option linter.unusedVariables false
set_option linter.unusedSimpArgs false
set_option linter.unnecessarySimpa false
namespace Go.Proofs.YtidooialknbgaaaGreat.msgReads
open Go.ChangeShapes Go.WideShapes Go.ChangeAt Go.RowKit
open Go.ChangeMaps (open_string shut_string)
set_option linter.unusedVariables false

theorem own : ownKnob Tryz.prog.godebug = none:=by kernel_rfl
theorem laidOut : laidOutB Tryz.prog = true:=by kernel_rfl

set_option maxRecDepth 100000 in
theorem lifted (os : Os) (started : os.Started) (H : Type) (enc : TypeId × Value→H) :
  ReturnsInHanded {} Tryz.checked os 4 .any (Rows.msgReadsSpec.pre6 enc Tryz.prog Tryz.f4 Rows.msgReadsRow.domain false) (Rows.msgReadsSpec.post enc Tryz.prog Tryz.f4 false true false false):=by
 refine returnsInHanded_of_change (C:=Tryz.checked) own started (by kernel_rfl) Tryz.func4
  (ChangeSpec.witness6 (enc:=enc) (C:=Tryz.checked) false ⟨#[],#[.slice none 0 0,.int .u8 0,.int .u8 0,.int .u8 0,.int .u8 0,.int .u8 0,.int .u16 0,.int .u8 0],[]⟩ 8 (by kernel_rfl) (by kernel_rfl) (by kernel_rfl) (by kernel_rfl)) ?_
 intro W base args ds gs before hval0 hW hcnd _
 have hval : ∀ (j : Nat) t v,Tryz.f4.params[j]? = some t→args[j]? = some v→Value.okWide Tryz.prog W .any base t v:=hval0
 have hW':=hW
 obtain ⟨p,q,hA0,hV,rfl,hfz,hnd⟩:=hW
 have hA : DataW.TrodAll enc Tryz.prog W 0 (fun _=>true) true Tryz.f4.params.toList args.toList ds p:=hA0
 rw [Tryz.params4] at hA hval
 obtain ⟨v0,vs0,d0,ds0,p0,q0,hargs,rfl,rfl,h0,r0⟩:=trodAll_cons hA
 obtain ⟨v1,vs1,d1,ds1,p1,q1,rfl,rfl,rfl,h1,r1⟩:=trodAll_cons r0
 obtain ⟨v2,vs2,d2,ds2,p2,q2,rfl,rfl,rfl,h2,r2⟩:=trodAll_cons r1
 obtain ⟨v3,vs3,d3,ds3,p3,q3,rfl,rfl,rfl,h3,r3⟩:=trodAll_cons r2
 obtain ⟨v4,vs4,d4,ds4,p4,q4,rfl,rfl,rfl,h4,r4⟩:=trodAll_cons r3
 obtain ⟨v5,vs5,d5,ds5,p5,q5,rfl,rfl,rfl,h5,r5⟩:=trodAll_cons r4
 obtain ⟨v6,vs6,d6,ds6,p6,q6,rfl,rfl,rfl,h6,r6⟩:=trodAll_cons r5
 obtain ⟨v7,vs7,d7,ds7,p7,q7,rfl,rfl,rfl,h7,r7⟩:=trodAll_cons r6
 obtain ⟨rfl,rfl,rfl⟩:=trodAll_nil r7
 obtain rfl : args = #[v0,v1,v2,v3,v4,v5,v6,v7]:=by cases args;simp_all
 obtain ⟨rfl,rfl⟩:=trodVars_none hV
 have k0:=h0
 have lt0 : ∀ x ∈ p0,x.block < W.heap.size:=by obtain ⟨m,hm⟩:=k0;exact DataW.trod_lt m _ _ _ hm
 obtain ⟨x0,o0,a0⟩:=Abs.Arg.top (Abs.arg_bytes) (by rw [Tryz.underlying24]) (hval 0 24 v0 rfl rfl) h0
 have k1:=h1
 have lt1 : ∀ x ∈ p1,x.block < W.heap.size:=by obtain ⟨m,hm⟩:=k1;exact DataW.trod_lt m _ _ _ hm
 obtain ⟨x1,o1,a1⟩:=Abs.Arg.top (Abs.arg_u8) (by rw [Tryz.underlying5]) (hval 1 5 v1 rfl rfl) h1
 have k2:=h2
 have lt2 : ∀ x ∈ p2,x.block < W.heap.size:=by obtain ⟨m,hm⟩:=k2;exact DataW.trod_lt m _ _ _ hm
 obtain ⟨x2,o2,a2⟩:=Abs.Arg.top (Abs.arg_u8) (by rw [Tryz.underlying5]) (hval 2 5 v2 rfl rfl) h2
 have k3:=h3
 have lt3 : ∀ x ∈ p3,x.block < W.heap.size:=by obtain ⟨m,hm⟩:=k3;exact DataW.trod_lt m _ _ _ hm
 obtain ⟨x3,o3,a3⟩:=Abs.Arg.top (Abs.arg_u8) (by rw [Tryz.underlying5]) (hval 3 5 v3 rfl rfl) h3
 have k4:=h4
 have lt4 : ∀ x ∈ p4,x.block < W.heap.size:=by obtain ⟨m,hm⟩:=k4;exact DataW.trod_lt m _ _ _ hm
 obtain ⟨x4,o4,a4⟩:=Abs.Arg.top (Abs.arg_u8) (by rw [Tryz.underlying5]) (hval 4 5 v4 rfl rfl) h4
 have k5:=h5
 have lt5 : ∀ x ∈ p5,x.block < W.heap.size:=by obtain ⟨m,hm⟩:=k5;exact DataW.trod_lt m _ _ _ hm
 obtain ⟨x5,o5,a5⟩:=Abs.Arg.top (Abs.arg_u8) (by rw [Tryz.underlying5]) (hval 5 5 v5 rfl rfl) h5
 have k6:=h6
 have lt6 : ∀ x ∈ p6,x.block < W.heap.size:=by obtain ⟨m,hm⟩:=k6;exact DataW.trod_lt m _ _ _ hm
 obtain ⟨x6,o6,a6⟩:=Abs.Arg.top (Abs.arg_u16) (by rw [Tryz.underlying43]) (hval 6 43 v6 rfl rfl) h6
 have k7:=h7
 have lt7 : ∀ x ∈ p7,x.block < W.heap.size:=by obtain ⟨m,hm⟩:=k7;exact DataW.trod_lt m _ _ _ hm
 obtain ⟨x7,o7,a7⟩:=Abs.Arg.top (Abs.arg_u8) (by rw [Tryz.underlying5]) (hval 7 5 v7 rfl rfl) h7
 clear hA0 hval0
 refine (Abs.Con.law (vs:=#[v0,v1,v2,v3,v4,v5,v6,v7]) (Abs.MsgReads_con x0 x1 x2 x3 x4 x5 x6 x7 o0.1 o1 o2 o3 o4 o5 o6 o7) rfl fun j s v hs hv=>?_).mono fun e W' ⟨he,bel⟩=>?_
 ·match j,hs,hv with
  | 0,hs,hv=>cases hs;cases hv;exact a0
  | 1,hs,hv=>cases hs;cases hv;exact a1
  | 2,hs,hv=>cases hs;cases hv;exact a2
  | 3,hs,hv=>cases hs;cases hv;exact a3
  | 4,hs,hv=>cases hs;cases hv;exact a4
  | 5,hs,hv=>cases hs;cases hv;exact a5
  | 6,hs,hv=>cases hs;cases hv;exact a6
  | 7,hs,hv=>cases hs;cases hv;exact a7
  | j + 8,hs,hv=>cases hs
 subst he
 exact ⟨_,rfl,_,_,_,[],_,[],hW',trodAll_mk1 (shut_bool Tryz.underlying4 _),(trodAll_cons_mk (Below.trod laidOut (by kernel_rfl) (of_decide_eq_true (by kernel_rfl)) k0 bel lt0) (trodAll_cons_mk (Below.trod laidOut (by kernel_rfl) (of_decide_eq_true (by kernel_rfl)) k1 bel lt1) (trodAll_cons_mk (Below.trod laidOut (by kernel_rfl) (of_decide_eq_true (by kernel_rfl)) k2 bel lt2) (trodAll_cons_mk (Below.trod laidOut (by kernel_rfl) (of_decide_eq_true (by kernel_rfl)) k3 bel lt3) (trodAll_cons_mk (Below.trod laidOut (by kernel_rfl) (of_decide_eq_true (by kernel_rfl)) k4 bel lt4) (trodAll_cons_mk (Below.trod laidOut (by kernel_rfl) (of_decide_eq_true (by kernel_rfl)) k5 bel lt5) (trodAll_cons_mk (Below.trod laidOut (by kernel_rfl) (of_decide_eq_true (by kernel_rfl)) k6 bel lt6) (trodAll_cons_mk (Below.trod laidOut (by kernel_rfl) (of_decide_eq_true (by kernel_rfl)) k7 bel lt7) trodAll_mk0)))))))),rfl,bel.frame _,fun h=>by cases h⟩

theorem over : Rows.msgReadsRow.holds Tryz.pinned (OpenSpec.ofChange Rows.msgReadsSpec) :=
 OpenClaim.holds_of_wide 4 Tryz.f4 rfl rfl rfl rfl rfl rfl rfl ⟨rfl,rfl,rfl,rfl,rfl⟩ rfl rfl rfl rfl rfl (by kernel_rfl) Tryz.func4 (by kernel_rfl)
  (of_decide_eq_true (by kernel_rfl)) (by unfold Func.isWrapper;first | (rw [if_pos (by decide +kernel)];kernel_rfl) | (rw [if_neg (by decide +kernel)];exact ⟨rfl,rfl⟩))
  (fun os started H enc _=>lifted os started H enc)

/-- ████ THE STATEMENT ████ -/
theorem proved : Rows.MsgReadsSaid:=over
#print axioms proved
end Go.Proofs.YtidooialknbgaaaGreat.msgReads
