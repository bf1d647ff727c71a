/- EntryTells answers true whatever its input, and the input reads as it did. No condition. -/
import Derived.Test.YtbfajkdlafbknaaRows
import Derived.Test.YtbfajkdlafbknaaRow
import Derived.WalkKit
import Derived.ProofKit
import Derived.OpenShut
import Derived.ShutString
import Derived.ChangeOld
import Derived.Below
import Derived.Lib.SmallJoins
set_option linter.unusedVariables false
set_option linter.unusedSimpArgs false
set_option linter.unnecessarySimpa false
namespace Go.Proofs.Ytbfajkdlafbknaa.entryTells
open Go.ChangeShapes Go.WideShapes Go.ChangeAt Go.RowKit
open Go.ChangeMaps (open_string shut_string)
set_option linter.unusedVariables false

theorem own : ownKnob Try.prog.godebug = none := by kernel_rfl
theorem laidOut : laidOutB Try.prog = true := by kernel_rfl

theorem nat_u8 {a : Int} (h : (Lit.int .u8 a).wf = true) : ∃ n : Nat, a = n ∧ n < 256 := by
  simp [Lit.wf, IntKind.min, IntKind.max, IntKind.signed, IntKind.bits] at h
  exact ⟨a.toNat, by omega, by omega⟩

theorem nat_u16 {a : Int} (h : (Lit.int .u16 a).wf = true) : ∃ n : Nat, a = n ∧ n < 65536 := by
  simp [Lit.wf, IntKind.min, IntKind.max, IntKind.signed, IntKind.bits] at h
  exact ⟨a.toNat, by omega, by omega⟩

theorem nat_u32 {a : Int} (h : (Lit.int .u32 a).wf = true) : ∃ n : Nat, a = n ∧ n < 4294967296 := by
  simp [Lit.wf, IntKind.min, IntKind.max, IntKind.signed, IntKind.bits] at h
  exact ⟨a.toNat, by omega, by omega⟩

set_option maxRecDepth 100000 in
theorem lifted (os : Os) (started : os.Started) (H : Type) (enc : TypeId × Value → H) :
    ReturnsInHanded {} Try.checked os 4 .any (Rows.entryTellsSpec.pre6 enc Try.prog Try.f4 Rows.entryTellsRow.domain false) (Rows.entryTellsSpec.post enc Try.prog Try.f4 false true false false) := by
  refine returnsInHanded_of_change (C := Try.checked) own started (by kernel_rfl) Try.func4
    (ChangeSpec.witness6 (enc := enc) (C := Try.checked) false ⟨#[], #[.agg #[.int .i64 0, .int .i64 0, .int .i64 0, .slice none 0 0], .agg #[.int .i64 0, .int .i64 0, .slice none 0 0, .slice none 0 0], .slice none 0 0, .int .u8 0, .int .i64 0, .slice none 0 0, .slice none 0 0], []⟩ 8 (by kernel_rfl) (by kernel_rfl) (by kernel_rfl) (by kernel_rfl)) ?_
  intro W base args ds gs before hval0 hW hcnd _
  have hval : ∀ (j : Nat) t v, Try.f4.params[j]? = some t → args[j]? = some v → Value.okWide Try.prog W .any base t v := hval0
  have hW' := hW
  obtain ⟨p, q, hA0, hV, rfl, hfz, hnd⟩ := hW
  have hA : DataW.TrodAll enc Try.prog W 0 (fun _ => true) true Try.f4.params.toList args.toList ds p := hA0
  rw [Try.params4] at hA hval
  obtain ⟨v0, vs0, d0, ds0, p0, q0, hargs, rfl, rfl, h0, r0⟩ := trodAll_cons hA
  obtain ⟨v1, vs1, d1, ds1, p1, q1, rfl, rfl, rfl, h1, r1⟩ := trodAll_cons r0
  obtain ⟨v2, vs2, d2, ds2, p2, q2, rfl, rfl, rfl, h2, r2⟩ := trodAll_cons r1
  obtain ⟨v3, vs3, d3, ds3, p3, q3, rfl, rfl, rfl, h3, r3⟩ := trodAll_cons r2
  obtain ⟨v4, vs4, d4, ds4, p4, q4, rfl, rfl, rfl, h4, r4⟩ := trodAll_cons r3
  obtain ⟨v5, vs5, d5, ds5, p5, q5, rfl, rfl, rfl, h5, r5⟩ := trodAll_cons r4
  obtain ⟨v6, vs6, d6, ds6, p6, q6, rfl, rfl, rfl, h6, r6⟩ := trodAll_cons r5
  obtain ⟨rfl, rfl, rfl⟩ := trodAll_nil r6
  obtain rfl : args = #[v0, v1, v2, v3, v4, v5, v6] := by cases args; simp_all
  obtain ⟨rfl, rfl⟩ := trodVars_none hV
  have k0 := h0
  have lt0 : ∀ x ∈ p0, x.block < W.heap.size := by obtain ⟨m, hm⟩ := k0; exact DataW.trod_lt m _ _ _ hm
  have hv0 := hval 0 26 _ rfl rfl
  obtain ⟨x0_0, x0_1, x0_2, x0_3, y0_0, y0_1, y0_2, y0_3, fl0, rfl, -, -, g0_0, g0_1, g0_2, g0_3⟩ := Go.Joins.open_agg4 Try.underlying26 (by kernel_rfl) (by kernel_rfl) hv0 h0
  have hf0_0 := Abs.field_ok (u := 3) (v := x0_0) (ts := [3, 3, 3, 23]) Try.underlying26 (by kernel_rfl) hv0 0 rfl rfl (by rw [Try.underlying3])
  obtain ⟨a0_0, rfl, w0_0⟩ := Abs.open_int_f (k := .i64) Try.underlying3 (hf0_0) g0_0
  have hf0_1 := Abs.field_ok (u := 3) (v := x0_1) (ts := [3, 3, 3, 23]) Try.underlying26 (by kernel_rfl) hv0 1 rfl rfl (by rw [Try.underlying3])
  obtain ⟨a0_1, rfl, w0_1⟩ := Abs.open_int_f (k := .i64) Try.underlying3 (hf0_1) g0_1
  have hf0_2 := Abs.field_ok (u := 3) (v := x0_2) (ts := [3, 3, 3, 23]) Try.underlying26 (by kernel_rfl) hv0 2 rfl rfl (by rw [Try.underlying3])
  obtain ⟨a0_2, rfl, w0_2⟩ := Abs.open_int_f (k := .i64) Try.underlying3 (hf0_2) g0_2
  have hf0_3 := Abs.field_ok (u := 23) (v := x0_3) (ts := [3, 3, 3, 23]) Try.underlying26 (by kernel_rfl) hv0 3 rfl rfl (by rw [Try.underlying23])
  obtain ⟨ad0_3, len0_3, cap0_3, rfl⟩ := okWide_slice Try.underlying23 (hf0_3)
  obtain ⟨l0_3, rr0_3, c0_3⟩ := Abs.argOk_bytes Try.underlying23 Try.underlying5 (by kernel_rfl) (hf0_3) g0_3
  have k1 := h1
  have lt1 : ∀ x ∈ p1, x.block < W.heap.size := by obtain ⟨m, hm⟩ := k1; exact DataW.trod_lt m _ _ _ hm
  have hv1 := hval 1 31 _ rfl rfl
  obtain ⟨x1_0, x1_1, x1_2, x1_3, y1_0, y1_1, y1_2, y1_3, fl1, rfl, -, -, g1_0, g1_1, g1_2, g1_3⟩ := Go.Joins.open_agg4 Try.underlying31 (by kernel_rfl) (by kernel_rfl) hv1 h1
  have hf1_0 := Abs.field_ok (u := 3) (v := x1_0) (ts := [3, 3, 29, 23]) Try.underlying31 (by kernel_rfl) hv1 0 rfl rfl (by rw [Try.underlying3])
  obtain ⟨a1_0, rfl, w1_0⟩ := Abs.open_int_f (k := .i64) Try.underlying3 (hf1_0) g1_0
  have hf1_1 := Abs.field_ok (u := 3) (v := x1_1) (ts := [3, 3, 29, 23]) Try.underlying31 (by kernel_rfl) hv1 1 rfl rfl (by rw [Try.underlying3])
  obtain ⟨a1_1, rfl, w1_1⟩ := Abs.open_int_f (k := .i64) Try.underlying3 (hf1_1) g1_1
  have hf1_2 := Abs.field_ok (u := 29) (v := x1_2) (ts := [3, 3, 29, 23]) Try.underlying31 (by kernel_rfl) hv1 2 rfl rfl (by rw [Try.underlying29])
  obtain ⟨ad1_2, len1_2, cap1_2, rfl⟩ := okWide_slice Try.underlying29 (hf1_2)
  obtain ⟨z1_2, rr1_2, c1_2⟩ := Abs.argOk_ints Try.underlying29 Try.underlying3 (by kernel_rfl) (hf1_2) g1_2
  have hf1_3 := Abs.field_ok (u := 23) (v := x1_3) (ts := [3, 3, 29, 23]) Try.underlying31 (by kernel_rfl) hv1 3 rfl rfl (by rw [Try.underlying23])
  obtain ⟨ad1_3, len1_3, cap1_3, rfl⟩ := okWide_slice Try.underlying23 (hf1_3)
  obtain ⟨l1_3, rr1_3, c1_3⟩ := Abs.argOk_bytes Try.underlying23 Try.underlying5 (by kernel_rfl) (hf1_3) g1_3
  have k2 := h2
  have lt2 : ∀ x ∈ p2, x.block < W.heap.size := by obtain ⟨m, hm⟩ := k2; exact DataW.trod_lt m _ _ _ hm
  obtain ⟨ad2, len2, cap2, rfl⟩ := okWide_slice Try.underlying23 (hval 2 23 _ rfl rfl)
  obtain ⟨fu2, hf2⟩ := h2
  obtain ⟨l2, rr2, c2⟩ := Abs.argOk_bytes Try.underlying23 Try.underlying5 (by kernel_rfl) (hval 2 23 _ rfl rfl) hf2
  have k3 := h3
  have lt3 : ∀ x ∈ p3, x.block < W.heap.size := by obtain ⟨m, hm⟩ := k3; exact DataW.trod_lt m _ _ _ hm
  obtain ⟨a3, rfl, -, -, w3⟩ := open_int (k := .u8) Try.underlying5 (hval 3 5 _ rfl rfl) h3
  obtain ⟨n3, rfl, b3⟩ := nat_u8 w3
  have k4 := h4
  have lt4 : ∀ x ∈ p4, x.block < W.heap.size := by obtain ⟨m, hm⟩ := k4; exact DataW.trod_lt m _ _ _ hm
  obtain ⟨a4, rfl, -, -, w4⟩ := open_int (k := .i64) Try.underlying3 (hval 4 3 _ rfl rfl) h4
  have k5 := h5
  have lt5 : ∀ x ∈ p5, x.block < W.heap.size := by obtain ⟨m, hm⟩ := k5; exact DataW.trod_lt m _ _ _ hm
  obtain ⟨ad5, len5, cap5, rfl⟩ := okWide_slice Try.underlying23 (hval 5 23 _ rfl rfl)
  obtain ⟨fu5, hf5⟩ := h5
  obtain ⟨l5, rr5, c5⟩ := Abs.argOk_bytes Try.underlying23 Try.underlying5 (by kernel_rfl) (hval 5 23 _ rfl rfl) hf5
  have k6 := h6
  have lt6 : ∀ x ∈ p6, x.block < W.heap.size := by obtain ⟨m, hm⟩ := k6; exact DataW.trod_lt m _ _ _ hm
  obtain ⟨ad6, len6, cap6, rfl⟩ := okWide_slice Try.underlying29 (hval 6 29 _ rfl rfl)
  obtain ⟨fu6, hf6⟩ := h6
  obtain ⟨z6, rr6, c6⟩ := Abs.argOk_ints Try.underlying29 Try.underlying3 (by kernel_rfl) (hval 6 29 _ rfl rfl) hf6
  clear hA0 hval0
  refine (Abs.Con.law (vs := #[_, _, _, _, _, _, _]) (Abs.EntryTells_con ⟨a0_0, a0_1, a0_2, l0_3⟩ ⟨a1_0, a1_1, z1_2, l1_3⟩ l2 n3 a4 l5 z6 c0_3 c1_3 c2 b3 c5) rfl fun j s v hs hv => ?_).mono fun e W' ⟨he, bel⟩ => ?_
  · match j, hs, hv with
    | 0, hs, hv => cases hs; cases hv; exact Abs.argOk_agg ⟨rfl, fun q x y hx hy => match q, hx, hy with | 0, hx, hy => by cases hx; cases hy; exact Abs.RD.v _ rfl | 1, hx, hy => by cases hx; cases hy; exact Abs.RD.v _ rfl | 2, hx, hy => by cases hx; cases hy; exact Abs.RD.v _ rfl | 3, hx, hy => by cases hx; cases hy; exact rr0_3 | q + 4, hx, hy => by cases hx⟩
    | 1, hs, hv => cases hs; cases hv; exact Abs.argOk_agg ⟨rfl, fun q x y hx hy => match q, hx, hy with | 0, hx, hy => by cases hx; cases hy; exact Abs.RD.v _ rfl | 1, hx, hy => by cases hx; cases hy; exact Abs.RD.v _ rfl | 2, hx, hy => by cases hx; cases hy; exact rr1_2 | 3, hx, hy => by cases hx; cases hy; exact rr1_3 | q + 4, hx, hy => by cases hx⟩
    | 2, hs, hv => cases hs; cases hv; exact rr2
    | 3, hs, hv => cases hs; cases hv; exact Abs.argOk_v rfl
    | 4, hs, hv => cases hs; cases hv; exact Abs.argOk_v rfl
    | 5, hs, hv => cases hs; cases hv; exact rr5
    | 6, hs, hv => cases hs; cases hv; exact rr6
    | j + 7, hs, hv => cases hs
  subst he
  exact ⟨_, rfl, _, _, _, [], _, [], hW', trodAll_mk1 (shut_bool Try.underlying4 _), (trodAll_cons_mk (Below.trod laidOut (by kernel_rfl) (of_decide_eq_true (by kernel_rfl)) k0 bel lt0) (trodAll_cons_mk (Below.trod laidOut (by kernel_rfl) (of_decide_eq_true (by kernel_rfl)) k1 bel lt1) (trodAll_cons_mk (Below.trod laidOut (by kernel_rfl) (of_decide_eq_true (by kernel_rfl)) k2 bel lt2) (trodAll_cons_mk (Below.trod laidOut (by kernel_rfl) (of_decide_eq_true (by kernel_rfl)) k3 bel lt3) (trodAll_cons_mk (Below.trod laidOut (by kernel_rfl) (of_decide_eq_true (by kernel_rfl)) k4 bel lt4) (trodAll_cons_mk (Below.trod laidOut (by kernel_rfl) (of_decide_eq_true (by kernel_rfl)) k5 bel lt5) (trodAll_cons_mk (Below.trod laidOut (by kernel_rfl) (of_decide_eq_true (by kernel_rfl)) k6 bel lt6) trodAll_mk0))))))), rfl, bel.frame _, fun h => by cases h⟩

theorem over : Rows.entryTellsRow.holds Try.pinned (OpenSpec.ofChange Rows.entryTellsSpec) :=
  OpenClaim.holds_of_wide 4 Try.f4 rfl rfl rfl rfl rfl rfl rfl ⟨rfl, rfl, rfl, rfl, rfl⟩ rfl rfl rfl rfl rfl (by kernel_rfl) Try.func4 (by kernel_rfl)
    (of_decide_eq_true (by kernel_rfl)) (by unfold Func.isWrapper; first | (rw [if_pos (by decide +kernel)]; kernel_rfl) | (rw [if_neg (by decide +kernel)]; exact ⟨rfl, rfl⟩))
    (fun os started H enc _ => lifted os started H enc)

/-- ████ THE STATEMENT ████ -/
theorem proved : Rows.EntryTellsSaid := over
#print axioms proved
end Go.Proofs.Ytbfajkdlafbknaa.entryTells
