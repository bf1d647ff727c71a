/- From what a function is said to do to its row. No condition. -/
import Derived.Test.YtbfajkdlafbknaaConc
import Derived.Test.YtbfajkdlafbknaaRows
import Derived.WalkKit
import Derived.ProofKit
import Derived.OpenShut
import Derived.ShutString
import Derived.ChangeOld
import Derived.Below
set_option linter.unusedVariables false
set_option linter.unusedSimpArgs false
set_option linter.unnecessarySimpa false
namespace Go.Abs
open Go Go.Proofs
open Go.ChangeShapes Go.WideShapes Go.ChangeAt Go.RowKit

/-- What an argument must be to be read so: data that lies in the world. -/
def ArgOk (w : World) (s : SV) (v : Value) : Prop := RSV { h := w.heap, ok := fun b => b < w.heap.size, m := fun _ => none, σ := fun _ => none } s v

/-- What a row asks of a walk. -/
theorem Con.law {P : Program} {f : FuncId} {args : List SV} (h : Con P f args [] (B true) []) {vs : Array Value} {w : World} (hs : vs.size = args.length)
    (ha : ∀ (j : Nat) (s : SV) (v : Value), args[j]? = some s → vs[j]? = some v → ArgOk w s v) :
    Calls P f vs w fun e w' => e = .returned (.bool true) ∧ Below w.heap.size w w' := by
  have hle : ∀ b, b < w.heap.size → okOf (groundOf (fun b => b < w.heap.size) (fun _ => none) [] w).okb (groundOf (fun b => b < w.heap.size) (fun _ => none) [] w).B w.heap.size (fun _ => none) (stOf args []).σ b := fun b hb =>
    ⟨.inl (.inl hb), hb, fun id e he => by simp [stOf] at he⟩
  have hE : Env.Le { h := w.heap, ok := fun b => b < w.heap.size, m := fun _ => none, σ := fun _ => none } ((groundOf (fun b => b < w.heap.size) (fun _ => none) [] w).env (fun _ => none) (stOf args []) w) :=
    ⟨fun b hb => ⟨hle b hb, rfl⟩, fun id a ha => (by cases ha), fun id E s rows fz b cur ha => (by cases ha)⟩
  have hR : R (groundOf (fun b => b < w.heap.size) (fun _ => none) [] w) (fun _ => none) (stOf args []) vs w := by
    refine ⟨Frame0.refl _ _, fun t => ?_, fun id e he => by simp [stOf] at he, fun id e b he => by simp [stOf] at he, fun id id' e e' b he => by simp [stOf] at he, fun b hb => ⟨hb, fun ⟨i, hi, _⟩ => by simp at hi⟩, fun k e0 hk => by simp [groundOf] at hk⟩
    show RSV _ (args.getD t .dead) _
    rcases Nat.lt_or_ge t args.length with ht | ht
    · have h1 : args[t]? = some args[t] := List.getElem?_eq_getElem ht
      have h2 : vs[t]? = some (vs[t]'(by omega)) := Array.getElem?_eq_getElem (by omega)
      have := ha t _ _ h1 h2
      rw [show args.getD t .dead = args[t] by simp [List.getD, h1], show vs.getD t undef = vs[t]'(by omega) by simp [Array.getD_eq_getD_getElem?, h2]]
      exact RSV.le hE this
    · rw [show args.getD t .dead = .dead by simp [List.getD, List.getElem?_eq_none ht]]
      trivial
  refine (h.2.2 _ _ w vs hs hR).mono ?_
  rintro e w' ⟨v, m', rfl, hb, hres⟩
  have hv := rc_v (show RC _ (.v (.bool true)) v from hres)
  refine ⟨by rw [hv], hb.frame.os, hb.frame.tape, hb.frame.output, hb.frame.size, fun k hk => hb.frame.block k hk fun ⟨i, hi, _⟩ => by simp at hi⟩

theorem argOk_v {w : World} {x : Value} (h : one x = true) : ArgOk w (.c (.v x)) x := RD.v x h

/-- A slice of whole numbers that came in. -/
theorem argOk_ints {H : Type} {enc : TypeId × Value → H} {P : Program} {w : World} {base fuel : Nat} {spare : Nat → Bool} {held : Bool} {t e : TypeId} {k : IntKind} {a : Option Addr} {len cap : Nat} {x : DataW H × List MemPlace} (ht : P.underlying t = some (.slice e)) (he : P.underlying e = some (.int k)) (hc : P.cellsOf e = 1)
    (hv : Value.okWide P w .any base t (.slice a len cap)) (h : DataW.trod enc P w 0 spare held fuel t [.slice a len cap] = some x) :
    ∃ zs : List Int, RD w.heap (fun b => b < w.heap.size) (.sl (zs.map fun n => [.v (.int k n)])) (.slice a len cap) ∧ ∀ n ∈ zs, (Lit.int k n).wf = true := by
  rcases open_ints ht he hc h with ⟨h1, _⟩ | ⟨ad, l, c, zs, h1, _, hl, hm, hz, _, hcell, hwz⟩
  · simp only [List.cons.injEq, Value.slice.injEq, and_true] at h1
    obtain ⟨rfl, rfl, rfl⟩ := h1
    exact ⟨[], RD.nil, by simp⟩
  · simp only [List.cons.injEq, Value.slice.injEq, and_true] at h1
    obtain ⟨rfl, rfl, rfl⟩ := h1
    simp only [Value.okWide, ht, Cell.okWide, Cell.ok] at hv
    obtain ⟨_, _, _, hspot, row, cells, hsh, _⟩ := hv
    obtain ⟨b, off, spot⟩ := ad
    simp only at hspot
    subst hspot
    have hb : b < w.heap.size := by
      unfold World.shape? at hsh
      rcases Nat.lt_or_ge b w.heap.size with h | h
      · exact h
      · simp [Array.getElem?_eq_none h] at hsh
    have hlz : len ≤ zs.length := by rw [hz]; split <;> omega
    refine ⟨zs.take len, ?_, fun n hn => hwz n (List.mem_of_mem_take hn)⟩
    have hlen : ((zs.take len).map fun n => ([.v (.int k n)] : List C)).length = len := by simp; omega
    have := RD.sl (h := w.heap) (ok := fun b => b < w.heap.size) ((zs.take len).map fun n => ([.v (.int k n)] : List C)) 1 b off cap (fun i _ => .int k (zs.getD i 0)) hb (fun r hr => by obtain ⟨n, _, rfl⟩ := List.mem_map.1 hr; rfl) (fun i r j c h1 h2 => ?_) (fun i r j c h1 h2 => ?_) (by omega)
    · rw [hlen] at this; exact this
    · have hi : i < len := by
        rcases Nat.lt_or_ge i len with h | h
        · exact h
        · rw [List.getElem?_eq_none (by omega)] at h1; cases h1
      rw [List.getElem?_map, List.getElem?_take, if_pos hi] at h1
      have hj : j = 0 := by
        cases hzi : zs[i]? with
        | none => rw [hzi] at h1; cases h1
        | some z => rw [hzi] at h1; cases h1; cases j with
          | zero => rfl
          | succ j => simp at h2
      subst hj
      have := hcell i (by omega)
      rw [show (⟨b, off, none⟩ : Addr).add i = ⟨b, off + i, none⟩ from by simp [Addr.add], cell?_eq] at this
      simpa using this
    · cases hzi : (zs.take len)[i]? with
      | none => rw [List.getElem?_map, hzi] at h1; cases h1
      | some z =>
        rw [List.getElem?_map, hzi] at h1
        cases h1
        cases j with
        | succ j => simp at h2
        | zero =>
          simp only [List.getElem?_cons_zero, Option.some.injEq] at h2
          subst h2
          have hz' : zs[i]? = some z := take_get hzi
          rw [show zs.getD i 0 = z by simp [List.getD, hz']]
          exact RD.v _ rfl

/-- Bytes that came in. -/
theorem argOk_bytes {H : Type} {enc : TypeId × Value → H} {P : Program} {w : World} {base fuel : Nat} {spare : Nat → Bool} {held : Bool} {t e : TypeId} {a : Option Addr} {len cap : Nat} {x : DataW H × List MemPlace} (ht : P.underlying t = some (.slice e)) (he : P.underlying e = some (.int .u8)) (hc : P.cellsOf e = 1)
    (hv : Value.okWide P w .any base t (.slice a len cap)) (h : DataW.trod enc P w 0 spare held fuel t [.slice a len cap] = some x) :
    ∃ l : List Nat, RD w.heap (fun b => b < w.heap.size) (.sl (l.map brow)) (.slice a len cap) ∧ ∀ c ∈ l, c < 256 := by
  obtain ⟨zs, h1, h2⟩ := argOk_ints ht he hc hv h
  have hb : ∀ n ∈ zs, 0 ≤ n ∧ n < 256 := fun n hn => by
    have := h2 n hn
    simp [Lit.wf, IntKind.min, IntKind.max, IntKind.signed, IntKind.bits] at this
    omega
  refine ⟨zs.map Int.toNat, ?_, fun c hc => ?_⟩
  · have : (zs.map Int.toNat).map brow = zs.map fun n => [.v (.int .u8 n)] := by
      rw [List.map_map]
      refine List.map_congr_left fun n hn => ?_
      have := (hb n hn).1
      simp only [Function.comp, brow]
      rw [Int.toNat_of_nonneg this]
    rw [this]; exact h1
  · obtain ⟨n, hn, rfl⟩ := List.mem_map.1 hc
    have := hb n hn
    omega

/-- A field of a struct that came in is as its type says. -/
theorem field_ok {P : Program} {w : World} {base : Nat} {t u : TypeId} {fs : Array Field} {ts : List TypeId} {cs : Array Value} {v : Value} (hs : P.underlying t = some (.struct fs)) (hts : P.cellTypes P.depth t = some ts) (hv : Value.okWide P w .any base t (.agg cs)) (i : Nat) (hi : cs[i]? = some v) (hu : ts[i % ts.length]? = some u)
    (hn : (match P.underlying u with | some (.struct _) | some (.array _ _) => false | _ => true) = true) : Value.okWide P w .any base u v := by
  simp only [Value.okWide, hs] at hv
  obtain ⟨cs', h1, _, ts', h2, _, h3⟩ := hv
  cases h1
  rw [hts] at h2; cases h2
  obtain ⟨u', h4, h5⟩ := h3 i v hi
  rw [hu] at h4; cases h4
  unfold Value.okWide
  split
  · rename_i h; rw [h] at hn; cases hn
  · rename_i h; rw [h] at hn; cases hn
  · exact h5

theorem argOk_agg {w : World} {cs : List C} {vs : Array Value} (h : RL (RC { h := w.heap, ok := fun b => b < w.heap.size, m := fun _ => none, σ := fun _ => none }) cs vs.toList) : ArgOk w (.agg cs) (.agg vs) := ⟨vs, rfl, h⟩

/-- A whole number in a struct that came in. -/
theorem open_int_f {H : Type} {enc : TypeId × Value → H} {P : Program} {w : World} {base fuel : Nat} {spare : Nat → Bool} {held : Bool} {t : TypeId} {k : IntKind} {v : Value} {y : DataW H × List MemPlace} (ht : P.underlying t = some (.int k))
    (hv : Value.okWide P w .any base t v) (h : DataW.trod enc P w 0 spare held fuel t [v] = some y) : ∃ n, v = .int k n ∧ (Lit.int k n).wf = true := by
  obtain ⟨n, rfl⟩ := okWide_int ht hv
  obtain ⟨n', h1, _, hw⟩ := DataW.trod_int ht h
  simp only [List.cons.injEq, Value.int.injEq, and_true, true_and] at h1
  subst h1
  exact ⟨n, rfl, hw⟩

end Go.Abs
