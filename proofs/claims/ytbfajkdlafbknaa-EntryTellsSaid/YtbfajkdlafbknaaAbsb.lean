/- An abstract machine for the model, part two: all operations, calls. No condition. -/
import Derived.Test.YtbfajkdlafbknaaAbsa
import Derived.Laws.Build
set_option linter.unusedVariables false
set_option linter.unusedSimpArgs false
set_option linter.unnecessarySimpa false
namespace Go.Abs
open Go

section
variable {P : Program} {g : Gr} {m : Nat → Option Nat} {st : St} {tmps : Array Value} {w : World} {a : Act}

theorem foldl_set : ∀ (l : List Value) (j0 off : Nat) (cs : Array Value), off + j0 + l.length ≤ cs.size →
    ((l.zipIdx j0).foldl (fun (cs : Array Value) (p : Value × Nat) => cs.setIfInBounds (off + p.2) p.1) cs).toList = cs.toList.take (off + j0) ++ l ++ cs.toList.drop (off + j0 + l.length)
  | [], j0, off, cs, _ => by simp
  | v :: l, j0, off, cs, h => by
    simp only [List.length_cons] at h
    have ih := foldl_set l (j0 + 1) off (cs.setIfInBounds (off + j0) v) (by simp; omega)
    simp only [List.zipIdx_cons, List.foldl_cons]
    rw [ih]
    have e1 : off + (j0 + 1) = off + j0 + 1 := by omega
    have e2 : off + j0 + 1 + l.length = off + j0 + (l.length + 1) := by omega
    rw [e1, e2]
    simp only [Array.toList_setIfInBounds, List.length_cons]
    have hlen : off + j0 < cs.toList.length := by simp; omega
    rw [List.take_set, List.drop_set, if_pos (by omega)]
    rw [List.take_succ_eq_append_getElem hlen, List.set_append, if_neg (by rw [List.length_take]; omega), List.length_take, Nat.min_eq_left (by omega)]
    simp

theorem fill_step {place : Nat → Option (Nat × Nat)} {cells : Array Value} {i off k : Nat} {v : Value} {rest : List (Nat × Value)} (hp : place i = some (off, k)) (hk : v.cells.size = k) (hf : off + k ≤ cells.size) :
    ∃ c2 : Array Value, c2.toList = cells.toList.take off ++ v.cells.toList ++ cells.toList.drop (off + k) ∧ Instr.fill place cells ((i, v) :: rest) = Instr.fill place c2 rest := by
  have hfs := foldl_set v.cells.toList 0 off cells (by simp; omega)
  refine ⟨(v.cells.toList.zipIdx 0).foldl (fun (cs : Array Value) (p : Value × Nat) => cs.setIfInBounds (off + p.2) p.1) cells, ?_, ?_⟩
  · rw [hfs]; simp [hk]
  · have h1 : ¬ (v.cells.size ≠ k) := by simpa using hk
    have h2 : ¬ (off + v.cells.size > cells.size) := by omega
    simp only [Instr.fill, hp]
    rw [if_neg (by simp; omega)]
    rw [← Array.foldl_toList, Array.toList_zipIdx]

theorem fill_bld {e : Env} {place : Nat → Option (Nat × Nat)} (ρ : AX → SV) (ev0 : Operand → Value) (hev : ∀ x ax, cx x = some ax → RSV e (ρ ax) (ev0 x)) : ∀ (parts : List (Nat × Operand)) (ps : List (Nat × Nat × AX)) (cs cs' : List C) (cells : Array Value),
    cbld place parts = some ps → bldFold ρ ps cs = some cs' → (∀ p ∈ ps, (ρ p.2.2).pre) → RL (RC e) cs cells.toList → ∃ cells', Instr.fill place cells (parts.map fun p => (p.1, ev0 p.2)) = some cells' ∧ RL (RC e) cs' cells'.toList
  | [], ps, cs, cs', cells, h, hb, _, hr => by
    cases h; cases hb
    exact ⟨cells, rfl, hr⟩
  | (i, x) :: parts, ps, cs, cs', cells, h, hb, hp, hr => by
    simp only [cbld] at h
    split at h
    · rename_i off k y ys h1 h2 h3
      cases h
      simp only [bldFold] at hb
      split at hb
      · rename_i zs hz
        split at hb
        · rename_i hc
          have hx := (hev x y h2).cells (hp (off, k, y) (by simp)) hz
          have hk : (ev0 x).cells.size = k := by rw [← hc.1, hx.1]; simp
          have hf : off + k ≤ cells.size := by have := hr.1; simp at this; omega
          obtain ⟨c2, he, hfill⟩ := fill_step (rest := parts.map fun p => (p.1, ev0 p.2)) h1 hk hf
          have hr2 : RL (RC e) (splice cs off zs) c2.toList := by
            rw [he]
            unfold splice
            rw [hc.1]
            exact ((hr.take off).append hx).append (hr.drop (off + k))
          obtain ⟨cells', h4, h5⟩ := fill_bld ρ ev0 hev parts ys (splice cs off zs) cs' c2 h3 hb (fun p hp' => hp p (by simp [hp'])) hr2
          exact ⟨cells', by simp only [List.map_cons]; rw [hfill]; exact h4, h5⟩
        · cases hb
      · cases hb
    · cases h

theorem fill_rows {s : Nat} : ∀ (vs : List Value) (k : Nat) (cells : Array Value), (∀ v ∈ vs, v.cells.size = s) → (k + vs.length) * s ≤ cells.size →
    ∃ cells', Instr.fill (fun i => some (i * s, s)) cells ((vs.zipIdx k).map fun p => (p.2, p.1)) = some cells' ∧ cells'.toList = cells.toList.take (k * s) ++ vs.flatMap (·.cells.toList) ++ cells.toList.drop ((k + vs.length) * s)
  | [], k, cells, _, _ => ⟨cells, rfl, by simp⟩
  | v :: vs, k, cells, h1, h2 => by
    simp only [List.length_cons] at h2
    have hks : k * s + s ≤ cells.size := by
      have : (k + 1) * s ≤ (k + (vs.length + 1)) * s := Nat.mul_le_mul_right s (by omega)
      rw [Nat.add_mul, Nat.one_mul] at this
      omega
    obtain ⟨c2, he, hfill⟩ := fill_step (place := fun i => some (i * s, s)) (i := k) (rest := (vs.zipIdx (k + 1)).map fun p => (p.2, p.1)) rfl (h1 v (by simp)) hks
    have hc2 : c2.size = cells.size := by
      have := congrArg List.length he
      have hv := h1 v (by simp)
      simp at this
      omega
    obtain ⟨cells', h3, h4⟩ := fill_rows vs (k + 1) c2 (fun u hu => h1 u (by simp [hu])) (by rw [hc2, Nat.add_right_comm]; exact h2)
    refine ⟨cells', by simp only [List.zipIdx_cons, List.map_cons]; rw [hfill]; exact h3, ?_⟩
    rw [h4, he]
    have hv : v.cells.toList.length = s := by simpa using h1 v (by simp)
    have hl : (cells.toList.take (k * s) ++ v.cells.toList).length = (k + 1) * s := by rw [Nat.add_mul]; simp [hv]; omega
    have e1 : k * s + s = (k + 1) * s := by rw [Nat.add_mul, Nat.one_mul]
    have e2 : k + 1 + vs.length = k + (vs.length + 1) := by omega
    have e3 : (k + 1) * s ≤ (k + (vs.length + 1)) * s := Nat.mul_le_mul_right s (by omega)
    rw [e1, e2, List.take_append_of_le_length (by omega), List.take_of_length_le (by omega), List.drop_append, List.drop_eq_nil_of_le (by omega), hl, List.drop_drop]
    simp only [List.flatMap_cons, List.append_assoc, List.nil_append, List.length_cons]
    congr 3
    congr 1
    omega

theorem rowsAt_single {e : Env} {s : Nat} {ys : List C} {vs : List Value} (h : RL (RC e) ys vs) (hl : ys.length = s) : RowsAt e s [ys] vs := by
  refine ⟨by rw [← h.1, hl]; simp, fun r hr => by simp at hr; subst hr; exact hl, fun i r j c h1 h2 => ?_⟩
  cases i with
  | zero => simp at h1; subst h1; obtain ⟨x, hx, hr⟩ := h.get h2; exact ⟨x, by simpa using hx, hr⟩
  | succ i => simp at h1

theorem bS_rows {e : Env} {s : Nat} (ρ : AX → SV) (ev0 : Operand → Value) (hev : ∀ x ax, cx x = some ax → RSV e (ρ ax) (ev0 x)) : ∀ (parts : List (Nat × Operand)) (k : Nat) (ps : List AX) (rows : List (List C)),
    cparts 0 k parts = some ps → bSRows ρ s ps = some rows → (∀ p ∈ ps, (ρ p).pre) → ∃ vs : List Value, parts.map (fun p => (p.1, ev0 p.2)) = (vs.zipIdx k).map (fun p => (p.2, p.1)) ∧ (∀ v ∈ vs, v.cells.size = s) ∧ vs.length = rows.length ∧ RowsAt e s rows (vs.flatMap (·.cells.toList))
  | [], k, ps, rows, h, hb, _ => by
    cases h; cases hb
    exact ⟨[], rfl, by simp, rfl, RowsAt.nil s⟩
  | (i, x) :: parts, k, ps, rows, h, hb, hp => by
    simp only [cparts] at h
    split at h
    · rename_i hik
      split at h
      · rename_i y ys h1 h2
        cases h
        simp only [bSRows] at hb
        split at hb
        · rename_i zs r h3 h4
          split at hb
          · rename_i hl
            cases hb
            obtain ⟨vs, g1, g2, g3, g4⟩ := bS_rows ρ ev0 hev parts (k + 1) ys r h2 h4 (fun p hp' => hp p (by simp [hp']))
            have hx := (hev x y h1).cells (hp y (by simp)) h3
            refine ⟨ev0 x :: vs, by simp [g1, hik], fun v hv => ?_, by simp [g3], ?_⟩
            · rcases List.mem_cons.1 hv with rfl | hv
              · rw [← hl, hx.1]; simp
              · exact g2 v hv
            · exact (rowsAt_single hx hl).append g4
          · cases hb
        · cases hb
      · cases h
    · cases h

theorem out_bS (hR : R g m st tmps w) (hev : ∀ x ax, cx x = some ax → RSV (g.env m st w) (ev st.sl ax) (a.eval x)) {T E : TypeId} {i : TypeInfo} {zv : Value} (hu : P.underlying T = some (.slice E)) (hi : P.info? E = some i) (hz : i.zero = some zv) (hzs : zv.cells.size = i.size)
    (hs : 0 < i.size) {fr : Nat} (hfr : st.σ fr = none) {n : Nat} {parts : Array (Nat × Operand)} {ps : List AX} {rows : List (List C)} (hc : cparts 0 0 parts.toList = some ps) (hb : bSRows (ev st.sl) i.size ps = some rows) (hp : ∀ p ∈ ps, (ev st.sl p).pre)
    (hn : parts.size = n) (h24 : n * i.size ≤ 16777216) :
    Out P g st tmps w (do pure (.value (← Instr.buildSlice T n (parts.map fun (i, x) => (i, a.eval x))))) (.c (.osl fr)) [(fr, .arr E i.size rows false)] := by
  obtain ⟨vs, g1, g2, g3, g4⟩ := bS_rows (ev st.sl) a.eval hev parts.toList 0 ps rows hc hb hp
  have hvl : vs.length = n := by
    have := congrArg List.length g1
    simp at this; omega
  let z0 : Array Value := (Array.range (n * i.size)).map (zv.cells[· % zv.cells.size]!)
  have hz0 : z0.size = n * i.size := by simp [z0]
  obtain ⟨cells', h3, h4⟩ := fill_rows (s := i.size) vs 0 z0 g2 (by rw [hz0]; simp [hvl])
  have hnn : ¬ n * i.size > 16777216 := by omega
  have hcs : cells'.toList = vs.flatMap (·.cells.toList) := by
    rw [h4]; simp [hvl, hz0]
  have hrun : (Instr.buildSlice T n (parts.map fun (i, x) => (i, a.eval x))).run P w = .ok (.slice (some ⟨w.heap.size, 0, none⟩) n n) (w.alloc (.cells cells' E)) := by
    have hl : (parts.map fun (i, x) => (i, a.eval x)).toList = (vs.zipIdx 0).map (fun p => (p.2, p.1)) := by rw [Array.toList_map]; exact g1
    have h24' : ¬ 2 ^ 24 < n * i.size := by omega
    unfold Instr.buildSlice
    rw [Sem.run_bind, run_underlying hu, Result.andThen_ok]
    by_cases h0 : n * i.size = 0
    · have e1 : Array.range (n * i.size) = #[] := by rw [h0]; simp [Array.range]
      have e2 : z0 = #[] := by simp [z0, e1]
      rw [e2] at h3
      simp only [Sem.run_bind, sizeOf, typeInfo, run_program, Result.andThen_ok, hi, Sem.run_pure, gt_iff_lt, h0, if_true, hl]
      rw [show Array.range 0 = (#[] : Array Nat) from by simp [Array.range]]
      simp only [List.map_toArray, List.map_nil, h3]
      simp [newRow]
    · simp only [Sem.run_bind, sizeOf, typeInfo, run_program, Result.andThen_ok, hi, Sem.run_pure, gt_iff_lt, h24', if_false, h0, zeroValue, hz, hl]
      have h3' : Instr.fill (fun j => some (j * i.size, i.size)) ((Array.range (n * i.size)).map (zv.cells[· % zv.cells.size]!)) ((vs.zipIdx 0).map (fun p => (p.2, p.1))) = some cells' := h3
      rw [h3']
      simp [newRow]
  have hrl : rows.length = n := by omega
  have hf := out_fresh (E := E) hR (w1 := w) rfl rfl rfl rfl hfr hs (cur := cells') (cap := n) g4 (by have := congrArg List.length hcs; rw [g4.1, hrl] at this; simpa using this) (by omega) (by unfold maxLen; have := Nat.le_mul_of_pos_right n hs; omega) (fun k _ => by rw [← hcs]; simp)
  rw [hrl] at hf
  exact ⟨.value _, _, _, _, by simp [hrun], rfl, hf.1, hf.2⟩

end
end Go.Abs
namespace Go.Abs
open Go

section
variable {P : Program} {g : Gr} {m : Nat → Option Nat} {st : St} {tmps : Array Value} {w : World} {a : Act}

theorem out_fld1 (hR : R g m st tmps w) {T f : Nat} {fs : Array Field} {fd : Field} {d : TypeDesc} (hu : P.underlying T = some (.struct fs)) (hf : fs[f]? = some fd) (hd : P.underlying fd.type = some d) (hg : isAggD d = false)
    {cs : List C} {v : Value} (h : RSV (g.env m st w) (.agg cs) v) {c : C} (hc : cs[fd.offset]? = some c) : Out P g st tmps w (do pure (.value (← Instr.field T v f))) (.c c) [] := by
  obtain ⟨vs, rfl, h⟩ := h
  obtain ⟨x, hx, hr⟩ := h.get hc
  have hx' : vs[fd.offset]? = some x := by simpa using hx
  refine Out.quiet hR (v := x) ?_ hr
  simp [Instr.field, run_underlying hu, hf, part, run_isAgg hd, hg, asAgg, hx']

theorem out_fldn (hR : R g m st tmps w) {T f : Nat} {fs : Array Field} {fd : Field} {d : TypeDesc} {i : TypeInfo} (hu : P.underlying T = some (.struct fs)) (hf : fs[f]? = some fd) (hd : P.underlying fd.type = some d) (hg : isAggD d = true) (hi : P.info? fd.type = some i)
    {cs : List C} {v : Value} (h : RSV (g.env m st w) (.agg cs) v) : Out P g st tmps w (do pure (.value (← Instr.field T v f))) (.agg ((cs.drop fd.offset).take i.size)) [] := by
  obtain ⟨vs, rfl, h⟩ := h
  refine Out.quiet hR (v := .agg (vs.extract fd.offset (fd.offset + i.size))) ?_ ⟨_, rfl, ?_⟩
  · simp [Instr.field, run_underlying hu, hf, part, run_isAgg hd, hg, asAgg, sizeOf, typeInfo, hi]
  · have := (h.drop fd.offset).take i.size
    rw [Array.toList_extract, List.extract_eq_take_drop]
    simpa using this

theorem out_ext (hR : R g m st tmps w) {i : Nat} {vs : List SV} {v : Value} (h : RSV (g.env m st w) (.tup vs) v) {s : SV} (hs : vs[i]? = some s) : Out P g st tmps w (do pure (.value (← Instr.extract v i))) s [] := by
  obtain ⟨ws, rfl, h⟩ := h
  obtain ⟨x, hx, hr⟩ := h.get hs
  have hx' : ws[i]? = some x := by simpa using hx
  refine Out.quiet hR (v := x) (by simp [Instr.extract, hx']) ?_
  cases s <;> first | exact hr | exact hr.elim

theorem caps1_rl {e : Env} (ρ : AX → SV) (ev0 : Operand → Value) (hev : ∀ x ax, cx x = some ax → RSV e (ρ ax) (ev0 x)) : ∀ (xs : List Operand) (axs : List AX) (cs : List C), cxs xs = some axs → caps1 ρ axs = some cs → (∀ p ∈ axs, (ρ p).pre) → RL (RC0 e) cs (xs.map ev0)
  | [], axs, cs, h, hc, _ => by cases h; cases hc; exact RL.nil
  | x :: xs, axs, cs, h, hc, hp => by
    simp only [cxs] at h
    split at h
    · rename_i y ys h1 h2
      cases h
      simp only [caps1] at hc
      split at hc
      · rename_i c r h3 h4
        split at hc
        · cases hc
        · rename_i hne
          cases hc
          have hx := (hev x y h1).one (hp y (by simp)) h3
          exact RL.cons ((RC_iff0 hne).1 hx) (caps1_rl ρ ev0 hev xs ys r h2 h4 (fun p hp' => hp p (by simp [hp'])))
      · cases hc
    · cases h

theorem run_foldMx {e : Env} (isMax : Bool) (k : IntKind) : ∀ (xs : List SV) (vs : List Value) (n r : Int), RL (fun s v => s.pre → RSV e s v) xs vs → (∀ s ∈ xs, s.pre) → foldMx isMax k n xs = some r →
    (vs.foldlM (if isMax then Builtin.max2 else Builtin.min2) (.int k n)).run P w = .ok (.int k r) w
  | [], vs, n, r, h, _, hf => by
    rw [h.nil_inv]; cases hf; rfl
  | x :: xs, vs, n, r, h, hp, hf => by
    obtain ⟨v, vs, rfl, h1, h2⟩ := h.uncons
    simp only [foldMx] at hf
    split at hf
    · rename_i k' b hx
      have hv := one_v (h1 (hp x (by simp))) (hp x (by simp)) hx
      subst hv
      have ih := run_foldMx isMax k xs vs _ r h2 (fun s hs => hp s (by simp [hs])) hf
      cases isMax <;> simp only [List.foldlM_cons, Sem.run_bind] at ih ⊢ <;> simp only [if_true, if_false, Bool.false_eq_true, Builtin.max2, Builtin.min2, Sem.run_pure, Result.andThen_ok] at ih ⊢ <;> exact ih
    · cases hf

theorem out_mx (hR : R g m st tmps w) {isMax : Bool} {k : IntKind} {n r : Int} {s : SV} {xs : List SV} {v : Value} {vs : List Value} (h0 : RSV (g.env m st w) s v) (hp0 : s.pre) (hs : s.one? = some (.v (.int k n)))
    (h : RL (fun s v => RSV (g.env m st w) s v) xs vs) (hp : ∀ s ∈ xs, s.pre) (hf : foldMx isMax k n xs = some r) {Ts : Array TypeId} {ty : TypeId} :
    Out P g st tmps w (do pure (.value (← (if isMax then Builtin.max_ else Builtin.min_) Ts ty (v :: vs).toArray))) (.c (.v (.int k r))) [] := by
  have hv := one_v h0 hp0 hs
  subst hv
  have hr := run_foldMx (P := P) (w := w) isMax k xs vs n r (h.imp fun _ _ _ h _ => h) hp hf
  refine Out.quiet hR (v := .int k r) ?_ (RD.v _ rfl)
  cases isMax <;> simp only [if_true, if_false, Bool.false_eq_true] at hr ⊢ <;> simp only [Builtin.max_, Builtin.min_] <;> exact hr

theorem out_idxS (hR : R g m st tmps w) {T : TypeId} (hu : P.underlying T = some .string) {s : ByteArray} {k : IntKind} {n : Int} (h0 : 0 ≤ n) (h1 : n < s.size) :
    Out P g st tmps w (do pure (.value (← Instr.index T (.string s) (.int k n)))) (.c (.v (.int .u8 ((s.data[n.toNat]?).getD 0).toNat))) [] := by
  refine Out.quiet hR (v := .int .u8 ((s.data[n.toNat]?).getD 0).toNat) ?_ (RD.v _ rfl)
  have hn : n.toNat < s.size := by omega
  have he : s[n.toNat]? = s.data[n.toNat]? := by
    rw [getElem?_pos s n.toNat hn, Array.getElem?_eq_getElem hn]; rfl
  have hs : ∃ b, s.data[n.toNat]? = some b := ⟨_, Array.getElem?_eq_getElem hn⟩
  obtain ⟨b, hb⟩ := hs
  simp [Instr.index, asIntOf, run_underlying hu, h0, he, hb]

theorem out_slcS (hR : R g m st tmps w) {T : TypeId} (hu : P.underlying T = some .string) {s : ByteArray} {lo hi' : Option Value} {l h : Int} (hlo : (lo = none ∧ l = 0) ∨ ∃ k, lo = some (.int k l)) (hhi : (hi' = none ∧ h = s.size) ∨ ∃ k, hi' = some (.int k h))
    (h0 : 0 ≤ l) (h1 : l ≤ h) (h2 : h ≤ s.size) : Out P g st tmps w (do pure (.value (← Instr.sliceAt T (.string s) lo hi' none))) (.c (.v (.string (s.extract l.toNat h.toNat)))) [] := by
  have hb := run_sliceBounds (P := P) (w := w) (isS := false) (len := s.size) (cap := s.size) hlo hhi h0 h1 h2
  refine Out.quiet hR (v := .string (s.extract l.toNat h.toNat)) ?_ (RD.v _ rfl)
  simp [Instr.sliceAt, Instr.slice, run_underlying hu, hb]

theorem run_eqp {T E : TypeId} (hu : P.underlying T = some (.pointer E)) (n : Nat) (o : Option Addr) : (Op.equalIn (n + 1) T (.pointer o) (.pointer none)).run P w = .ok o.isNone w := by
  cases o <;> simp [Op.equalIn, run_underlying hu]

theorem run_eqsl {T E : TypeId} (hu : P.underlying T = some (.slice E)) (n : Nat) (o : Option Addr) (l c : Nat) : (Op.equalIn (n + 1) T (.slice o l c) (.slice none 0 0)).run P w = .ok o.isNone w := by
  cases o <;> simp [Op.equalIn, run_underlying hu]

theorem run_cmpP {T E : TypeId} (hu : P.underlying T = some (.pointer E)) (o : Option Addr) (x : Operand) : (do eqGuard .eql T x (.const (.pointer none)) (.pointer o) (.pointer none); binOp .eql T (.pointer o) (.pointer none) : Sem Value).run P w = .ok (.bool o.isNone) w ∧
    (do eqGuard .neq T x (.const (.pointer none)) (.pointer o) (.pointer none); binOp .neq T (.pointer o) (.pointer none) : Sem Value).run P w = .ok (.bool !o.isNone) w := by
  have h : (Op.equal T (.pointer o) (.pointer none)).run P w = .ok o.isNone w := run_eqp hu 9999 o
  have g1 : (eqGuard .eql T x (.const (.pointer none)) (.pointer o) (.pointer none)).run P w = .ok () w := rfl
  have g2 : (eqGuard .neq T x (.const (.pointer none)) (.pointer o) (.pointer none)).run P w = .ok () w := rfl
  constructor
  · rw [Sem.run_bind, g1, Result.andThen_ok]; simp [binOp, h]
  · rw [Sem.run_bind, g2, Result.andThen_ok]; simp [binOp, h]

theorem run_cmpS {T E : TypeId} (hu : P.underlying T = some (.slice E)) (o : Option Addr) (l c : Nat) (x : Operand) : (do eqGuard .eql T x (.const (.slice none 0 0)) (.slice o l c) (.slice none 0 0); binOp .eql T (.slice o l c) (.slice none 0 0) : Sem Value).run P w = .ok (.bool o.isNone) w ∧
    (do eqGuard .neq T x (.const (.slice none 0 0)) (.slice o l c) (.slice none 0 0); binOp .neq T (.slice o l c) (.slice none 0 0) : Sem Value).run P w = .ok (.bool !o.isNone) w := by
  have h : (Op.equal T (.slice o l c) (.slice none 0 0)).run P w = .ok o.isNone w := run_eqsl hu 9999 o l c
  have g1 : (eqGuard .eql T x (.const (.slice none 0 0)) (.slice o l c) (.slice none 0 0)).run P w = .ok () w := rfl
  have g2 : (eqGuard .neq T x (.const (.slice none 0 0)) (.slice o l c) (.slice none 0 0)).run P w = .ok () w := rfl
  constructor
  · rw [Sem.run_bind, g1, Result.andThen_ok]; simp [binOp, h]
  · rw [Sem.run_bind, g2, Result.andThen_ok]; simp [binOp, h]

end
end Go.Abs
namespace Go.Abs
open Go

section
variable {P : Program} {g : Gr} {m : Nat → Option Nat} {st : St} {tmps : Array Value} {w : World} {a : Act}

def isKeyD : TypeDesc → Bool
  | .int _ => true
  | _ => false

theorem run_checkKey {K : TypeId} {d : TypeDesc} (hu : P.underlying K = some d) (hd : isKeyD d = true) (b : Bool) (n : Nat) (v : Value) : (Instr.checkKey b (n + 1) K v).run P w = .ok () w := by
  unfold Instr.checkKey
  rw [Sem.run_bind, run_underlying hu, Result.andThen_ok]
  cases d <;> first | (cases hd; done) | rfl

theorem run_checkKey' {K : TypeId} {d : TypeDesc} (hu : P.underlying K = some d) (hd : isKeyD d = true) (b : Bool) (v : Value) : (Instr.checkKey b 10000 K v).run P w = .ok () w := run_checkKey hu hd b 9999 v

/-- What the map's rows are. -/
def MRows (e : Env) (agg : Bool) : List (Value × List C) → List MapEntry → Prop :=
  RL fun kv m => m.key = kv.1 ∧ (if agg then ∃ cs, m.val = .agg cs else one m.val = true) ∧ RL (RD e.h e.ok) kv.2 m.val.cells.toList

theorem sameNow_eq {d : TypeDesc} {x y : Value} (hd : (∃ j, d = .int j) ∧ ∃ j n, x = .int j n) (h : sameK x y) : Instr.sameNow d x y = some (keyEq x y) := by
  obtain ⟨⟨j, rfl⟩, k, n, rfl⟩ := hd
  cases y <;> first | exact h.elim | skip
  rename_i k' n'
  have hk : k = k' := h
  simp [Instr.sameNow, hk, keyEq]

theorem findNow_eq {e : Env} {agg : Bool} {d : TypeDesc} {k : Value} (hd : (∃ j, d = .int j) ∧ ∃ j n, k = .int j n) : ∀ (kvs : List (Value × List C)) (es : List MapEntry) (i : Nat), MRows e agg kvs es → (∀ p ∈ kvs, sameK k p.1) →
    (mfind kvs k = none ∧ Instr.findNow d k es i = some none) ∨ ∃ q v cs ent, mfind kvs k = some cs ∧ Instr.findNow d k es i = some (some (i + q, v)) ∧ es[q]? = some ent ∧ ent.val = v ∧ keyEq k ent.key = true ∧ (if agg then ∃ cs, v = .agg cs else one v = true) ∧ RL (RD e.h e.ok) cs v.cells.toList
  | [], es, i, h, _ => by
    rw [h.nil_inv]; exact .inl ⟨rfl, rfl⟩
  | kv :: kvs, es, i, h, hs => by
    obtain ⟨ent, es, rfl, ⟨h1, h2, h3⟩, ht⟩ := h.uncons
    have hsn : Instr.sameNow d k ent.key = some (keyEq k kv.1) := by rw [h1]; exact sameNow_eq hd (hs kv (by simp))
    simp only [mfind, Instr.findNow, hsn]
    cases hq : keyEq k kv.1 with
    | true => exact .inr ⟨0, ent.val, kv.2, ent, by simp, by simp, rfl, rfl, by rw [h1]; exact hq, h2, h3⟩
    | false =>
      have ih := findNow_eq hd kvs es (i + 1) ht (fun p hp => hs p (by simp [hp]))
      simp only [Bool.false_eq_true, if_false]
      rcases ih with ih | ⟨q, v, cs, ent', g1, g2, g3, g4⟩
      · exact .inl ih
      · exact .inr ⟨q + 1, v, cs, ent', g1, by rw [g2]; congr 3; omega, by simpa using g3, g4⟩

theorem run_findKey {K : TypeId} {d : TypeDesc} (hu : P.underlying K = some d) {k : Value} {es : List MapEntry} {r : Option (Nat × Value)} (h : Instr.findNow d k es 0 = some r) : (Instr.findKey K k es).run P w = .ok r w := by
  unfold Instr.findKey
  rw [Sem.run_bind, run_underlying hu, Result.andThen_ok, h]; rfl

theorem keyD_of {d : TypeDesc} {k : Value} (hd : (∃ j, d = .int j) ∧ ∃ j n, k = .int j n) : isKeyD d = true := by
  obtain ⟨⟨_, rfl⟩, _⟩ := hd; rfl

theorem run_getObj {r : Nat} {es : Array MapEntry} {clock : Nat} (h : w.heap[r]? = some (.map es clock)) : (getObj r).run P w = .ok (.map es clock) w := by
  simp [getObj, Sem.run, h]

theorem out_lkp (hR : R g m st tmps w) {T K V : TypeId} {d dv : TypeDesc} {i : TypeInfo} {zv : Value} (hT : P.underlying T = some (.map K V)) (hK : P.underlying K = some d) (hi : P.info? V = some i) (hz : i.zero = some zv) (hone : zv.cells.all one = true)
    (hzagg : isAggD dv = true → ∃ cs, zv = .agg cs) (hzone : isAggD dv = false → one zv = true) {ok : Bool} {id : Nat} {kvs : List (Value × List C)} (hid : st.σ id = some (.mp (isAggD dv) kvs)) {v k : Value} (hv : RC (g.env m st w) (.mp id) v)
    (hk : (∃ j, d = .int j) ∧ ∃ j n, k = .int j n) (hs : ∀ p ∈ kvs, sameK k p.1) (hl : isAggD dv = false → ((mfind kvs k).getD (zv.cells.toList.map .v)).length = 1) :
    Out P g st tmps w (do pure (.value (← Instr.lookup T v k ok)))
      (if ok then .tup [if isAggD dv then .agg ((mfind kvs k).getD (zv.cells.toList.map .v)) else .c ((((mfind kvs k).getD (zv.cells.toList.map .v))[0]?).getD default), .c (.v (.bool (mfind kvs k).isSome))]
        else if isAggD dv then .agg ((mfind kvs k).getD (zv.cells.toList.map .v)) else .c ((((mfind kvs k).getD (zv.cells.toList.map .v))[0]?).getD default)) [] := by
  obtain ⟨agg', kvs', b, h1, hb, rfl⟩ := hv
  have hE := hR.ent id _ hid
  rw [show m id = some b from hb] at hE
  obtain ⟨b', es, clock, hb', h2, h3⟩ := hE
  cases hb'
  have h2' : w.heap[b]? = some (.map es clock) := h2
  have hf := findNow_eq (e := g.env m st w) (agg := isAggD dv) hk kvs es.toList 0 h3 hs
  -- the value, and whether it was there
  have key : ∃ x, (∃ r, Instr.findNow d k es.toList 0 = some r ∧ ((r = none ∧ x = zv ∧ (mfind kvs k).isSome = false) ∨ ∃ q, r = some (q, x) ∧ (mfind kvs k).isSome = true)) ∧
      RSV (g.env m st w) (if isAggD dv then .agg ((mfind kvs k).getD (zv.cells.toList.map .v)) else .c ((((mfind kvs k).getD (zv.cells.toList.map .v))[0]?).getD default)) x := by
    rcases hf with ⟨g1, g2⟩ | ⟨q, x, cs, ent, g1, g2, _, _, _, g6, g7⟩
    · refine ⟨zv, ⟨none, g2, .inl ⟨rfl, rfl, by rw [g1]; rfl⟩⟩, ?_⟩
      rw [g1] at hl ⊢
      simp only [Option.getD_none] at hl ⊢
      have hzr := zero_rc (e := g.env m st w) hone
      split
      · rename_i ha
        obtain ⟨cs, rfl⟩ := hzagg ha
        exact ⟨cs, rfl, hzr⟩
      · rename_i ha
        have ha' : isAggD dv = false := by simpa using ha
        have ho := hzone ha'
        rw [one_cells ho] at hzr ⊢
        exact (hzr.2 0 _ _ rfl rfl)
    · refine ⟨x, ⟨_, g2, .inr ⟨_, rfl, by rw [g1]; rfl⟩⟩, ?_⟩
      rw [g1] at hl ⊢
      simp only [Option.getD_some] at hl ⊢
      split
      · rename_i ha
        simp only [ha, if_true] at g6
        obtain ⟨vs, rfl⟩ := g6
        exact ⟨vs, rfl, g7.imp fun _ _ _ h => h.rc⟩
      · rename_i ha
        have ha' : isAggD dv = false := by simpa using ha
        simp only [ha, if_false, Bool.false_eq_true] at g6
        rw [one_cells g6] at g7
        cases cs with
        | nil => have := hl ha'; simp at this
        | cons c cs => exact (g7.2 0 c x rfl rfl).rc
  obtain ⟨x, ⟨r, hr, hx⟩, hsv⟩ := key
  have hrun : (Instr.lookup T (.map (some b)) k ok).run P w = .ok (if ok then .tuple #[x, .bool (mfind kvs k).isSome] else x) w := by
    unfold Instr.lookup
    rw [Sem.run_bind, run_underlying hT, Result.andThen_ok]
    have hzrun : (zeroValue V).run P w = .ok zv w := by simp [zeroValue, typeInfo, hi, hz]
    simp only [Sem.run_bind, run_getObj h2', Result.andThen_ok, Sem.run_pure, run_checkKey' hK (keyD_of hk), run_findKey hK hr]
    rcases hx with ⟨rfl, rfl, hsome⟩ | ⟨q, rfl, hsome⟩
    · simp only [Sem.run_bind, hzrun, Result.andThen_ok, Sem.run_pure, hsome]
    · simp only [hsome]; rfl
  refine Out.quiet hR hrun ?_
  cases ok with
  | false => exact hsv
  | true =>
    refine ⟨_, rfl, RL.cons ?_ (RL.cons (show RSV1 _ (.c (.v _)) _ from RD.v _ rfl) RL.nil)⟩
    split at hsv <;> rename_i ha <;> simp only [ha, if_true, if_false, Bool.false_eq_true] <;> exact hsv

theorem out_mkM (hR : R g m st tmps w) {T : TypeId} {fr : Nat} (hfr : st.σ fr = none) (agg : Bool) :
    Out P g st tmps w (do pure (.value (← Instr.makeMap T none))) (.c (.mp fr)) [(fr, .mp agg [])] := by
  have hR' := hR.new (.map #[] 0) hfr (a := .mp agg []) (w' := w.alloc (.map #[] 0)) rfl rfl rfl rfl ⟨w.heap.size, #[], 0, rfl, push_new _ _, RL.nil⟩
  refine ⟨.value (.map (some w.heap.size)), _, _, w.alloc (.map #[] 0), ?_, rfl, hR', agg, [], w.heap.size, ?_, ?_, rfl⟩
  · simp [Instr.makeMap]
  · show upd _ _ _ _ = _; rw [upd_apply, if_pos rfl]
  · show upd _ _ _ _ = _; rw [upd_apply, if_pos rfl]

theorem sameBits_eq {x y : Value} (h : keyEq x y = true) (hs : sameK x y) (n : Nat) : Instr.sameBits n y x = true := by
  cases x <;> cases y <;> first | (cases h; done) | skip
  have hk := hs
  simp only [sameK] at hk
  simp only [keyEq, beq_iff_eq] at h
  subst hk; subst h
  simp [Instr.sameBits]

theorem mset_none {e : Env} {agg : Bool} {k : Value} {cs : List C} {new : MapEntry} (hn : new.key = k ∧ (if agg then ∃ cs, new.val = .agg cs else one new.val = true) ∧ RL (RD e.h e.ok) cs new.val.cells.toList) :
    ∀ (kvs : List (Value × List C)) (es : List MapEntry), MRows e agg kvs es → mfind kvs k = none → MRows e agg (mset kvs k cs) (es ++ [new])
  | [], es, h, _ => by rw [h.nil_inv]; exact RL.cons hn RL.nil
  | kv :: kvs, es, h, hf => by
    obtain ⟨ent, es, rfl, h1, ht⟩ := h.uncons
    simp only [mfind] at hf
    split at hf
    · cases hf
    · rename_i hq
      simp only [mset, hq, Bool.false_eq_true, if_false]
      exact RL.cons h1 (mset_none hn kvs es ht hf)

theorem mset_some {e : Env} {agg : Bool} {d : TypeDesc} {k : Value} {cs : List C} {f : MapEntry → MapEntry} (hd : (∃ j, d = .int j) ∧ ∃ j n, k = .int j n)
    (hn : ∀ ent, (f ent).key = k ∧ (if agg then ∃ cs, (f ent).val = .agg cs else one (f ent).val = true) ∧ RL (RD e.h e.ok) cs (f ent).val.cells.toList) :
    ∀ (kvs : List (Value × List C)) (es : List MapEntry) (i q : Nat) (v : Value), MRows e agg kvs es → (∀ p ∈ kvs, sameK k p.1) → Instr.findNow d k es i = some (some (i + q, v)) → MRows e agg (mset kvs k cs) (es.modify q f)
  | [], es, i, q, v, h, _, hf => by rw [h.nil_inv] at hf; cases hf
  | kv :: kvs, es, i, q, v, h, hs, hf => by
    obtain ⟨ent, es, rfl, h1, ht⟩ := h.uncons
    have hsn : Instr.sameNow d k ent.key = some (keyEq k kv.1) := by rw [h1.1]; exact sameNow_eq hd (hs kv (by simp))
    simp only [Instr.findNow, hsn] at hf
    cases hq : keyEq k kv.1 with
    | true =>
      simp only [hq, Option.some.injEq, Prod.mk.injEq] at hf
      have : q = 0 := by omega
      subst this
      simp only [mset, hq, if_true]
      simp only [List.modify_zero_cons]
      exact RL.cons (hn ent) ht
    | false =>
      simp only [hq] at hf
      have hge : ∀ (es : List MapEntry) (i j : Nat) (v : Value), Instr.findNow d k es i = some (some (j, v)) → i ≤ j := by
        intro es
        induction es with
        | nil => intro i j v h; cases h
        | cons e es ih =>
          intro i j v h
          simp only [Instr.findNow] at h
          split at h
          · simp only [Option.some.injEq, Prod.mk.injEq] at h; omega
          · have := ih _ _ _ h; omega
          · cases h
      have hge' := hge _ _ _ _ hf
      obtain ⟨q, rfl⟩ : ∃ q', q = q' + 1 := ⟨q - 1, by omega⟩
      simp only [mset, hq, Bool.false_eq_true, if_false, List.modify_succ_cons]
      exact RL.cons h1 (mset_some hd hn kvs es (i + 1) q v ht (fun p hp => hs p (by simp [hp])) (by rw [hf]; congr 3; omega))

theorem out_mup (hR : R g m st tmps w) {T K V : TypeId} {d : TypeDesc} (hT : P.underlying T = some (.map K V)) (hK : P.underlying K = some d) {agg : Bool} {id : Nat} {kvs : List (Value × List C)} (hid : st.σ id = some (.mp agg kvs)) {v k x : Value} (hv : RC (g.env m st w) (.mp id) v)
    (hk : (∃ j, d = .int j) ∧ ∃ j n, k = .int j n) (hs : ∀ p ∈ kvs, sameK k p.1) {cs : List C} (hx : RL (RC (g.env m st w)) cs x.cells.toList) (hcd : ∀ c ∈ cs, c.isD = true) (hsh : if agg then ∃ cs, x = .agg cs else one x = true) :
    Out P g st tmps w (do Instr.mapUpdate T v k x; pure .skip) .dead [(id, .mp agg (mset kvs k cs))] := by
  obtain ⟨agg', kvs', b, h1, hb, rfl⟩ := hv
  have hm : m id = some b := hb
  have hE := hR.ent id _ hid
  rw [hm] at hE
  obtain ⟨b', es, clock, hb', h2, h3⟩ := hE
  cases hb'
  have h2' : w.heap[b]? = some (.map es clock) := h2
  have hbl : b < w.heap.size := heap_lt h2'
  have hxr : RL (RD (g.env m st w).h (g.env m st w).ok) cs x.cells.toList := hx.imp fun c y hc h => h.rd (hcd c hc)
  have fin : ∀ (es' : Array MapEntry) (clock' : Nat), (Instr.mapUpdate T (.map (some b)) k x).run P w = .ok () { w with heap := w.heap.setIfInBounds b (.map es' clock') } → MRows (g.env m st w) agg (mset kvs k cs) es'.toList →
      Out P g st tmps w (do Instr.mapUpdate T (.map (some b)) k x; pure .skip) .dead [(id, .mp agg (mset kvs k cs))] := by
    intro es' clock' hrun hrows
    have ho : ∀ j, j ≠ b → (w.heap.setIfInBounds b (.map es' clock'))[j]? = w.heap[j]? := fun j hj => Array.getElem?_setIfInBounds_ne (by omega)
    have hcc : ∀ cur E, w.heap[b]? = some (.cells cur E (0, 0)) → ∃ cur', (w.heap.setIfInBounds b (.map es' clock'))[b]? = some (.cells cur' E (0, 0)) ∧ cur'.size = cur.size := fun cur E hc => by rw [h2'] at hc; cases hc
    have hle := le_write (g := g) (w' := { w with heap := w.heap.setIfInBounds b (.map es' clock') }) hid rfl hm (show EntLe (.mp agg kvs) (.mp agg (mset kvs k cs)) from rfl) (by simp) ho hcc
    have hR' := hR.write (a' := .mp agg (mset kvs k cs)) hid rfl hm rfl (w' := { w with heap := w.heap.setIfInBounds b (.map es' clock') }) (by simp) ho hcc rfl rfl rfl
      ⟨b, es', clock', rfl, by show (w.heap.setIfInBounds b _)[b]? = _; simp [hbl], hrows.imp fun _ _ _ h => ⟨h.1, h.2.1, h.2.2.imp fun _ _ _ h => RD.le hle h⟩⟩
    exact ⟨.skip, undef, m, _, by simp [hrun], rfl, hR', trivial⟩
  have hset : ∀ (es' : Array MapEntry) (clock' : Nat), (setObj b (.map es' clock')).run P w = .ok () { w with heap := w.heap.setIfInBounds b (.map es' clock') } := fun es' clock' => by
    simp [setObj, Sem.run, h2']
  have hf := findNow_eq (e := g.env m st w) (agg := agg) hk kvs es.toList 0 h3 hs
  rcases hf with ⟨g1, g2⟩ | ⟨q, y, cs', ent, g1, g2, g3, g4, g5, g6, g7⟩
  · refine fin (es.push { key := k, val := x, born := clock }) (clock + 1) ?_ ?_
    · unfold Instr.mapUpdate
      rw [Sem.run_bind, run_underlying hT, Result.andThen_ok]
      simp only [Sem.run_bind, run_getObj h2', Result.andThen_ok, run_checkKey' hK (keyD_of hk), run_findKey hK g2, hset]
    · rw [Array.toList_push]
      exact mset_none (k := k) (new := { key := k, val := x, born := clock }) ⟨rfl, hsh, hxr⟩ kvs es.toList h3 g1
  · simp only [Nat.zero_add] at g2
    have hkey : (((es[q]?).map (·.key)).getD k) = ent.key := by
      have : es[q]? = some ent := by simpa using g3
      rw [this]; rfl
    have hsame : sameK k ent.key := by
      obtain ⟨kv, hkv⟩ : ∃ kv, kvs[q]? = some kv := by
        have : q < es.toList.length := by
          rcases Nat.lt_or_ge q es.toList.length with h | h
          · exact h
          · rw [List.getElem?_eq_none h] at g3; cases g3
        rw [← h3.1] at this
        exact ⟨_, List.getElem?_eq_getElem this⟩
      have := h3.2 q kv ent hkv g3
      rw [this.1]
      exact hs kv (List.mem_of_getElem? hkv)
    have hstay : (Instr.keyThatStays ent.key k).run P w = .ok k w := by
      unfold Instr.keyThatStays
      rw [if_pos (sameBits_eq g5 hsame 10000)]; rfl
    refine fin (es.modify q fun e => { e with key := k, val := x }) clock ?_ ?_
    · unfold Instr.mapUpdate
      rw [Sem.run_bind, run_underlying hT, Result.andThen_ok]
      simp only [Sem.run_bind, run_getObj h2', Result.andThen_ok, run_checkKey' hK (keyD_of hk), run_findKey hK g2, hkey, hstay, hset]
    · rw [Array.toList_modify]
      exact mset_some hk (fun ent => ⟨rfl, hsh, hxr⟩) kvs es.toList 0 q y h3 hs (by simpa using g2)

end
end Go.Abs
namespace Go.Abs
open Go

section
variable {P : Program} {g : Gr} {m : Nat → Option Nat} {st : St} {tmps : Array Value} {w : World} {a : Act}

theorem presOf_mem {ρ : AX → SV} : ∀ {xs : List AX}, presOf ρ xs → ∀ x ∈ xs, (ρ x).pre
  | [], _, x, hx => by cases hx
  | y :: ys, h, x, hx => by
    rcases List.mem_cons.1 hx with rfl | hx
    · exact h.1
    · exact presOf_mem h.2 x hx

theorem pick_val {e : Env} {c x y : SV} {vc vx vy : Value} {t bx bY : Bool} (hc : RSV e c vc) (hx : RSV e x vx) (hy : RSV e y vy) (pc : c.pre) (h1 : c.one? = some (.v (.bool t))) (h2 : x.one? = some (.v (.bool bx))) (h3 : y.one? = some (.v (.bool bY)))
    (px : t = true → x.pre) (py : t = false → y.pre) : vc = .bool t ∧ (if t then vx else vy) = .bool (if t then bx else bY) := by
  refine ⟨one_v hc pc h1, ?_⟩
  cases t
  · simp only [Bool.false_eq_true, if_false]; exact one_v hy (py rfl) h3
  · simp only [if_true]; exact one_v hx (px rfl) h2

/-- What the operations up to the slices come to. -/
def Snd (P : Program) (op : Op) : Prop :=
  ∀ {g : Gr} {m : Nat → Option Nat} {st : St} {tmps : Array Value} {w : World} {a : Act} {o : Oper} {ao : AOp} {fr : Nat} {sv : SV} {ups : List (Nat × Ent)} {cond : Prop}, R g m st tmps w → a.tmps = tmps → o.op = op → comp P op = some ao →
    eff (ev st.sl) st.σ fr ao = some (sv, ups, cond) → cond → presOf (ev st.sl) ao.needs → Out P g st tmps w (execOp a.eval o) sv ups

theorem snd_move (x : Operand) : Snd P (.move x) ∧ Snd P (.assign x) := by
  constructor <;>
  · intro g m st tmps w a o ao fr sv ups cond hR ha ho hc he hcond hp
    simp only [comp, Option.map_eq_some_iff] at hc
    obtain ⟨ax, hx, rfl⟩ := hc
    cases he
    simp only [execOp, ho]
    exact Out.quiet' hR (ev_rsv hR ha hx)

theorem snd_pick (c x y : Operand) : Snd P (.pick c x y) := by
  intro g m st tmps w a o ao fr sv ups cond hR ha ho hc he hcond hp
  simp only [comp] at hc
  split at hc
  · rename_i c' x' y' h1 h2 h3
    cases hc
    simp only [eff] at he
    split at he
    · rename_i t bx bY g1 g2 g3
      cases he
      have hpc : (ev st.sl c').pre := hp.1
      obtain ⟨e1, e2⟩ := pick_val (ev_rsv hR ha h1) (ev_rsv hR ha h2) (ev_rsv hR ha h3) hpc g1 g2 g3 hcond.1 hcond.2
      simp only [execOp, ho, e1, asBool]
      exact ⟨.value _, _, m, w, rfl, rfl, hR, by rw [e2]; exact RD.v _ rfl⟩
    · cases he
  · cases hc

theorem snd_alloc (E : TypeId) : Snd P (.alloc E) := by
  intro g m st tmps w a o ao fr sv ups cond hR ha ho hc he hcond hp
  simp only [comp, Option.map_eq_some_iff] at hc
  obtain ⟨⟨z, s, b⟩, hz, rfl⟩ := hc
  obtain ⟨i, zv, hi, hzv, hone, _, rfl, _, _⟩ := czero_spec hz
  simp only [eff] at he
  split at he
  · rename_i hfr
    cases he
    have := out_new (P := P) (ty := E) (v := zv) hR hfr (zero_rc hone)
    simp only [execOp, ho]
    unfold Out at this ⊢
    obtain ⟨n, v, m', w', h1, h2⟩ := this
    refine ⟨n, v, m', w', ?_, h2⟩
    rw [← h1]
    simp [Instr.alloc, zeroValue, typeInfo, hi, hzv]
  · cases he

theorem snd_box (E : TypeId) (x : Operand) : Snd P (.box E x) := by
  intro g m st tmps w a o ao fr sv ups cond hR ha ho hc he hcond hp
  simp only [comp, Option.map_eq_some_iff] at hc
  obtain ⟨ax, hx, rfl⟩ := hc
  simp only [eff] at he
  split at he
  · rename_i cs hfr h1
    cases he
    simp only [execOp, ho]
    exact out_new hR hfr ((ev_rsv hR ha hx).cells hp.1 h1)
  · cases he

/-- Where an operand points. -/
theorem ptr_of (hR : R g m st tmps w) {c : C} {v : Value} (h : RC (g.env m st w) c v) :
    (∀ id off cs, c = .bp id off → st.σ id = some (.box cs) → PtrAt (g.env m st w) v (cs.drop off)) ∧
    (∀ id i off E s rows fz, c = .ep id i off → st.σ id = some (.arr E s rows fz) → i < rows.length → PtrAt (g.env m st w) v ((rows[i]?.getD []).drop off)) ∧
    (∀ cs, c = .rp cs → PtrAt (g.env m st w) v cs) := by
  refine ⟨?_, ?_, ?_⟩
  · rintro id off cs rfl hs
    exact ptr_bp h (hR.ent id _ hs)
  · rintro id i off E s rows fz rfl hs hi
    exact ptr_ep h hs (hR.ent id _ hs) hi
  · rintro cs rfl
    exact ptr_rp h

theorem row_len (hR : R g m st tmps w) {id : Nat} {E : TypeId} {s : Nat} {rows : List (List C)} {fz : Bool} (hs : st.σ id = some (.arr E s rows fz)) {i : Nat} (hi : i < rows.length) : (rows[i]?.getD []).length = s := by
  have := (hR.ent id _ hs).2.1 rows[i] (List.getElem_mem hi)
  rw [List.getElem?_eq_getElem hi]; exact this

theorem drop_cons {cs : List C} {off : Nat} {c : C} (h : cs[off]? = some c) : ∃ r, cs.drop off = c :: r := by
  have hl : off < cs.length := by
    rcases Nat.lt_or_ge off cs.length with h' | h'
    · exact h'
    · rw [List.getElem?_eq_none h'] at h; cases h
  rw [List.drop_eq_getElem_cons hl]
  rw [List.getElem?_eq_getElem hl] at h
  cases h
  exact ⟨_, rfl⟩

theorem snd_load (T : TypeId) (x : Operand) : Snd P (.load T x) := by
  intro g m st tmps w a o ao fr sv ups cond hR ha ho hc he hcond hp
  simp only [comp] at hc
  split at hc
  · rename_i d i ax hu hi hx
    simp only [execOp, ho]
    split at hc <;> cases hc
    · rename_i hd
      have hrun : ∀ cs, PtrAt (g.env m st w) (a.eval x) cs → cs.length = i.size → Out P g st tmps w (do pure (.value (← Instr.loadAt T (a.eval x)))) (.agg cs) [] := fun cs h1 h2 => by
        obtain ⟨vs, hr, hv⟩ := run_ldn (P := P) (e := g.env m st w) rfl hu hd hi h1 h2
        exact Out.quiet hR hr ⟨vs, rfl, hv⟩
      have hxs := ev_rsv hR ha hx
      simp only [eff] at he
      split at he
      · rename_i id off h1
        have hpt := ptr_of hR (hxs.one hp.1 h1)
        split at he
        · rename_i cs hid
          split at he
          · rename_i hl
            cases he
            exact hrun _ ((hpt.1 _ _ _ rfl hid).take _) (by simp; omega)
          · cases he
        · cases he
      · rename_i id n off h1
        have hpt := ptr_of hR (hxs.one hp.1 h1)
        split at he
        · rename_i E s rows fz hid
          cases he
          have hl := row_len hR hid hcond.1
          exact hrun _ ((hpt.2.1 _ _ _ _ _ _ _ rfl hid hcond.1).take _) (by have := hcond.2; simp; omega)
        · cases he
      · rename_i cs h1
        have hpt := ptr_of hR (hxs.one hp.1 h1)
        cases he
        exact hrun _ ((hpt.2.2 _ rfl).take _) (by have h : i.size ≤ cs.length := hcond; simp; omega)
      · cases he
    · rename_i hd
      have hrun : ∀ c cs, PtrAt (g.env m st w) (a.eval x) (c :: cs) → Out P g st tmps w (do pure (.value (← Instr.loadAt T (a.eval x)))) (.c c) [] := fun c cs h1 => by
        obtain ⟨v, hr, hv⟩ := run_ld1 (P := P) (e := g.env m st w) rfl hu (by simpa using hd) h1
        exact Out.quiet hR hr hv
      have hxs := ev_rsv hR ha hx
      simp only [eff] at he
      split at he
      · rename_i id off h1
        have hpt := ptr_of hR (hxs.one hp.1 h1)
        split at he
        · rename_i cs hid
          simp only [Option.map_eq_some_iff] at he
          obtain ⟨c, hcc, he⟩ := he
          cases he
          obtain ⟨r, hr⟩ := drop_cons hcc
          exact hrun c r (hr ▸ hpt.1 _ _ _ rfl hid)
        · cases he
      · rename_i id n off h1
        have hpt := ptr_of hR (hxs.one hp.1 h1)
        split at he
        · rename_i E s rows fz hid
          cases he
          have hl := row_len hR hid hcond.1
          have hc2 := hcond.2
          have hcc : (rows[n]?.getD [])[off]? = some ((rows[n]?.getD [])[off]'(by omega)) := List.getElem?_eq_getElem (by omega)
          obtain ⟨r, hr⟩ := drop_cons hcc
          rw [hcc]
          exact hrun _ r (hr ▸ hpt.2.1 _ _ _ _ _ _ _ rfl hid hcond.1)
        · cases he
      · rename_i cs h1
        have hpt := ptr_of hR (hxs.one hp.1 h1)
        cases he
        cases cs with
        | nil => exact absurd hcond (by simp)
        | cons c cs => exact hrun c cs (hpt.2.2 _ rfl)
      · cases he
  · cases hc

theorem snd_store (T : TypeId) (x y : Operand) : Snd P (.store T x y) := by
  intro g m st tmps w a o ao fr sv ups cond hR ha ho hc he hcond hp
  simp only [comp] at hc
  split at hc
  · rename_i i ax ay hi hx hy
    cases hc
    simp only [execOp, ho]
    have hxs := ev_rsv hR ha hx
    have hys := ev_rsv hR ha hy
    simp only [eff] at he
    split at he
    · rename_i id off ys h1 h2
      split at he
      · rename_i cs hid
        split at he
        · rename_i hl
          cases he
          exact out_st_box hR hi hid (hxs.one hp.1 h1) (hys.cells hp.2.1 h2) hl.1 hl.2
        · cases he
      · cases he
    · rename_i id n off ys h1 h2
      split at he
      · rename_i E s rows hid
        split at he
        · rename_i hl
          cases he
          exact out_st_arr hR hi hid (hxs.one hp.1 h1) (hys.cells hp.2.1 h2) hl hcond.1 hcond.2
        · cases he
      · cases he
    · cases he
  · cases hc

end
end Go.Abs
namespace Go.Abs
open Go

section
variable {P : Program}

theorem out_quiet_v {g : Gr} {m : Nat → Option Nat} {st : St} {tmps : Array Value} {w : World} (hR : R g m st tmps w) {sem : Sem Value} {v : Value} (hr : sem.run P w = .ok v w) (h1 : one v = true) : Out P g st tmps w (do pure (.value (← sem))) (.c (.v v)) [] :=
  Out.quiet hR hr (show RSV _ (.c (.v v)) v from RD.v v h1)

theorem snd_cmpP {g : Gr} {m : Nat → Option Nat} {st : St} {tmps : Array Value} {w : World} {a : Act} {o : Oper} {fr : Nat} {sv : SV} {ups : List (Nat × Ent)} {cond : Prop} (hR : R g m st tmps w) (ha : a.tmps = tmps) {op : BinOp} {T E U : TypeId} {x : Operand}
    (ho : o.op = .binOp op T x (.const (.pointer none)) U) (hu : P.underlying T = some (.pointer E)) {neg : Bool} (hop : op = if neg then .neq else .eql) {ax : AX} (hx : cx x = some ax) (he : eff (ev st.sl) st.σ fr (.cmpP neg ax) = some (sv, ups, cond)) (hpre : (ev st.sl ax).pre) :
    Out P g st tmps w (execOp a.eval o) sv ups := by
  have hxs := ev_rsv hR ha hx
  have fin : ∀ (ad : Option Addr) (b : Bool), a.eval x = .pointer ad → ad.isNone = b → sv = .c (.v (.bool (if neg then !b else b))) → ups = [] → Out P g st tmps w (execOp a.eval o) sv ups := by
    rintro ad b hv rfl rfl rfl
    have hr := run_cmpP (P := P) (w := w) hu ad x
    subst hop
    have e1 : a.eval (.const (.pointer none)) = .pointer none := rfl
    simp only [execOp, ho, hv, e1]
    cases neg
    · exact out_quiet_v hR hr.1 rfl
    · exact out_quiet_v hR hr.2 rfl
  simp only [eff] at he
  split at he
  · rename_i id off h1
    cases he
    obtain ⟨_, _, _, _, hv⟩ := hxs.one hpre h1
    exact fin _ false hv rfl (by cases neg <;> rfl) rfl
  · rename_i cs h1
    cases he
    obtain ⟨_, _, _, hv, _⟩ := hxs.one hpre h1
    exact fin _ false hv rfl (by cases neg <;> rfl) rfl
  · rename_i h1
    cases he
    have hv := one_v hxs hpre h1
    exact fin _ true hv rfl (by cases neg <;> rfl) rfl
  · cases he

theorem snd_cmpS {g : Gr} {m : Nat → Option Nat} {st : St} {tmps : Array Value} {w : World} {a : Act} {o : Oper} {fr : Nat} {sv : SV} {ups : List (Nat × Ent)} {cond : Prop} (hR : R g m st tmps w) (ha : a.tmps = tmps) {op : BinOp} {T E U : TypeId} {x : Operand}
    (ho : o.op = .binOp op T x (.const (.slice none 0 0)) U) (hu : P.underlying T = some (.slice E)) {neg : Bool} (hop : op = if neg then .neq else .eql) {ax : AX} (hx : cx x = some ax) (he : eff (ev st.sl) st.σ fr (.cmpS neg ax) = some (sv, ups, cond)) (hcond : cond) (hpre : (ev st.sl ax).pre) :
    Out P g st tmps w (execOp a.eval o) sv ups := by
  have hxs := ev_rsv hR ha hx
  have fin : ∀ (ad : Option Addr) (l c : Nat) (b : Bool), a.eval x = .slice ad l c → ad.isNone = b → sv = .c (.v (.bool (if neg then !b else b))) → ups = [] → Out P g st tmps w (execOp a.eval o) sv ups := by
    rintro ad l c b hv rfl rfl rfl
    have hr := run_cmpS (P := P) (w := w) hu ad l c x
    subst hop
    have e1 : a.eval (.const (.slice none 0 0)) = .slice none 0 0 := rfl
    simp only [execOp, ho, hv, e1]
    cases neg
    · exact out_quiet_v hR hr.1 rfl
    · exact out_quiet_v hR hr.2 rfl
  simp only [eff] at he
  split at he
  · rename_i h1
    cases he
    have hv := one_v hxs hpre h1
    exact fin _ _ _ true hv rfl (by cases neg <;> rfl) rfl
  · rename_i h1
    cases he
    have hv := one_v hxs hpre h1
    exact fin _ _ _ false hv rfl (by cases neg <;> rfl) rfl
  · rename_i rows h1
    cases he
    have hv : RD (g.env m st w).h (g.env m st w).ok (.sl rows) (a.eval x) := hxs.one hpre h1
    cases hv' : a.eval x <;> rw [hv'] at hv <;> cases hv
    · exact absurd rfl hcond
    · exact fin _ _ _ false hv' rfl (by cases neg <;> rfl) rfl
  · rename_i id h1
    split at he
    · rename_i E' s rows fz hid
      cases he
      obtain ⟨b, h2, h3⟩ := hxs.one hpre h1
      have h2' : st.σ id = some b := h2
      rw [hid] at h2'; cases h2'
      have hE := hR.ent id _ hid
      simp only at h3
      split at h3
      · rename_i hm
        rw [show m id = none from hm] at hE
        obtain ⟨_, _, ⟨_, h⟩ | ⟨_, _, _, h, _⟩⟩ := hE
        · exact absurd h hcond
        · cases h
      · obtain ⟨_, _, _, _, hv⟩ := h3
        exact fin _ _ _ false hv rfl (by cases neg <;> rfl) rfl
    · cases he
  · cases he

theorem snd_binOp (op : BinOp) (T : TypeId) (x y : Operand) (U : TypeId) : Snd P (.binOp op T x y U) := by
  intro g m st tmps w a o ao fr sv ups cond hR ha ho hc he hcond hp
  simp only [comp] at hc
  split at hc
  · rename_i hu hx; cases hc; exact snd_cmpP (neg := false) hR ha ho hu rfl hx he hp.1
  · rename_i hu hx; cases hc; exact snd_cmpP (neg := true) hR ha ho hu rfl hx he hp.1
  · rename_i hu hx; cases hc; exact snd_cmpS (neg := false) hR ha ho hu rfl hx he hcond hp.1
  · rename_i hu hx; cases hc; exact snd_cmpS (neg := true) hR ha ho hu rfl hx he hcond hp.1
  · rename_i hu hx hy
    cases hc
    simp only [eff] at he
    split at he
    · rename_i va vb h1 h2
      simp only [Option.map_eq_some_iff] at he
      obtain ⟨r, hb, he⟩ := he
      cases he
      have e1 := one_v (ev_rsv hR ha hx) hp.1 h1
      have e2 := one_v (ev_rsv hR ha hy) hp.2.1 h2
      simp only [execOp, ho, e1, e2]
      exact out_bin hR hu hb hcond
    · cases he
  · cases hc

theorem snd_unOp (op : UnOp) (T : TypeId) (x : Operand) : Snd P (.unOp op T x) := by
  intro g m st tmps w a o ao fr sv ups cond hR ha ho hc he hcond hp
  simp only [comp, Option.map_eq_some_iff] at hc
  obtain ⟨ax, hx, rfl⟩ := hc
  simp only [eff] at he
  split at he
  · rename_i va h1
    simp only [Option.map_eq_some_iff] at he
    obtain ⟨r, hb, he⟩ := he
    cases he
    simp only [execOp, ho, one_v (ev_rsv hR ha hx) hp.1 h1]
    exact out_un hR hb
  · cases he

theorem byteRow_len {rows : List (List C)} (h : ∀ r ∈ rows, isByteRow r) : ∀ r ∈ rows, r.length = 1 := by
  intro r hr
  obtain ⟨n, rfl⟩ := h r hr
  rfl

theorem snd_convert (S T : TypeId) (x : Operand) : Snd P (.convert S T x) := by
  intro g m st tmps w a o ao fr sv ups cond hR ha ho hc he hcond hp
  simp only [comp] at hc
  split at hc
  · rename_i dS k ax hS hT hx
    cases hc
    simp only [eff] at he
    split at he
    · rename_i kk n h1
      cases he
      simp only [execOp, ho, one_v (ev_rsv hR ha hx) hp.1 h1]
      refine out_quiet_v hR ?_ rfl
      simp [convert, run_underlying hT, run_underlying hS, Conv.intToInt]
    · cases he
  · rename_i E ax hS hT hx
    split at hc
    · rename_i hE
      cases hc
      simp only [eff] at he
      split at he
      · rename_i rows h1
        cases he
        simp only [Option.bind_eq_some_iff] at h1
        obtain ⟨c, h1, h2⟩ := h1
        simp only [execOp, ho]
        exact out_b2s hR hS hE hT (slAt_of ((ev_rsv hR ha hx).one hp.1 h1) h2 (byteRow_len hcond) hR.ent) hcond
      · cases he
    · cases hc
  · rename_i E ax hS hT hx
    split at hc
    · rename_i hE
      cases hc
      simp only [eff] at he
      split at he
      · rename_i s h1
        cases he
        simp only [execOp, ho, one_v (ev_rsv hR ha hx) hp.1 h1]
        exact out_s2b hR hS hT hE
      · cases he
    · cases hc
  · rename_i E' E ax hS hT hx
    split at hc
    · rename_i hST hE
      cases hc
      simp only [eff] at he
      split at he
      · rename_i id h1
        split at he
        · rename_i Ea s rows hid
          cases he
          simp only [execOp, ho]
          exact out_cvB hR hST hS hT hE hid ((ev_rsv hR ha hx).one hp.1 h1) hcond.1 hcond.2
        · cases he
      · cases he
    · cases hc
  · cases hc

theorem snd_nilCheck (x : Operand) : Snd P (.nilCheck x) := by
  intro g m st tmps w a o ao fr sv ups cond hR ha ho hc he hcond hp
  simp only [comp, Option.map_eq_some_iff] at hc
  obtain ⟨ax, hx, rfl⟩ := hc
  have hxs := ev_rsv hR ha hx
  simp only [eff] at he
  split at he
  · rename_i id off h1
    cases he
    have hv := hxs.one hp.1 h1
    obtain ⟨cs, b, h2, h3, h4⟩ := hv
    simp only [execOp, ho, h4]
    exact ⟨.value _, _, m, w, rfl, rfl, hR, cs, b, h2, h3, rfl⟩
  · rename_i cs h1
    cases he
    have hv := hxs.one hp.1 h1
    obtain ⟨b, off, h2, h4, h5⟩ := hv
    simp only [execOp, ho, h4]
    exact ⟨.value _, _, m, w, rfl, rfl, hR, b, off, h2, rfl, h5⟩
  · cases he

theorem snd_fieldAddr (S : TypeId) (x : Operand) (f : Nat) : Snd P (.fieldAddr S x f) := by
  intro g m st tmps w a o ao fr sv ups cond hR ha ho hc he hcond hp
  simp only [comp] at hc
  split at hc
  · rename_i fs ax hu hx
    split at hc
    · rename_i fd hf
      split at hc
      · rename_i i hi
        split at hc
        · cases hc
        · rename_i h0
          cases hc
          simp only [execOp, ho]
          have hxs := ev_rsv hR ha hx
          simp only [eff] at he
          split at he
          · rename_i id off h1
            cases he
            exact (out_fa hR hu hf hi h0 (hxs.one hp.1 h1)).1 _ _ rfl
          · rename_i id n off h1
            split at he
            · rename_i hid
              cases he
              exact (out_fa hR hu hf hi h0 (hxs.one hp.1 h1)).2.1 _ _ _ rfl (fun a ha' => by rw [hid] at ha'; cases ha'; simp)
            · cases he
          · rename_i cs h1
            cases he
            exact (out_fa hR hu hf hi h0 (hxs.one hp.1 h1)).2.2 _ rfl
          · cases he
      · cases hc
    · cases hc
  · cases hc

end
end Go.Abs
namespace Go.Abs
open Go

section
variable {P : Program}

theorem snd_indexAddr (T : TypeId) (x y : Operand) : Snd P (.indexAddr T x y) := by
  intro g m st tmps w a o ao fr sv ups cond hR ha ho hc he hcond hp
  simp only [comp] at hc
  split at hc
  · rename_i E ax ai hu hx hi
    simp only [Option.map_eq_some_iff] at hc
    obtain ⟨i, hinf, rfl⟩ := hc
    simp only [eff] at he
    split at he
    · rename_i rows k n h1 h2
      cases he
      simp only [execOp, ho, one_v (ev_rsv hR ha hi) hp.2.1 h2]
      exact out_ia_sl hR hu hinf ((ev_rsv hR ha hx).one hp.1 h1) hcond.1 hcond.2.1 hcond.2.2
    · rename_i id k n h1 h2
      split at he
      · rename_i E' s rows fz hid
        split at he
        · rename_i hs
          cases he
          subst hs
          simp only [execOp, ho, one_v (ev_rsv hR ha hi) hp.2.1 h2]
          exact out_ia_osl hR hu hinf hid ((ev_rsv hR ha hx).one hp.1 h1) hcond.1 hcond.2
        · cases he
      · cases he
    · rename_i id lo k n h1 h2
      split at he
      · rename_i E' s rows hid
        split at he
        · rename_i hs
          cases he
          subst hs
          simp only [execOp, ho, one_v (ev_rsv hR ha hi) hp.2.1 h2]
          exact out_ia_ow hR hu hinf hid ((ev_rsv hR ha hx).one hp.1 h1) hcond.1 hcond.2
        · cases he
      · cases he
    · cases he
  · cases hc

theorem snd_index (T : TypeId) (x y : Operand) : Snd P (.index T x y) := by
  intro g m st tmps w a o ao fr sv ups cond hR ha ho hc he hcond hp
  simp only [comp] at hc
  split at hc
  · rename_i ax ai hu hx hi
    cases hc
    simp only [eff] at he
    split at he
    · rename_i s k n h1 h2
      cases he
      simp only [execOp, ho, one_v (ev_rsv hR ha hx) hp.1 h1, one_v (ev_rsv hR ha hi) hp.2.1 h2]
      exact out_idxS hR hu hcond.1 hcond.2
    · cases he
  · cases hc

/-- A bound of a cut. -/
theorem bound_of {g : Gr} {m : Nat → Option Nat} {st : St} {tmps : Array Value} {w : World} {a : Act} (hR : R g m st tmps w) (ha : a.tmps = tmps) {lo : Option Operand} {al : Option AX} (h : cxo lo = some al) (hp : ∀ x ∈ al.toList, (ev st.sl x).pre) {dflt l : Int}
    (hl : bnd (ev st.sl) dflt al = some l) : (lo.map a.eval = none ∧ l = dflt) ∨ ∃ k, lo.map a.eval = some (.int k l) := by
  cases lo with
  | none =>
    cases h
    cases hl
    exact .inl ⟨rfl, rfl⟩
  | some x =>
    simp only [cxo, Option.map_eq_some_iff] at h
    obtain ⟨ax, hx, rfl⟩ := h
    simp only [bnd] at hl
    split at hl
    · rename_i k n h1
      cases hl
      exact .inr ⟨k, by rw [Option.map_some, one_v (ev_rsv hR ha hx) (hp ax (by simp)) h1]⟩
    · cases hl

theorem bound_of' {g : Gr} {m : Nat → Option Nat} {st : St} {tmps : Array Value} {w : World} {a : Act} (hR : R g m st tmps w) (ha : a.tmps = tmps) {lo : Option Operand} {al : Option AX} (h : cxo lo = some al) (hp : ∀ x ∈ al.toList, (ev st.sl x).pre) (dflt : Int) {l : Option Int}
    (hl : bnd' (ev st.sl) al = some l) : (lo.map a.eval = none ∧ l.getD dflt = dflt) ∨ ∃ k, lo.map a.eval = some (.int k (l.getD dflt)) := by
  cases lo with
  | none =>
    cases h
    cases hl
    exact .inl ⟨rfl, rfl⟩
  | some x =>
    simp only [cxo, Option.map_eq_some_iff] at h
    obtain ⟨ax, hx, rfl⟩ := h
    simp only [bnd'] at hl
    split at hl
    · rename_i k n h1
      cases hl
      exact .inr ⟨k, by rw [Option.map_some, one_v (ev_rsv hR ha hx) (hp ax (by simp)) h1]; rfl⟩
    · cases hl

theorem snd_slice (T : TypeId) (x : Operand) (lo hi mx : Option Operand) : Snd P (.slice T x lo hi mx) := by
  intro g m st tmps w a o ao fr sv ups cond hR ha ho hc he hcond hp
  simp only [comp] at hc
  split at hc
  · rename_i E ax al ah hu hx hlo hhi
    simp only [Option.map_eq_some_iff] at hc
    obtain ⟨i, hinf, rfl⟩ := hc
    have hpx : (ev st.sl ax).pre := hp.1
    have hpm : ∀ y ∈ al.toList ++ ah.toList, (ev st.sl y).pre := presOf_mem hp.2
    simp only [eff] at he
    split at he
    · split at he
      · rename_i c l h h1 hl hh
        have hxs := (ev_rsv hR ha hx).one hpx h1
        have bl := fun d => bound_of' hR ha hlo (fun y hy => hpm y (List.mem_append_left _ hy)) d hl
        have bh := fun d => bound_of' hR ha hhi (fun y hy => hpm y (List.mem_append_right _ hy)) d hh
        simp only [execOp, ho, Option.map_none]
        unfold keepTo at he
        split at he
        · cases he
          rw [rc_v hxs]
          obtain ⟨c1, c2⟩ := hcond
          have hl0 := bl 0
          have hh0 := bh 0
          rw [c1] at hl0
          rw [c2] at hh0
          exact out_quiet_v hR (v := .slice none 0 0) (by
            have := run_slc0 (P := P) (w := w) (len := 0) (cap := 0) (l := 0) (h := 0) hu hinf none hl0 hh0 (by omega) (by omega) (by omega)
            simpa using this) rfl
        · rename_i id l
          split at he
          · rename_i E' s' rows fz hid
            split at he
            · rename_i hss
              cases he
              subst hss
              exact out_slc_ow hR hu hinf hid hxs (by have := bl 0; simp only [Option.getD_some] at this; exact this) (by have := bh (rows.length : Int); simpa using this) hcond.1 hcond.2.1 hcond.2.2
            · cases he
          · cases he
        · rename_i id h
          split at he
          · rename_i E' s' rows hfr hid
            split at he
            · rename_i hss
              cases he
              subst hss
              exact out_slc_cut hR hu hinf hfr hid hxs (by have := bl 0; simpa using this) (by have := bh (rows.length : Int); simp only [Option.getD_some] at this; exact this) hcond.1 hcond.2
            · cases he
          · cases he
        · cases he
      · cases he
    · split at he
      rename_i c l h h1 hl hh
      · have hxs := (ev_rsv hR ha hx).one hpx h1
        have bl := bound_of hR ha hlo (fun y hy => hpm y (List.mem_append_left _ hy)) hl
        have bh := fun d => bound_of' hR ha hhi (fun y hy => hpm y (List.mem_append_right _ hy)) d hh
        unfold sliceTo at he
        split at he
        · cases he
        · rename_i rows hrows
          simp only at he
          split at he
          · rename_i id
            split at he
            · rename_i E' s' rows' fz hid
              split at he
              · rename_i hss
                cases he
                have hrr : rows = rows' := by simp only [rowsOf, hid, Option.some.injEq] at hrows; exact hrows.symm
                subst hrr
                subst hss
                obtain ⟨c0, c1, c2, c3⟩ := hcond
                have hR' := hR.freeze hid
                have hle := le_freeze (g := g) (m := m) (w := w) hid
                have hid' : upd st.σ id (some (.arr E' i.size rows true)) id = some (.arr E' i.size rows true) := by rw [upd_apply, if_pos rfl]
                have hrd := osl_rd hR' hid' c3 (RC.le hle hxs) (fun b hb => ok_frozen hR hid hb)
                have hsz := (hR.ent id _ hid).2.1
                obtain ⟨v, hr, hv⟩ := run_slc_sl (P := P) (st := { st with σ := upd st.σ id (some (.arr E' i.size rows true)) }) hu hinf hrd hsz bl (bh rows.length) c0 c1 c2
                simp only [execOp, ho, Option.map_none]
                exact ⟨.value v, v, m, w, by simp [hr], rfl, hR', hv.rc⟩
              · cases he
            · cases he
          · cases he
          · cases he
          · cases he
            obtain ⟨c0, c1, c2, c3⟩ := hcond
            have hrd : RD (g.env m st w).h (g.env m st w).ok (.sl rows) (a.eval x) := by
              unfold rowsOf at hrows
              split at hrows
              · cases hrows
                have hv := rc_v hxs
                rw [hv]; exact .nil
              · exfalso; simp_all
              · cases hrows
                exact hxs
              · exfalso; simp_all
              · exfalso; simp_all
              · cases hrows
            obtain ⟨v, hr, hv⟩ := run_slc_sl (P := P) hu hinf hrd c3 bl (bh rows.length) c0 c1 c2
            simp only [execOp, ho, Option.map_none]
            exact Out.quiet hR hr hv.rc
      · cases he
  · rename_i ax al ah hu hx hlo hhi
    cases hc
    have hpx : (ev st.sl ax).pre := hp.1
    have hpm : ∀ y ∈ al.toList ++ ah.toList, (ev st.sl y).pre := presOf_mem hp.2
    simp only [eff] at he
    split at he
    · rename_i s h1
      split at he
      · rename_i l h hl hh
        cases he
        have bl := bound_of hR ha hlo (fun y hy => hpm y (List.mem_append_left _ hy)) hl
        have bh := bound_of hR ha hhi (fun y hy => hpm y (List.mem_append_right _ hy)) hh
        simp only [execOp, ho, Option.map_none, one_v (ev_rsv hR ha hx) hpx h1]
        exact out_slcS hR hu bl bh hcond.1 hcond.2.1 hcond.2.2
      · cases he
    · cases he
  · cases hc

theorem snd_makeSlice (T : TypeId) (x y : Operand) : Snd P (.makeSlice T x y) := by
  intro g m st tmps w a o ao fr sv ups cond hR ha ho hc he hcond hp
  simp only [comp] at hc
  split at hc
  · rename_i E ax ay hu hx hy
    split at hc
    · rename_i z s b hz
      split at hc
      · rename_i hsb
        cases hc
        obtain ⟨i, zv, hi, hzv, hone, hzs, rfl, rfl, rfl⟩ := czero_spec hz
        simp only [eff] at he
        split at he
        · rename_i k n k' c hfr h1 h2
          cases he
          simp only [execOp, ho, one_v (ev_rsv hR ha hx) hp.1 h1, one_v (ev_rsv hR ha hy) hp.2.1 h2]
          exact out_mkS hR hu hi hzv hone hzs hsb.1 hsb.2 hfr hcond.1 hcond.2.1 hcond.2.2
        · cases he
      · cases hc
    · cases hc
  · cases hc

theorem snd_buildSlice (T : TypeId) (n : Nat) (parts : Array (Nat × Operand)) : Snd P (.buildSlice T n parts) := by
  intro g m st tmps w a o ao fr sv ups cond hR ha ho hc he hcond hp
  simp only [comp] at hc
  split at hc
  · rename_i E ps hu hps
    split at hc
    · rename_i z s b hz
      split at hc
      · rename_i hsb
        cases hc
        obtain ⟨i, zv, hi, hzv, hone, hzs, rfl, rfl, rfl⟩ := czero_spec hz
        simp only [eff] at he
        split at he
        · rename_i rows hfr h1
          cases he
          simp only [execOp, ho]
          exact out_bS hR (fun x ax hx => ev_rsv hR ha hx) hu hi hzv hzs hsb.1 hfr hps h1 (presOf_mem hp) hsb.2.1 hsb.2.2
        · cases he
      · cases hc
    · cases hc
  · cases hc

theorem snd_build (T : TypeId) (parts : Array (Nat × Operand)) : Snd P (.build T parts) := by
  intro g m st tmps w a o ao fr sv ups cond hR ha ho hc he hcond hp
  simp only [comp] at hc
  split at hc
  · rename_i fs z s b hu hz
    split at hc
    · rename_i pl hpl
      simp only [Option.map_eq_some_iff] at hc
      obtain ⟨ps, hps, rfl⟩ := hc
      obtain ⟨i, zv, hi, hzv, hone, hzs, rfl, rfl, rfl⟩ := czero_spec hz
      simp only [eff, Option.map_eq_some_iff] at he
      obtain ⟨cs, hb, he⟩ := he
      cases he
      have hpre : ∀ p ∈ ps, (ev st.sl p.2.2).pre := fun p hp' => presOf_mem hp p.2.2 (List.mem_map_of_mem hp')
      obtain ⟨cells', h1, h2⟩ := fill_bld (e := g.env m st w) (ev st.sl) a.eval (fun x ax hx => ev_rsv hR ha hx) parts.toList ps _ cs zv.cells hps hb hpre (zero_rc hone)
      have hbt : P.built T (parts.map fun (i, x) => (i, a.eval x)).toList = some cells' := by
        unfold Program.built
        simp only [hi, hu, hzv, hpl, Array.toList_map]
        exact h1
      simp only [execOp, ho]
      exact Out.quiet hR (run_build w T _ cells' hbt) ⟨cells', rfl, h2⟩
    · cases hc
  · cases hc

theorem snd_field (T : TypeId) (x : Operand) (f : Nat) : Snd P (.field T x f) := by
  intro g m st tmps w a o ao fr sv ups cond hR ha ho hc he hcond hp
  simp only [comp] at hc
  split at hc
  · rename_i fs ax hu hx
    split at hc
    · rename_i fd hf
      split at hc
      · rename_i d i hd hi
        have hxs := (ev_rsv hR ha hx).core
        split at hc <;> cases hc
        · rename_i hg
          simp only [eff] at he
          split at he
          · rename_i cs h1
            split at he
            · cases he
              have := hxs hp.1
              rw [h1] at this
              simp only [execOp, ho]
              exact out_fldn hR hu hf hd hg hi this
            · cases he
          · cases he
        · rename_i hg
          simp only [eff] at he
          split at he
          · rename_i cs h1
            simp only [Option.map_eq_some_iff] at he
            obtain ⟨c, hc', he⟩ := he
            cases he
            have := hxs hp.1
            rw [h1] at this
            simp only [execOp, ho]
            exact out_fld1 hR hu hf hd (by simpa using hg) this hc'
          · cases he
      · cases hc
    · cases hc
  · cases hc

theorem snd_extract (x : Operand) (i : Nat) : Snd P (.extract x i) := by
  intro g m st tmps w a o ao fr sv ups cond hR ha ho hc he hcond hp
  simp only [comp, Option.map_eq_some_iff] at hc
  obtain ⟨ax, hx, rfl⟩ := hc
  simp only [eff] at he
  split at he
  · rename_i vs h1
    simp only [Option.map_eq_some_iff] at he
    obtain ⟨s, hs, he⟩ := he
    cases he
    have := (ev_rsv hR ha hx).core hp.1
    rw [h1] at this
    simp only [execOp, ho]
    exact out_ext hR this hs
  · cases he

theorem snd_makeFunc (f : Fn) (first caps : Array Operand) : Snd P (.makeFunc f first caps) := by
  intro g m st tmps w a o ao fr sv ups cond hR ha ho hc he hcond hp
  cases f with
  | func f =>
    simp only [comp] at hc
    split at hc
    · rename_i hf
      simp only [Option.map_eq_some_iff] at hc
      obtain ⟨axs, hx, rfl⟩ := hc
      simp only [eff, Option.map_eq_some_iff] at he
      obtain ⟨cs, hcs, he⟩ := he
      cases he
      have hrl := caps1_rl (e := g.env m st w) (ev st.sl) a.eval (fun x ax hx => ev_rsv hR ha hx) caps.toList axs cs hx hcs (presOf_mem hp)
      simp only [execOp, ho]
      have hfe : first = #[] := by simpa [Array.isEmpty_iff] using hf
      subst hfe
      refine Out.quiet hR (v := .func (.func f) #[] (caps.map a.eval)) (by simp [Instr.makeFunc]) ⟨_, rfl, by rw [Array.toList_map]; exact hrl⟩
    · cases hc
  | _ => cases hc

theorem snd_makeMap (T : TypeId) (r : Option Operand) : Snd P (.makeMap T r) := by
  intro g m st tmps w a o ao fr sv ups cond hR ha ho hc he hcond hp
  simp only [comp] at hc
  split at hc
  · rename_i K V hu
    simp only [Option.map_eq_some_iff] at hc
    obtain ⟨d, hd, rfl⟩ := hc
    simp only [eff] at he
    split at he
    · rename_i hfr
      cases he
      simp only [execOp, ho, Option.map_none]
      exact out_mkM hR hfr _
    · cases he
  · cases hc

end
end Go.Abs
namespace Go.Abs
open Go

section
variable {P : Program}

theorem snd_lookup (T : TypeId) (x y : Operand) (ok : Bool) : Snd P (.lookup T x y ok) := by
  intro g m st tmps w a o ao fr sv ups cond hR ha ho hc he hcond hp
  simp only [comp] at hc
  split at hc
  · rename_i K V ax ay hu hx hy
    split at hc
    · rename_i kk d z s b hK hV hz
      split at hc
      · rename_i hzs
        cases hc
        obtain ⟨i, zv, hi, hzv, hone, _, rfl, _, _⟩ := czero_spec hz
        simp only [zshape, hi, hzv] at hzs
        simp only [eff] at he
        split at he
        · rename_i id j n h1 h2
          split at he
          · rename_i agg' kvs hid
            split at he
            · rename_i hag
              cases he
              subst hag
              have hyv := one_v (ev_rsv hR ha hy) hp.2.1 h2
              simp only [execOp, ho, hyv]
              exact out_lkp hR hu hK hi hzv hone (fun h => by rw [h] at hzs; cases zv <;> first | exact ⟨_, rfl⟩ | (simp at hzs; done)) (fun h => by rw [h] at hzs; cases zv <;> first | (simp at hzs; done) | rfl | exact (by simpa using hzs)) hid ((ev_rsv hR ha hx).one hp.1 h1) ⟨⟨kk, rfl⟩, j, n, rfl⟩ hcond.1 hcond.2
            · cases he
          · cases he
        · cases he
      · cases hc
    · cases hc
  · cases hc

theorem snd_mapUpdate (T : TypeId) (x y z : Operand) : Snd P (.mapUpdate T x y z) := by
  intro g m st tmps w a o ao fr sv ups cond hR ha ho hc he hcond hp
  simp only [comp] at hc
  split at hc
  · rename_i K V ax ay az hu hx hy hz
    split at hc
    · rename_i kk hK
      simp only [Option.map_eq_some_iff] at hc
      obtain ⟨d, hd, rfl⟩ := hc
      simp only [eff] at he
      split at he
      · rename_i id j n cs h1 h2 h3
        split at he
        · rename_i agg' kvs hid
          split at he
          · rename_i hag
            cases he
            subst hag
            have hyv := one_v (ev_rsv hR ha hy) hp.2.1 h2
            have hzs := ev_rsv hR ha hz
            have hpz : (ev st.sl az).pre := hp.2.2.1
            simp only [execOp, ho, hyv]
            have key : RL (RC (g.env m st w)) cs (a.eval z).cells.toList ∧ (if isAggD d then ∃ cs, a.eval z = .agg cs else one (a.eval z) = true) := by
              split at h3
              · rename_i hag
                split at h3
                · rename_i cs' hcore
                  cases h3
                  have := hzs.core hpz
                  rw [hcore] at this
                  obtain ⟨vs, hv, hr⟩ := this
                  rw [hv, if_pos hag]
                  exact ⟨hr, vs, rfl⟩
                · cases h3
              · rename_i hag
                simp only [Option.map_eq_some_iff] at h3
                obtain ⟨c, hc1, rfl⟩ := h3
                have := hzs.one hpz hc1
                rw [if_neg hag, one_cells this.one]
                exact ⟨RL.cons this RL.nil, this.one⟩
            exact out_mup hR hu hK hid ((ev_rsv hR ha hx).one hp.1 h1) ⟨⟨kk, rfl⟩, j, n, rfl⟩ hcond.2 key.1 hcond.1 key.2
          · cases he
        · cases he
      · cases he
    · cases hc
  · cases hc

theorem mk1 {α : Type} {xs : Array α} {x : α} (h : xs.toList = [x]) : xs = #[x] := by
  rw [← Array.toArray_toList (xs := xs), h]

theorem mk2 {α : Type} {xs : Array α} {x y : α} (h : xs.toList = [x, y]) : xs = #[x, y] := by
  rw [← Array.toArray_toList (xs := xs), h]

theorem snd_len {c : Call} (hb : c.callee = .builtin .len) : Snd P (.call c) := by
  intro g m st tmps w a o ao fr sv ups cond hR ha ho hc he hcond hp
  simp only [comp, ccall, hb] at hc
  split at hc
  · rename_i x T hargs hty
    have ea := mk1 hargs
    have et := mk1 hty
    have hx1 : ∀ ty, (do let d ← resolve a.eval c ty; invoke d.target d.args : Sem Next) = (do pure (.value (← Builtin.len_ #[T] ty #[a.eval x])) : Sem Next) := fun ty => by
      simp [resolve, hb, invoke, builtin, ea, et]
    split at hc
    · rename_i hu
      simp only [Option.map_eq_some_iff] at hc
      obtain ⟨ax, hx, rfl⟩ := hc
      simp only [eff] at he
      split at he
      · rename_i s h1
        cases he
        simp only [execOp, ho, hx1, one_v (ev_rsv hR ha hx) hp.1 h1]
        exact out_len hR hu (.inl ⟨rfl, s, rfl, rfl⟩)
      · cases he
    · rename_i E hu
      simp only [Option.map_eq_some_iff] at hc
      obtain ⟨ax, hx, rfl⟩ := hc
      simp only [eff] at he
      split at he
      · rename_i rows h1
        cases he
        simp only [Option.bind_eq_some_iff] at h1
        obtain ⟨c', h1, h2⟩ := h1
        simp only [execOp, ho, hx1]
        exact out_len hR hu (.inr (.inl ⟨⟨E, rfl⟩, slAt_len ((ev_rsv hR ha hx).one hp.1 h1) h2 hR.ent⟩))
      · cases he
    · rename_i K V hu
      simp only [Option.map_eq_some_iff] at hc
      obtain ⟨ax, hx, rfl⟩ := hc
      simp only [eff] at he
      split at he
      · rename_i id h1
        split at he
        · rename_i agg kvs hid
          cases he
          obtain ⟨agg', kvs', b, h2, hb', hv⟩ := (ev_rsv hR ha hx).one hp.1 h1
          have hE := hR.ent id _ hid
          rw [show m id = some b from hb'] at hE
          obtain ⟨b2, es, clock, hb2, h3, h4⟩ := hE
          cases hb2
          simp only [execOp, ho, hx1]
          exact out_len hR hu (.inr (.inr ⟨⟨K, V, rfl⟩, b, es, clock, hv, h3, by rw [h4.1]; simp⟩))
        · cases he
      · cases he
    · cases hc
  · cases hc

theorem snd_append {c : Call} (hb : c.callee = .builtin .append) : Snd P (.call c) := by
  intro g m st tmps w a o ao fr sv ups cond hR ha ho hc he hcond hp
  simp only [comp, ccall, hb] at hc
  split at hc
  · rename_i x y T U hargs hty
    have ea := mk2 hargs
    have et := mk2 hty
    have hx1 : ∀ ty, (do let d ← resolve a.eval c ty; invoke d.target d.args : Sem Next) = (do pure (.value (← Builtin.append_ #[T, U] ty #[a.eval x, a.eval y])) : Sem Next) := fun ty => by
      simp [resolve, hb, invoke, builtin, ea, et]
    split at hc
    · rename_i E d ax ay hT hU hx hy
      split at hc
      · rename_i hd
        split at hc
        · rename_i z s b hz
          split at hc
          · rename_i hsb
            cases hc
            obtain ⟨i, zv, hi, hzv, hone, hzs, rfl, rfl, rfl⟩ := czero_spec hz
            have hd' : (∃ E', d = .slice E') ∨ d = .string := by
              cases d <;> first | (cases hd; done) | exact .inl ⟨_, rfl⟩ | exact .inr rfl
            simp only [eff] at he
            split at he
            · rename_i cx' cy' hfr h1 h2
              have hxs := (ev_rsv hR ha hx).one hp.1 h1
              have hys := (ev_rsv hR ha hy).one hp.2.1 h2
              -- what comes behind
              have hsrc : ∀ new q, srcOf st.σ i.size cy' = some (new, q) → q →
                  ∃ news, Src P w.heap i.size (a.eval y) new.length news ∧ RowsAt (g.env m st w) i.size new news := by
                intro new q hq hqt
                unfold srcOf at hq
                split at hq
                · rename_i t
                  split at hq
                  · rename_i h1'
                    cases hq
                    have := src_of_string (P := P) (e := g.env m st w) t
                    rw [rc_v hys, h1']
                    refine ⟨_, ?_, this.2⟩
                    have hl : (t.data.toList.map byteRow).length = t.size := by rw [List.length_map, Array.length_toList]; rfl
                    rw [hl]
                    exact this.1
                  · cases hq
                · simp only [Option.map_eq_some_iff] at hq
                  obtain ⟨r, hr, hq⟩ := hq
                  cases hq
                  exact src_of_slAt (slAt_of hys hr hqt hR.ent) hqt
              simp only [execOp, ho, hx1]
              split at he
              · rename_i new q hq
                cases he
                obtain ⟨news, hs1, hs2⟩ := hsrc new q hq hcond.1
                have hv := rc_v hxs
                rw [hv]
                exact (out_app hR hT hU hd' hi hzv hzs hsb.1 hsb.2 hfr hs1 hs2).1 rfl hcond.2
              · rename_i id new q hq
                split at he
                · rename_i E' s' rows hid
                  split at he
                  · rename_i hes
                    cases he
                    obtain ⟨rfl, rfl⟩ := hes
                    obtain ⟨news, hs1, hs2⟩ := hsrc new q hq hcond.1
                    exact (out_app hR hT hU hd' hi hzv hzs hsb.1 hsb.2 hfr hs1 hs2).2 id rows hid hxs hcond.2
                  · cases he
                · cases he
              · cases he
            · cases he
          · cases hc
        · cases hc
      · split at hc
        · rename_i hd
          split at hc
          · rename_i z s b hz
            split at hc
            · rename_i hsb
              cases hc
              obtain ⟨i, zv, hi, hzv, hone, hzs, rfl, rfl, rfl⟩ := czero_spec hz
              have hd' : ∃ k, d = .int k := by
                cases d <;> first | (cases hd; done) | exact ⟨_, rfl⟩
              obtain ⟨k, rfl⟩ := hd'
              simp only [eff] at he
              split at he
              · rename_i n hfr h1 h2
                cases he
                simp only [execOp, ho, hx1, one_v (ev_rsv hR ha hx) hp.1 h1, one_v (ev_rsv hR ha hy) hp.2.1 h2]
                exact out_appZ hR hT hU hi hzv hone hzs hsb.1 hsb.2 hfr hcond.1 hcond.2
              · cases he
            · cases hc
          · cases hc
        · cases hc
    · cases hc
  · cases hc

theorem snd_cap {c : Call} (hb : c.callee = .builtin .cap) : Snd P (.call c) := by
  intro g m st tmps w a o ao fr sv ups cond hR ha ho hc he hcond hp
  simp only [comp, ccall, hb] at hc
  split at hc
  · rename_i x T hargs hty
    have ea := mk1 hargs
    have et := mk1 hty
    have hx1 : ∀ ty, (do let d ← resolve a.eval c ty; invoke d.target d.args : Sem Next) = (do pure (.value (← Builtin.cap_ #[T] ty #[a.eval x])) : Sem Next) := fun ty => by
      simp [resolve, hb, invoke, builtin, ea, et]
    split at hc
    · rename_i E hu
      simp only [Option.map_eq_some_iff] at hc
      obtain ⟨ax, hx, rfl⟩ := hc
      simp only [eff] at he
      split at he
      · rename_i h1
        cases he
        simp only [execOp, ho, hx1, one_v (ev_rsv hR ha hx) hp.1 h1]
        exact out_quiet_v hR (v := .int .i64 0) (by simp [Builtin.cap_, run_underlying hu, goInt]) rfl
      · cases he
    · cases hc
  · cases hc

theorem snd_clear {c : Call} (hb : c.callee = .builtin .clear) : Snd P (.call c) := by
  intro g m st tmps w a o ao fr sv ups cond hR ha ho hc he hcond hp
  simp only [comp, ccall, hb] at hc
  split at hc
  · rename_i x T hargs hty
    have ea := mk1 hargs
    have et := mk1 hty
    have hx1 : ∀ ty, (do let d ← resolve a.eval c ty; invoke d.target d.args : Sem Next) = (do pure (.value (← Builtin.clear_ #[T] ty #[a.eval x])) : Sem Next) := fun ty => by
      simp [resolve, hb, invoke, builtin, ea, et]
    split at hc
    · rename_i E ax hu hx
      split at hc
      · rename_i z s b hz
        split at hc
        · rename_i hs
          cases hc
          obtain ⟨i, zv, hi, hzv, hone, hzs, rfl, rfl, rfl⟩ := czero_spec hz
          simp only [eff] at he
          split at he
          · rename_i id lo h1
            split at he
            · rename_i E' s' rows hid
              split at he
              · rename_i hss
                cases he
                subst hss
                simp only [execOp, ho, hx1]
                exact out_clr hR hu hi hzv hone hzs hs hid ((ev_rsv hR ha hx).one hp.1 h1) hcond
              · cases he
            · cases he
          · cases he
        · cases hc
      · cases hc
    · cases hc
  · cases hc

theorem snd_mx {c : Call} (b : Bool) (hb : c.callee = .builtin (if b then .max else .min)) : Snd P (.call c) := by
  intro g m st tmps w a o ao fr sv ups cond hR ha ho hc he hcond hp
  have hc' : ∃ x xs, cxs c.args.toList = some (x :: xs) ∧ ao = AOp.mx b x xs := by
    cases b <;> simp only [if_true, if_false, Bool.false_eq_true] at hb <;> simp only [comp, ccall, hb] at hc <;> split at hc <;> cases hc <;> exact ⟨_, _, by assumption, rfl⟩
  obtain ⟨x, xs, hx, rfl⟩ := hc'
  · have hvs := evs_rsv hR ha hx
    obtain ⟨v, vs, he1, h0, hrest⟩ := hvs.uncons
    have hpx : (ev st.sl x).pre := hp.1
    have hpm := presOf_mem hp.2
    have hx1 : ∀ ty, (do let d ← resolve a.eval c ty; invoke d.target d.args : Sem Next) = (do pure (.value (← (if b then Builtin.max_ else Builtin.min_) c.argTypes ty (v :: vs).toArray)) : Sem Next) := fun ty => by
      have : c.args.map a.eval = (v :: vs).toArray := by
        rw [← he1, ← Array.toList_map]
      cases b <;> simp [resolve, hb, invoke, builtin, this]
    simp only [eff] at he
    split at he
    · rename_i k n h1
      simp only [Option.map_eq_some_iff] at he
      obtain ⟨r, hr, he⟩ := he
      cases he
      simp only [execOp, ho, hx1]
      refine out_mx hR h0 hpx h1 (xs := xs.map (ev st.sl)) ⟨by simpa using hrest.1, fun j s v' hs hv' => ?_⟩ (fun s hs => ?_) hr
      · simp only [List.getElem?_map] at hs
        cases hj : xs[j]? with
        | none => rw [hj] at hs; cases hs
        | some ax => rw [hj] at hs; cases hs; exact hrest.2 j ax v' hj hv'
      · obtain ⟨ax, hax, rfl⟩ := List.mem_map.1 hs
        exact hpm ax hax
    · cases he

/-- All operations but the calls of functions. -/
theorem snd_all (op : Op) (hcall : ∀ c f, op = .call c → c.callee = .value f → False) : Snd P op := by
  cases op with
  | move x => exact (snd_move x).1
  | assign x => exact (snd_move x).2
  | pick c a b => exact snd_pick c a b
  | alloc E => exact snd_alloc E
  | box E v => exact snd_box E v
  | build t ps => exact snd_build t ps
  | buildSlice t n ps => exact snd_buildSlice t n ps
  | load t x => exact snd_load t x
  | store t x y => exact snd_store t x y
  | binOp op T x y U => exact snd_binOp op T x y U
  | unOp op T x => exact snd_unOp op T x
  | convert s d x => exact snd_convert s d x
  | makeFunc f a b => exact snd_makeFunc f a b
  | makeMap t r => exact snd_makeMap t r
  | makeSlice t x y => exact snd_makeSlice t x y
  | slice t x lo hi mx => exact snd_slice t x lo hi mx
  | fieldAddr s x f => exact snd_fieldAddr s x f
  | field t x f => exact snd_field t x f
  | indexAddr t x i => exact snd_indexAddr t x i
  | index t x i => exact snd_index t x i
  | lookup t x k ok => exact snd_lookup t x k ok
  | mapUpdate t x k v => exact snd_mapUpdate t x k v
  | extract x i => exact snd_extract x i
  | nilCheck x => exact snd_nilCheck x
  | call c =>
    cases hcl : c.callee with
    | value f => exact (hcall c f rfl hcl).elim
    | invoke r n => intro g m st tmps w a o ao fr sv ups cond hR ha ho hc; simp [comp, ccall, hcl] at hc
    | builtin b =>
      cases b <;> first
        | exact snd_len hcl
        | exact snd_append hcl
        | exact snd_cap hcl
        | exact snd_clear hcl
        | exact snd_mx true hcl
        | exact snd_mx false hcl
        | (intro g m st tmps w a o ao fr sv ups cond hR ha ho hc; simp [comp, ccall, hcl] at hc; done)
  | _ => intro g m st tmps w a o ao fr sv ups cond hR ha ho hc; simp [comp] at hc

end
end Go.Abs
namespace Go.Abs
open Go

def C.isRef0 : C → Bool
  | .fn _ _ => false
  | _ => true

/-- The caller's cell, as the callee sees it: 'ids': what is handed over to be written, by its place; 'views': arrays of the caller's that are only looked at. -/
def TrC0 (σ : Nat → Option Ent) (ids views : List Nat) : C → C → Prop
  | .v x, .v y => x = y
  | .v x, .sl rows => x = .slice none 0 0 ∧ rows = []
  | .sl r, .sl r' => r = r'
  | .osl id, .sl rows => id ∈ views ∧ ∃ E s fz, σ id = some (.arr E s rows fz) ∧ isDRows rows
  | .osl id, .osl k => ids[k]? = some id
  | .bp id o, .bp k o' => ids[k]? = some id ∧ o = o'
  | .ep id i o, .ep k i' o' => ids[k]? = some id ∧ i = i' ∧ o = o'
  | .mp id, .mp k => ids[k]? = some id
  | .rp cs, .rp cs' => cs = cs'
  | _, _ => False

def TrL {α β : Type} (T : α → β → Prop) : List α → List β → Prop
  | [], [] => True
  | x :: xs, y :: ys => T x y ∧ TrL T xs ys
  | _, _ => False

def TrC (σ : Nat → Option Ent) (ids views : List Nat) : C → C → Prop
  | .fn f caps, .fn f' caps' => f = f' ∧ TrL (TrC0 σ ids views) caps caps'
  | x, y => TrC0 σ ids views x y

def TrSV (σ : Nat → Option Ent) (ids views : List Nat) : SV → SV → Prop
  | .c x, .c y => TrC σ ids views x y
  | .agg xs, .agg ys => TrL (TrC σ ids views) xs ys
  | .opt g x, y => g = true ∧ TrSV σ ids views x y
  | _, _ => False

def TrEnt (σ : Nat → Option Ent) (ids views : List Nat) : Ent → Ent → Prop
  | .box cs, .box cs' => TrL (TrC σ ids views) cs cs'
  | .arr E s rows fz, .arr E' s' rows' fz' => E = E' ∧ s = s' ∧ rows = rows' ∧ fz = fz' ∧ fz = false ∧ isDRows rows
  | .mp a kvs, .mp a' kvs' => a = a' ∧ kvs = kvs'
  | _, _ => False

theorem TrL.rl {α β : Type} {T : α → β → Prop} : ∀ {xs : List α} {ys : List β}, TrL T xs ys → RL T xs ys
  | [], [], _ => RL.nil
  | x :: xs, y :: ys, h => RL.cons h.1 (TrL.rl h.2)
  | [], _ :: _, h => h.elim
  | _ :: _, [], h => h.elim

theorem RL.trans {α β γ : Type} {S : α → β → Prop} {T : α → γ → Prop} {U : β → γ → Prop} {xs : List α} {ys : List β} {zs : List γ} (h : RL S xs ys) (h' : RL T xs zs) (hu : ∀ x y z, S x y → T x z → U y z) : RL U ys zs :=
  ⟨h.1.symm.trans h'.1, fun j y z hy hz => by
    have hj : j < xs.length := by
      rcases Nat.lt_or_ge j ys.length with h1 | h1
      · rw [h.1]; exact h1
      · rw [List.getElem?_eq_none h1] at hy; cases hy
    have hx : xs[j]? = some xs[j] := List.getElem?_eq_getElem hj
    exact hu _ _ _ (h.2 j _ y hx hy) (h'.2 j _ z hx hz)⟩

/-- The state in which a body begins. -/
def stOf (args : List SV) (objs : List Ent) : St := { sl := fun t => args.getD t .dead, σ := fun i => objs[i]? }

def groundOf (ok0 : Nat → Prop) (m : Nat → Option Nat) (objs : List Ent) (w : World) : Gr := { ok0, wr := fun b => ∃ i, i < objs.length ∧ m i = some b, w0 := w, m0 := m, σ0 := fun i => objs[i]? }

/-- What a function does: handed 'args' and the objects 'objs' it answers 'res' and leaves 'out' (the objects, as they are then, and what it made). -/
def Con (P : Program) (f : FuncId) (args : List SV) (objs : List Ent) (res : SV) (out : List Ent) : Prop :=
  okFunc P f = true ∧ objs.length ≤ out.length ∧ ∀ (ok0 : Nat → Prop) (m : Nat → Option Nat) (w : World) (vs : Array Value), vs.size = args.length → R (groundOf ok0 m objs w) m (stOf args objs) vs w →
    Calls P f vs w fun e w' => ∃ v m', e = .returned v ∧ R (groundOf ok0 m objs w) m' { sl := fun _ => .dead, σ := fun i => out[i]? } #[] w' ∧
      RSV ((groundOf ok0 m objs w).env m' { sl := fun _ => .dead, σ := fun i => out[i]? } w') res v

/-- A number of the callee's, as the caller counts. -/
def rn (ids : List Nat) (fr k : Nat) : Nat := match ids[k]? with
  | some id => id
  | none => fr + (k - ids.length)

def renC0 (ids : List Nat) (fr : Nat) : C → C
  | .osl k => .osl (rn ids fr k)
  | .bp k o => .bp (rn ids fr k) o
  | .ep k i o => .ep (rn ids fr k) i o
  | .ow k lo => .ow (rn ids fr k) lo
  | .mp k => .mp (rn ids fr k)
  | x => x

def renC (ids : List Nat) (fr : Nat) : C → C
  | .fn f caps => .fn f (caps.map (renC0 ids fr))
  | x => renC0 ids fr x

def renSV1 (ids : List Nat) (fr : Nat) : SV → SV
  | .c x => .c (renC ids fr x)
  | .agg xs => .agg (xs.map (renC ids fr))
  | x => x

def renSV (ids : List Nat) (fr : Nat) : SV → SV
  | .tup vs => .tup (vs.map (renSV1 ids fr))
  | x => renSV1 ids fr x

def renEnt (ids : List Nat) (fr : Nat) : Ent → Ent
  | .box cs => .box (cs.map (renC ids fr))
  | x => x

def Ent.pure : Ent → Prop
  | .arr _ _ rows _ => isDRows rows
  | _ => True

section
variable {P : Program} {g : Gr} {m : Nat → Option Nat} {st : St} {tmps : Array Value} {w : World} {ids views : List Nat}

/-- Where the callee begins. -/
def calleeOk (g : Gr) (m : Nat → Option Nat) (st : St) (w : World) (ids views : List Nat) (b : Nat) : Prop :=
  b < w.heap.size ∧ (¬ ∃ (k id : Nat), ids[k]? = some id ∧ m id = some b) ∧ ((g.env m st w).ok b ∨ ∃ id, id ∈ views ∧ m id = some b)

def calleeM (m : Nat → Option Nat) (ids : List Nat) (k : Nat) : Option Nat := (ids[k]?).bind m

theorem calleeM_some {k b : Nat} (h : calleeM m ids k = some b) : ∃ id, ids[k]? = some id ∧ m id = some b := by
  unfold calleeM at h
  cases hk : ids[k]? with
  | none => rw [hk] at h; cases h
  | some id => rw [hk] at h; exact ⟨id, rfl, h⟩

/-- The callee's environment at its beginning. -/
def calleeEnv (g : Gr) (m : Nat → Option Nat) (st : St) (w : World) (ids views : List Nat) (args : List SV) (objs : List Ent) : Env :=
  (groundOf (calleeOk g m st w ids views) (calleeM m ids) objs w).env (calleeM m ids) (stOf args objs) w

variable {args : List SV} {objs : List Ent}

/-- What is asked of the numbers that are handed over. -/
structure Handed (st : St) (ids views : List Nat) (objs : List Ent) : Prop where
  ents : ∀ (k id : Nat), ids[k]? = some id → ∃ e e', st.σ id = some e ∧ objs[k]? = some e' ∧ TrEnt st.σ ids views e e'
  len : ids.length = objs.length
  nodup : ids.Nodup
  disj : ∀ id, id ∈ views → id ∉ ids
  views : ∀ id, id ∈ views → ∃ E s rows fz, st.σ id = some (.arr E s rows fz)

theorem trEnt_mut {σ : Nat → Option Ent} {e e' : Ent} (h : TrEnt σ ids views e e') : e.mut = e'.mut ∧ e ≠ .gone ∧ e' ≠ .gone ∧ e.mut = true := by
  cases e <;> cases e' <;> first | (exact h.elim; done) | skip
  · exact ⟨rfl, by simp, by simp, rfl⟩
  · obtain ⟨rfl, rfl, rfl, rfl, rfl, _⟩ := h; exact ⟨rfl, by simp, by simp, rfl⟩
  · exact ⟨rfl, by simp, by simp, rfl⟩

theorem objs_get (hh : Handed st ids views objs) {k : Nat} {e' : Ent} (h : objs[k]? = some e') : ∃ id e, ids[k]? = some id ∧ st.σ id = some e ∧ TrEnt st.σ ids views e e' := by
  have hk : k < ids.length := by
    rw [hh.len]
    rcases Nat.lt_or_ge k objs.length with h1 | h1
    · exact h1
    · rw [List.getElem?_eq_none h1] at h; cases h
  have hid : ids[k]? = some ids[k] := List.getElem?_eq_getElem hk
  obtain ⟨e, e2, h1, h2, h3⟩ := hh.ents k _ hid
  rw [h] at h2; cases h2
  exact ⟨_, e, hid, h1, h3⟩

theorem calleeEnv_ok (hR : R g m st tmps w) (hh : Handed st ids views objs) {b : Nat} (hb : (g.env m st w).ok b ∨ ((∃ id, id ∈ views ∧ m id = some b) ∧ b < w.heap.size)) : (calleeEnv g m st w ids views args objs).ok b := by
  have hlt : b < w.heap.size := by rcases hb with h | h; exact h.2.1; exact h.2
  have hno : ∀ (k id : Nat), ids[k]? = some id → ∀ e, st.σ id = some e → e.mut = true → m id ≠ some b := by
    intro k id hid e he hm hmb
    rcases hb with h | ⟨⟨id', h1, h2⟩, _⟩
    · exact h.2.2 id e he hm hmb
    · obtain ⟨E, s, rows, fz, hv⟩ := hh.views id' h1
      have := hR.inj id id' e _ b he hv hm (by simp) hmb h2
      subst this
      exact hh.disj _ h1 (List.mem_of_getElem? hid)
  refine ⟨?_, hlt, fun k e' he hm hmb => ?_⟩
  · by_cases hw : ∃ (k id : Nat), ids[k]? = some id ∧ m id = some b
    · obtain ⟨k, id, h1, h2⟩ := hw
      refine .inl (.inr ⟨k, ?_, ?_⟩)
      · rw [← hh.len]
        rcases Nat.lt_or_ge k ids.length with h | h
        · exact h
        · rw [List.getElem?_eq_none h] at h1; cases h1
      · simp [calleeM, h1, h2]
    · exact .inl (.inl ⟨hlt, hw, hb.imp id fun h => h.1⟩)
  · obtain ⟨id, h1, h2⟩ := calleeM_some hmb
    have he' : objs[k]? = some e' := he
    obtain ⟨id2, e, h3, h4, h5⟩ := objs_get hh he'
    rw [h1] at h3; cases h3
    exact hno k id h1 e h4 (by rw [(trEnt_mut h5).1]; exact hm) h2

/-- A datum of the caller's is one for the callee. -/
theorem rd_callee (hR : R g m st tmps w) (hh : Handed st ids views objs) {c : C} {v : Value} (h : RD (g.env m st w).h (g.env m st w).ok c v) : RD (calleeEnv g m st w ids views args objs).h (calleeEnv g m st w ids views args objs).ok c v :=
  h.mono (fun _ hb => calleeEnv_ok hR hh (.inl hb)) (fun _ _ => rfl)

/-- An array of the caller's that is only looked at. -/
theorem view_rd (hR : R g m st tmps w) (hh : Handed st ids views objs) {id : Nat} {E : TypeId} {s : Nat} {rows : List (List C)} {fz : Bool} (hv : id ∈ views) (hid : st.σ id = some (.arr E s rows fz)) (hd : isDRows rows) {v : Value} (hc : RC (g.env m st w) (.osl id) v) :
    RD (calleeEnv g m st w ids views args objs).h (calleeEnv g m st w ids views args objs).ok (.sl rows) v := by
  obtain ⟨a, ha, hc⟩ := hc
  have ha' : st.σ id = some a := ha
  rw [hid] at ha'; cases ha'
  have hE := hR.ent id _ hid
  simp only at hc
  split at hc
  · rename_i hm
    rw [show m id = none from hm] at hE
    obtain ⟨_, _, ⟨_, rfl⟩ | ⟨_, _, _, h, _⟩⟩ := hE
    · subst hc; exact .nil
    · cases h
  · rename_i b hm
    have hm' : m id = some b := hm
    obtain ⟨cur, cap, h1, h2, rfl⟩ := hc
    rw [hm'] at hE
    obtain ⟨h0, h4, h' | ⟨b', cur', cap', h', g1, g2, g3, g4, g5⟩⟩ := hE
    · cases h'.1
    · cases h'
      rw [h1] at g1; cases g1
      have hcap : cap = cap' := Nat.eq_of_mul_eq_mul_right h0 (by omega)
      subst hcap
      have h1' : w.heap[b]? = some (.cells cur E (0, 0)) := h1
      refine .sl rows s b 0 cap (fun i j => (cur[i * s + j]?).getD undef) (calleeEnv_ok hR hh (.inr ⟨⟨id, hv, hm'⟩, heap_lt h1'⟩)) h4 (fun i r j c k1 k2 => ?_) (fun i r j c k1 k2 => ?_) g3
      · obtain ⟨x, hx, _⟩ := g5 i r j c k1 k2
        rw [cellAt_of (show (calleeEnv g m st w ids views args objs).h[b]? = _ from h1'), Nat.zero_add]; simp [hx]
      · obtain ⟨x, hx, hxr⟩ := g5 i r j c k1 k2
        simp only [hx, Option.getD_some]
        exact rd_callee hR hh (isDRows_rd hd k1 k2 hxr)

theorem callee_m {k id : Nat} (h : ids[k]? = some id) : (calleeEnv g m st w ids views args objs).m k = m id := by
  show calleeM m ids k = m id
  simp [calleeM, h]

theorem rc0_callee (hR : R g m st tmps w) (hh : Handed st ids views objs) {c c' : C} {v : Value} (ht : TrC0 st.σ ids views c c') (h : RC0 (g.env m st w) c v) : RC0 (calleeEnv g m st w ids views args objs) c' v := by
  have key : ∀ (k id : Nat), ids[k]? = some id → ∃ e e', st.σ id = some e ∧ (calleeEnv g m st w ids views args objs).σ k = some e' ∧ TrEnt st.σ ids views e e' := fun k id hk => hh.ents k id hk
  cases c with
  | v x =>
    cases c' <;> first | (exact ht.elim; done) | skip
    · have hx : x = _ := ht
      subst hx
      exact rd_callee hR hh h
    · obtain ⟨h1, h2⟩ := ht
      subst h1; subst h2
      rw [rd_v (show RD _ _ (.v _) v from h)]
      exact RD.nil
  | sl rows =>
    cases c' <;> first | (exact ht.elim; done) | skip
    have hx : rows = _ := ht
    subst hx
    exact rd_callee hR hh h
  | osl id =>
    cases c' <;> first | (exact ht.elim; done) | skip
    · obtain ⟨h1, E, s, fz, h2, h3⟩ := ht
      exact view_rd hR hh h1 h2 h3 h
    · rename_i k
      have hk : ids[k]? = some id := ht
      obtain ⟨e, e', h1, h2, h3⟩ := key k id hk
      obtain ⟨a, ha, h⟩ := h
      have ha' : st.σ id = some a := ha
      rw [h1] at ha'; cases ha'
      refine ⟨e', h2, ?_⟩
      cases e <;> cases e' <;> first | (exact h3.elim; done) | (exact h.elim; done) | skip
      obtain ⟨rfl, rfl, rfl, rfl, _, _⟩ := h3
      simp only [callee_m hk]
      exact h
  | bp id o =>
    cases c' <;> first | (exact ht.elim; done) | skip
    rename_i k o'
    obtain ⟨hk, rfl⟩ := ht
    obtain ⟨e, e', h1, h2, h3⟩ := key k id hk
    obtain ⟨cs, b, h4, h5, rfl⟩ := h
    have h4' : st.σ id = some (.box cs) := h4
    rw [h1] at h4'; cases h4'
    cases e' <;> first | (exact h3.elim; done) | skip
    exact ⟨_, b, h2, by rw [callee_m hk]; exact h5, rfl⟩
  | ep id i o =>
    cases c' <;> first | (exact ht.elim; done) | skip
    rename_i k i' o'
    obtain ⟨hk, rfl, rfl⟩ := ht
    obtain ⟨e, e', h1, h2, h3⟩ := key k id hk
    obtain ⟨a, ha, h⟩ := h
    have ha' : st.σ id = some a := ha
    rw [h1] at ha'; cases ha'
    refine ⟨e', h2, ?_⟩
    cases e <;> cases e' <;> first | (exact h3.elim; done) | (exact h.elim; done) | skip
    obtain ⟨rfl, rfl, rfl, rfl, _, _⟩ := h3
    simp only [callee_m hk]
    exact h
  | ow id lo => cases c' <;> exact ht.elim
  | rp cs =>
    cases c' <;> first | (exact ht.elim; done) | skip
    have hx : cs = _ := ht
    subst hx
    obtain ⟨b, off, h1, h2, h3⟩ := h
    exact ⟨b, off, calleeEnv_ok hR hh (.inl h1), h2, fun j c hj => by obtain ⟨x, hx, hr⟩ := h3 j c hj; exact ⟨x, hx, rd_callee hR hh hr⟩⟩
  | fn f caps => exact h.elim
  | mp id =>
    cases c' <;> first | (exact ht.elim; done) | skip
    rename_i k
    have hk : ids[k]? = some id := ht
    obtain ⟨e, e', h1, h2, h3⟩ := key k id hk
    obtain ⟨agg, kvs, b, h4, h5, rfl⟩ := h
    have h4' : st.σ id = some (.mp agg kvs) := h4
    rw [h1] at h4'; cases h4'
    cases e' <;> first | (exact h3.elim; done) | skip
    exact ⟨_, _, b, h2, by rw [callee_m hk]; exact h5, rfl⟩

theorem rc_callee (hR : R g m st tmps w) (hh : Handed st ids views objs) {c c' : C} {v : Value} (ht : TrC st.σ ids views c c') (h : RC (g.env m st w) c v) : RC (calleeEnv g m st w ids views args objs) c' v := by
  by_cases hc : ∀ f caps, c ≠ .fn f caps
  · have hc' : ∀ f caps, c' ≠ .fn f caps := by
      rintro f caps rfl
      cases c <;> first | exact (hc _ _ rfl).elim | exact ht.elim
    have ht' : TrC0 st.σ ids views c c' := by
      cases c <;> first | exact (hc _ _ rfl).elim | exact ht
    exact (RC_iff0 hc').2 (rc0_callee hR hh ht' ((RC_iff0 hc).1 h))
  · cases c with
    | fn f caps =>
      cases c' with
      | fn f' caps' =>
        obtain ⟨rfl, ht⟩ := ht
        obtain ⟨vs, rfl, h⟩ := h
        exact ⟨vs, rfl, (TrL.rl ht).trans h fun x y z h1 h2 => rc0_callee hR hh h1 h2⟩
      | _ => exact ht.elim
    | _ => exact absurd (by intro f caps; simp) hc

theorem rsv_callee (hR : R g m st tmps w) (hh : Handed st ids views objs) {v : Value} : ∀ {s s' : SV}, TrSV st.σ ids views s s' → RSV (g.env m st w) s v → RSV (calleeEnv g m st w ids views args objs) s' v
  | .c x, s', ht, h => by
    cases s' with
    | c y => exact rc_callee hR hh ht h
    | _ => exact ht.elim
  | .agg xs, s', ht, h => by
    cases s' with
    | agg ys =>
      obtain ⟨vs, rfl, h⟩ := h
      exact ⟨vs, rfl, (TrL.rl ht).trans h fun x y z h1 h2 => rc_callee hR hh h1 h2⟩
    | _ => exact ht.elim
  | .opt _ x, s', ht, h => rsv_callee hR hh (s := x) ht.2 (h.1 ht.1)
  | .dead, s', ht, _ => by cases s' <;> exact ht.elim
  | .tup _, s', ht, _ => by cases s' <;> exact ht.elim

theorem rent_callee (hR : R g m st tmps w) (hh : Handed st ids views objs) {e e' : Ent} {mb : Option Nat} (ht : TrEnt st.σ ids views e e') (h : REnt (g.env m st w) mb e) : REnt (calleeEnv g m st w ids views args objs) mb e' := by
  cases e <;> cases e' <;> first | (exact ht.elim; done) | skip
  · obtain ⟨b, cur, T, rfl, h1, h2⟩ := h
    exact ⟨b, cur, T, rfl, h1, (TrL.rl ht).trans h2 fun x y z h1 h2 => rc_callee hR hh h1 h2⟩
  · obtain ⟨rfl, rfl, rfl, rfl, _, hd⟩ := ht
    obtain ⟨h0, h1, h⟩ := h
    refine ⟨h0, h1, ?_⟩
    rcases h with h | ⟨b, cur, cap, rfl, g1, g2, g3, g4, g5⟩
    · exact .inl h
    · exact .inr ⟨b, cur, cap, rfl, g1, g2, g3, g4, fun i r j c k1 k2 => by
        obtain ⟨x, hx, hr⟩ := g5 i r j c k1 k2
        exact ⟨x, hx, (rd_callee hR hh (isDRows_rd hd k1 k2 hr)).rc⟩⟩
  · obtain ⟨rfl, rfl⟩ := ht
    obtain ⟨b, es, clock, rfl, h1, h2⟩ := h
    exact ⟨b, es, clock, rfl, h1, h2.imp fun _ _ _ hh' => ⟨hh'.1, hh'.2.1, hh'.2.2.imp fun _ _ _ h => rd_callee hR hh h⟩⟩

/-- The callee's ground stands. -/
theorem R_callee (hR : R g m st tmps w) (hh : Handed st ids views objs) {vs : Array Value} {sargs : List SV} (ht : TrL (TrSV st.σ ids views) sargs args) (hv : RL (RSV (g.env m st w)) sargs vs.toList) :
    R (groundOf (calleeOk g m st w ids views) (calleeM m ids) objs w) (calleeM m ids) (stOf args objs) vs w := by
  refine ⟨Frame0.refl _ _, fun t => ?_, fun k e' he => ?_, fun k e' b he hg hb => ?_, fun k k' e e' b he he' hm hg hb hb' => ?_, fun b hb => ⟨hb.1, ?_⟩, fun k e0 hk => ⟨e0, hk, EntLe.refl _, fun _ => ⟨rfl, fun E s rows fz b cur _ _ hc => ⟨cur, hc, rfl⟩⟩⟩⟩
  · have hrl := (TrL.rl ht).trans hv fun x y z h1 h2 => rsv_callee (args := args) hR hh h1 h2
    show RSV (calleeEnv g m st w ids views args objs) (args.getD t .dead) _
    rcases Nat.lt_or_ge t args.length with hl | hl
    · obtain ⟨v, h1, h2⟩ := hrl.get (List.getElem?_eq_getElem hl)
      have : vs.getD t undef = v := by
        simp only [Array.getElem?_toList] at h1
        simp [Array.getD_eq_getD_getElem?, h1]
      rw [this]
      simpa [List.getD, List.getElem?_eq_getElem hl] using h2
    · simp [List.getD, List.getElem?_eq_none hl]
      trivial
  · have he2 : objs[k]? = some e' := he
    obtain ⟨id, e, h1, h2, h3⟩ := objs_get hh he2
    have : calleeM m ids k = m id := by simp [calleeM, h1]
    rw [this]
    exact rent_callee hR hh h3 (hR.ent id e h2)
  · have he2 : objs[k]? = some e' := he
    obtain ⟨id, e, h1, h2, h3⟩ := objs_get hh he2
    obtain ⟨id', h4, h5⟩ := calleeM_some hb
    rw [h1] at h4; cases h4
    refine ⟨(hR.place id e b h2 (trEnt_mut h3).2.1 h5).1, .inr ⟨k, ?_, hb⟩⟩
    rcases Nat.lt_or_ge k objs.length with h | h
    · exact h
    · rw [List.getElem?_eq_none h] at he2; cases he2
  · have he2 : objs[k]? = some e := he
    have he2' : objs[k']? = some e' := he'
    obtain ⟨id, x, h1, h2, h3⟩ := objs_get hh he2
    obtain ⟨id', x', h1', h2', h3'⟩ := objs_get hh he2'
    obtain ⟨i, h4, h5⟩ := calleeM_some hb
    obtain ⟨i', h4', h5'⟩ := calleeM_some hb'
    rw [h1] at h4; cases h4
    rw [h1'] at h4'; cases h4'
    have := hR.inj id id' x x' b h2 h2' (by rw [(trEnt_mut h3).1]; exact hm) (trEnt_mut h3').2.1 h5 h5'
    subst this
    have hk : k < ids.length := by
      rcases Nat.lt_or_ge k ids.length with h | h
      · exact h
      · rw [List.getElem?_eq_none h] at h1; cases h1
    have hk' : k' < ids.length := by
      rcases Nat.lt_or_ge k' ids.length with h | h
      · exact h
      · rw [List.getElem?_eq_none h] at h1'; cases h1'
    rw [List.getElem?_eq_getElem hk] at h1
    rw [List.getElem?_eq_getElem hk'] at h1'
    simp only [Option.some.injEq] at h1 h1'
    exact (List.getElem_inj hh.nodup).1 (h1.trans h1'.symm)
  · rintro ⟨k, _, hk⟩
    obtain ⟨id, h1, h2⟩ := calleeM_some hk
    exact hb.2.1 ⟨k, id, h1, h2⟩

end
end Go.Abs
namespace Go.Abs
open Go

/-- The entries behind a call: those handed over, those made, the arrays looked at (nobody writes these any more). -/
def backUps (σ : Nat → Option Ent) (ids views : List Nat) (fr : Nat) (out : List Ent) : List (Nat × Ent) :=
  (ids.zip out).map (fun p => (p.1, renEnt ids fr p.2)) ++ ((out.drop ids.length).zipIdx.map fun p => (fr + p.2, renEnt ids fr p.1)) ++
    views.filterMap (fun id => match σ id with | some (.arr E s rows _) => some (id, .arr E s rows true) | _ => none)

theorem updσ_append (σ : Nat → Option Ent) : ∀ (l l' : List (Nat × Ent)), updσ σ (l ++ l') = updσ (updσ σ l) l'
  | [], _ => rfl
  | p :: l, l' => updσ_append (upd σ p.1 (some p.2)) l l'

theorem updσ_not (id : Nat) : ∀ (l : List (Nat × Ent)) (σ : Nat → Option Ent), (∀ p ∈ l, p.1 ≠ id) → updσ σ l id = σ id
  | [], _, _ => rfl
  | p :: l, σ, h => by
    show updσ (upd σ p.1 (some p.2)) l id = σ id
    rw [updσ_not id l _ (fun q hq => h q (by simp [hq])), upd_apply, if_neg (fun e => h p (by simp) e.symm)]

theorem updσ_mem (id : Nat) (e : Ent) : ∀ (l : List (Nat × Ent)) (σ : Nat → Option Ent), (id, e) ∈ l → (∀ e', (id, e') ∈ l → e' = e) → updσ σ l id = some e
  | [], _, h, _ => by cases h
  | p :: l, σ, h, hu => by
    show updσ (upd σ p.1 (some p.2)) l id = some e
    by_cases hl : ∃ e', (id, e') ∈ l
    · obtain ⟨e', he'⟩ := hl
      have := hu e' (by simp [he'])
      subst this
      exact updσ_mem id e' l _ he' fun e'' h'' => hu e'' (by simp [h''])
    · rw [updσ_not id l _ (fun q hq hqe => hl ⟨q.2, by rw [← hqe]; exact hq⟩), upd_apply]
      rcases List.mem_cons.1 h with h | h
      · rw [← h]; simp
      · exact (hl ⟨e, h⟩).elim

section
variable {P : Program} {g : Gr} {m : Nat → Option Nat} {st : St} {tmps : Array Value} {w : World} {ids views : List Nat} {args : List SV} {objs : List Ent}

def backM (m m2 : Nat → Option Nat) (ids : List Nat) (fr n : Nat) (id : Nat) : Option Nat :=
  if ids.idxOf id < ids.length then m2 (ids.idxOf id) else if fr ≤ id ∧ id < fr + (n - ids.length) then m2 (ids.length + (id - fr)) else m id

theorem idxOf_get {l : List Nat} (hn : l.Nodup) {k id : Nat} (h : l[k]? = some id) : l.idxOf id = k := by
  have hk : k < l.length := by
    rcases Nat.lt_or_ge k l.length with h1 | h1
    · exact h1
    · rw [List.getElem?_eq_none h1] at h; cases h
  have he : l[k] = id := by rw [List.getElem?_eq_getElem hk] at h; cases h; rfl
  have hlt : l.idxOf id < l.length := List.idxOf_lt_length_iff.2 (he ▸ List.getElem_mem hk)
  have := List.getElem_idxOf hlt
  exact (List.getElem_inj hn).1 (this.trans he.symm)

/-- What is asked of the numbers for what the callee made. -/
structure Fresh (st : St) (fr n : Nat) : Prop where
  free : ∀ j, j < n → st.σ (fr + j) = none

variable {fr : Nat} {out : List Ent} {w' : World} {m2 : Nat → Option Nat}

inductive Which (ids views : List Nat) (fr n : Nat) (id : Nat) : Prop
  | handed (k : Nat) (h : ids[k]? = some id)
  | made (j : Nat) (h : j < n - ids.length) (e : id = fr + j)
  | other (h1 : id ∉ ids) (h2 : ¬ (fr ≤ id ∧ id < fr + (n - ids.length)))

theorem which (ids views : List Nat) (fr n id : Nat) : Which ids views fr n id := by
  by_cases h1 : id ∈ ids
  · obtain ⟨k, hk, he⟩ := List.mem_iff_getElem.1 h1
    exact .handed k (by rw [List.getElem?_eq_getElem hk, he])
  · by_cases h2 : fr ≤ id ∧ id < fr + (n - ids.length)
    · exact .made (id - fr) (by omega) (by omega)
    · exact .other h1 h2

theorem mem_backUps {σ : Nat → Option Ent} {id : Nat} {e : Ent} : (id, e) ∈ backUps σ ids views fr out ↔
    (∃ (k : Nat) (e0 : Ent), ids[k]? = some id ∧ out[k]? = some e0 ∧ e = renEnt ids fr e0) ∨ (∃ (j : Nat) (e0 : Ent), out[ids.length + j]? = some e0 ∧ id = fr + j ∧ e = renEnt ids fr e0) ∨
      (id ∈ views ∧ ∃ E s rows fz, σ id = some (.arr E s rows fz) ∧ e = .arr E s rows true) := by
  unfold backUps
  simp only [List.mem_append, List.mem_map, List.mem_filterMap]
  constructor
  · rintro ((⟨⟨a, b⟩, h, he⟩ | ⟨⟨a, j⟩, h, he⟩) | ⟨i, hi, he⟩)
    · simp only [Prod.mk.injEq] at he
      obtain ⟨rfl, rfl⟩ := he
      obtain ⟨k, hk⟩ := List.mem_iff_getElem?.1 h
      rw [List.getElem?_zip_eq_some] at hk
      exact .inl ⟨k, b, hk.1, hk.2, rfl⟩
    · simp only [Prod.mk.injEq] at he
      obtain ⟨rfl, rfl⟩ := he
      have := List.mem_zipIdx_iff_getElem?.1 h
      simp only [List.getElem?_drop] at this
      exact .inr (.inl ⟨j, a, this, rfl, rfl⟩)
    · split at he
      · rename_i E s rows fz hσ
        cases he
        exact .inr (.inr ⟨hi, E, s, rows, fz, hσ, rfl⟩)
      · cases he
  · rintro (⟨k, e0, h1, h2, rfl⟩ | ⟨j, e0, h1, rfl, rfl⟩ | ⟨h1, E, s, rows, fz, h2, rfl⟩)
    · exact .inl (.inl ⟨(id, e0), List.mem_iff_getElem?.2 ⟨k, List.getElem?_zip_eq_some.2 ⟨h1, h2⟩⟩, rfl⟩)
    · exact .inl (.inr ⟨(e0, j), List.mem_zipIdx_iff_getElem?.2 (by simpa using h1), rfl⟩)
    · exact .inr ⟨id, h1, by rw [h2]⟩

/-- Each entry behind the call. -/
theorem backσ (hh : Handed st ids views objs) (hf : Fresh st fr (out.length - ids.length)) (hl : ids.length ≤ out.length) (id : Nat) :
    (∀ (k : Nat), ids[k]? = some id → ∃ e0, out[k]? = some e0 ∧ updσ st.σ (backUps st.σ ids views fr out) id = some (renEnt ids fr e0)) ∧
    (∀ (j : Nat), j < out.length - ids.length → id = fr + j → ∃ e0, out[ids.length + j]? = some e0 ∧ updσ st.σ (backUps st.σ ids views fr out) id = some (renEnt ids fr e0)) ∧
    (id ∉ ids → ¬ (fr ≤ id ∧ id < fr + (out.length - ids.length)) → (id ∈ views → ∃ E s rows fz, st.σ id = some (.arr E s rows fz) ∧ updσ st.σ (backUps st.σ ids views fr out) id = some (.arr E s rows true)) ∧
      (id ∉ views → updσ st.σ (backUps st.σ ids views fr out) id = st.σ id)) := by
  have nofresh : ∀ j, j < out.length - ids.length → ∀ e, st.σ (fr + j) = some e → False := fun j hj e he => by rw [hf.free j hj] at he; cases he
  have hids : ∀ (k : Nat), ids[k]? = some id → ∃ e, st.σ id = some e := fun k hk => by obtain ⟨e, _, h, _⟩ := hh.ents k id hk; exact ⟨e, h⟩
  have hvs : id ∈ views → ∃ e, st.σ id = some e := fun h => by obtain ⟨_, _, _, _, h⟩ := hh.views id h; exact ⟨_, h⟩
  have hout : ∀ (k : Nat), k < out.length → ∃ e0, out[k]? = some e0 := fun k hk => ⟨_, List.getElem?_eq_getElem hk⟩
  have hlt : ∀ (j : Nat) (e0 : Ent), out[ids.length + j]? = some e0 → j < out.length - ids.length := fun j e0 h => by
    rcases Nat.lt_or_ge (ids.length + j) out.length with h1 | h1
    · omega
    · rw [List.getElem?_eq_none h1] at h; cases h
  refine ⟨fun k hk => ?_, fun j hj he => ?_, fun h1 h2 => ⟨fun hv => ?_, fun hv => ?_⟩⟩
  · have hkl : k < ids.length := by
      rcases Nat.lt_or_ge k ids.length with h | h
      · exact h
      · rw [List.getElem?_eq_none h] at hk; cases hk
    obtain ⟨e0, he0⟩ := hout k (by omega)
    refine ⟨e0, he0, updσ_mem id _ _ _ (mem_backUps.2 (.inl ⟨k, e0, hk, he0, rfl⟩)) fun e' he' => ?_⟩
    rcases mem_backUps.1 he' with ⟨k', e1, h1, h2, rfl⟩ | ⟨j, e1, h1, h2, rfl⟩ | ⟨h1, _⟩
    · have : k' = k := by rw [← idxOf_get hh.nodup h1, ← idxOf_get hh.nodup hk]
      subst this
      rw [he0] at h2; cases h2; rfl
    · obtain ⟨e, he⟩ := hids k hk
      rw [h2] at he
      exact (nofresh j (hlt j e1 h1) e he).elim
    · exact (hh.disj id h1 (List.mem_of_getElem? hk)).elim
  · obtain ⟨e0, he0⟩ := hout (ids.length + j) (by omega)
    refine ⟨e0, he0, updσ_mem id _ _ _ (mem_backUps.2 (.inr (.inl ⟨j, e0, he0, he, rfl⟩))) fun e' he' => ?_⟩
    rcases mem_backUps.1 he' with ⟨k', e1, h1, h2, rfl⟩ | ⟨j', e1, h1, h2, rfl⟩ | ⟨h1, _⟩
    · obtain ⟨e, hs⟩ := hids k' h1
      rw [he] at hs
      exact (nofresh j hj e hs).elim
    · have : j' = j := by omega
      subst this
      rw [he0] at h1; cases h1; rfl
    · obtain ⟨e, hs⟩ := hvs h1
      rw [he] at hs
      exact (nofresh j hj e hs).elim
  · obtain ⟨E, s, rows, fz, hσ⟩ := hh.views id hv
    refine ⟨E, s, rows, fz, hσ, updσ_mem id _ _ _ (mem_backUps.2 (.inr (.inr ⟨hv, E, s, rows, fz, hσ, rfl⟩))) fun e' he' => ?_⟩
    rcases mem_backUps.1 he' with ⟨k', e1, h3, _⟩ | ⟨j', e1, h3, h4, rfl⟩ | ⟨_, E', s', rows', fz', h3, rfl⟩
    · exact (h1 (List.mem_of_getElem? h3)).elim
    · have := hlt j' e1 h3; exact (h2 ⟨by omega, by omega⟩).elim
    · rw [hσ] at h3; cases h3; rfl
  · refine updσ_not id _ _ fun p hp hpe => ?_
    obtain ⟨i, e⟩ := p
    subst hpe
    rcases mem_backUps.1 hp with ⟨k', e1, h3, _⟩ | ⟨j', e1, h3, h4, rfl⟩ | ⟨h3, _⟩
    · exact h1 (List.mem_of_getElem? h3)
    · have := hlt j' e1 h3; exact h2 ⟨by omega, by omega⟩
    · exact hv h3

theorem backM_handed (hn : ids.Nodup) {k id : Nat} (h : ids[k]? = some id) (n : Nat) : backM m m2 ids fr n id = m2 k := by
  have hk : k < ids.length := by
    rcases Nat.lt_or_ge k ids.length with h1 | h1
    · exact h1
    · rw [List.getElem?_eq_none h1] at h; cases h
  unfold backM
  rw [idxOf_get hn h, if_pos hk]

theorem backM_made {n j : Nat} (h : j < n - ids.length) (hf : fr + j ∉ ids) : backM m m2 ids fr n (fr + j) = m2 (ids.length + j) := by
  unfold backM
  rw [if_neg (by rw [List.idxOf_lt_length_iff]; exact hf), if_pos ⟨by omega, by omega⟩]
  congr 1; omega

theorem backM_other {n id : Nat} (h1 : id ∉ ids) (h2 : ¬ (fr ≤ id ∧ id < fr + (n - ids.length))) : backM m m2 ids fr n id = m id := by
  unfold backM
  rw [if_neg (by rw [List.idxOf_lt_length_iff]; exact h1), if_neg h2]

end
end Go.Abs
namespace Go.Abs
open Go

theorem entLe_back {σ : Nat → Option Ent} {ids views : List Nat} {fr : Nat} {a b c : Ent} (h : TrEnt σ ids views a b) (h' : EntLe b c) : EntLe a (renEnt ids fr c) := by
  cases a <;> cases b <;> first | (exact h.elim; done) | skip
  all_goals cases c <;> first | (exact h'.elim; done) | skip
  all_goals first | trivial | skip
  · obtain ⟨rfl, rfl, rfl, rfl, _⟩ := h
    exact h'
  · obtain ⟨rfl, rfl⟩ := h
    exact h'

theorem renEnt_mut {ids : List Nat} {fr : Nat} (e : Ent) : (renEnt ids fr e).mut = e.mut := by cases e <;> rfl
theorem renEnt_gone {ids : List Nat} {fr : Nat} {e : Ent} : renEnt ids fr e = .gone ↔ e = .gone := by cases e <;> simp [renEnt]

section
variable {P : Program} {g : Gr} {m : Nat → Option Nat} {st : St} {tmps : Array Value} {w : World} {ids views : List Nat} {objs : List Ent}
variable {fr : Nat} {out : List Ent} {w' : World} {m2 : Nat → Option Nat}

/-- The caller's environment behind the call. -/
def backEnv (g : Gr) (m : Nat → Option Nat) (st : St) (ids views : List Nat) (fr : Nat) (out : List Ent) (m2 : Nat → Option Nat) (w' : World) : Env :=
  g.env (backM m m2 ids fr out.length) { st with σ := updσ st.σ (backUps st.σ ids views fr out) } w'

theorem R_back (hR : R g m st tmps w) (hh : Handed st ids views objs) (hf : Fresh st fr (out.length - ids.length)) (hl : ids.length ≤ out.length)
    (hb : R (groundOf (calleeOk g m st w ids views) (calleeM m ids) objs w) m2 { sl := fun _ => .dead, σ := fun i => out[i]? } #[] w') (hpure : ∀ e ∈ out, e.pure) :
    R g (backM m m2 ids fr out.length) { st with σ := updσ st.σ (backUps st.σ ids views fr out) } tmps w' ∧
      ∀ res v, (∀ b x, res ≠ .opt b x) → RSV ((groundOf (calleeOk g m st w ids views) (calleeM m ids) objs w).env m2 { sl := fun _ => .dead, σ := fun i => out[i]? } w') res v → RSV (backEnv g m st ids views fr out m2 w') (renSV ids fr res) v := by
  have hB : g.B ≤ w.heap.size := hR.frame.size
  have hsz : w.heap.size ≤ w'.heap.size := hb.frame.size
  -- a block that the callee may write is one of the caller's own
  have wr2 : ∀ b, (groundOf (calleeOk g m st w ids views) (calleeM m ids) objs w).wr b → ∃ (k id : Nat) (e : Ent), ids[k]? = some id ∧ st.σ id = some e ∧ e.mut = true ∧ m id = some b := by
    rintro b ⟨k, hk, hkb⟩
    obtain ⟨id, h1, h2⟩ := calleeM_some hkb
    obtain ⟨e, e', h3, _, h5⟩ := hh.ents k id h1
    exact ⟨k, id, e, h1, h3, (trEnt_mut h5).2.2.2, h2⟩
  have hfi : ∀ j, j < out.length - ids.length → fr + j ∉ ids := fun j hj hm => by
    obtain ⟨k, hk⟩ := List.mem_iff_getElem?.1 hm
    obtain ⟨e, _, h, _⟩ := hh.ents k _ hk
    rw [hf.free j hj] at h; cases h
  -- the callee's numbers, as the caller counts
  have hK4 : ∀ k a, out[k]? = some a → updσ st.σ (backUps st.σ ids views fr out) (rn ids fr k) = some (renEnt ids fr a) ∧ backM m m2 ids fr out.length (rn ids fr k) = m2 k := by
    intro k a hk
    have hkl : k < out.length := by
      rcases Nat.lt_or_ge k out.length with h | h
      · exact h
      · rw [List.getElem?_eq_none h] at hk; cases hk
    unfold rn
    cases hid : ids[k]? with
    | some id =>
      obtain ⟨e0, h1, h2⟩ := (backσ hh hf hl id).1 k hid
      rw [hk] at h1; cases h1
      exact ⟨h2, backM_handed hh.nodup hid _⟩
    | none =>
      have hge : ids.length ≤ k := by
        rcases Nat.lt_or_ge k ids.length with h | h
        · rw [List.getElem?_eq_getElem h] at hid; cases hid
        · exact h
      have hj : k - ids.length < out.length - ids.length := by omega
      obtain ⟨e0, h1, h2⟩ := (backσ hh hf hl (fr + (k - ids.length))).2.1 _ hj rfl
      rw [show ids.length + (k - ids.length) = k by omega, hk] at h1; cases h1
      refine ⟨h2, ?_⟩
      have := backM_made (m := m) (m2 := m2) (ids := ids) (fr := fr) hj (hfi _ hj)
      rw [show ids.length + (k - ids.length) = k by omega] at this
      exact this
  -- what the callee holds good, the caller does
  have hK2 : ∀ b, ((groundOf (calleeOk g m st w ids views) (calleeM m ids) objs w).env m2 { sl := fun _ => .dead, σ := fun i => out[i]? } w').ok b → (backEnv g m st ids views fr out m2 w').ok b := by
    intro b hok
    have hown : (g.okb b ∨ g.B ≤ b) ∧ (∀ id e, id ∉ ids → id ∉ views → st.σ id = some e → e.mut = true → m id ≠ some b) := by
      have frm : ∀ id e, st.σ id = some e → e ≠ .gone → m id = some b → g.okb b ∨ g.B ≤ b := fun id e h1 h2 h3 => by
        rcases (hR.place id e b h1 h2 h3).2 with h | h
        · exact .inr h
        · exact .inl (.inr h)
      rcases hok.1 with (h | h) | h
      · rcases h.2.2 with h1 | ⟨id, h1, h2⟩
        · exact ⟨h1.1, fun id e _ _ h2 h3 h4 => h1.2.2 id e h2 h3 h4⟩
        · obtain ⟨E, s, rows, fz, h3⟩ := hh.views id h1
          exact ⟨frm id _ h3 (by simp) h2, fun id' e _ hv h4 h5 h6 => hv (hR.inj id' id e _ b h4 h3 h5 (by simp) h6 h2 ▸ h1)⟩
      · obtain ⟨k, id, e, h1, h2, h3, h4⟩ := wr2 b h
        exact ⟨frm id e h2 (Ent.mut_ne_gone h3) h4, fun id' e' hi _ h5 h6 h7 => hi (hR.inj id' id e' e b h5 h2 h6 (Ent.mut_ne_gone h3) h7 h4 ▸ List.mem_of_getElem? h1)⟩
      · exact ⟨.inr (Nat.le_trans hB h), fun id' e' _ _ h5 h6 h7 => by
          have := (hR.place id' e' b h5 (Ent.mut_ne_gone h6) h7).1
          have h' : w.heap.size ≤ b := h
          omega⟩
    refine ⟨hown.1, hok.2.1, fun id a ha hm hmb => ?_⟩
    have ha' : updσ st.σ (backUps st.σ ids views fr out) id = some a := ha
    rcases which ids views fr out.length id with ⟨k, hk⟩ | ⟨j, hj, rfl⟩ | ⟨h1, h2⟩
    · obtain ⟨e0, h3, h4⟩ := (backσ hh hf hl id).1 k hk
      rw [h4] at ha'; cases ha'
      rw [renEnt_mut] at hm
      rw [backM_handed hh.nodup hk] at hmb
      exact hok.2.2 k e0 h3 hm hmb
    · obtain ⟨e0, h3, h4⟩ := (backσ hh hf hl (fr + j)).2.1 j hj rfl
      rw [h4] at ha'; cases ha'
      rw [renEnt_mut] at hm
      rw [backM_made hj (hfi j hj)] at hmb
      exact hok.2.2 _ e0 h3 hm hmb
    · rw [backM_other h1 h2] at hmb
      obtain ⟨h3, h4⟩ := (backσ hh hf hl id).2.2 h1 h2
      by_cases hv : id ∈ views
      · obtain ⟨E, s, rows, fz, _, h5⟩ := h3 hv
        rw [h5] at ha'; cases ha'; cases hm
      · rw [h4 hv] at ha'
        exact hown.2 id a h1 hv ha' hm hmb
  have hK1 : ∀ b, (g.env m st w).ok b → (backEnv g m st ids views fr out m2 w').ok b ∧ w'.heap[b]? = w.heap[b]? := by
    intro b hok
    have hnw : ¬ (groundOf (calleeOk g m st w ids views) (calleeM m ids) objs w).wr b := fun h => by
      obtain ⟨k, id, e, _, h2, h3, h4⟩ := wr2 b h
      exact hok.2.2 id e h2 h3 h4
    have hlt : b < w.heap.size := hok.2.1
    refine ⟨hK2 b ⟨.inl (.inl ⟨hlt, ?_, .inl hok⟩), Nat.lt_of_lt_of_le hlt hsz, fun k e he hm hmb => ?_⟩, hb.frame.block b hlt hnw⟩
    · rintro ⟨k, id, h1, h2⟩
      obtain ⟨e, e', h3, _, h5⟩ := hh.ents k id h1
      exact hok.2.2 id e h3 (trEnt_mut h5).2.2.2 h2
    · rcases (hb.place k e b he (Ent.mut_ne_gone hm) hmb).2 with h | h
      · exact absurd hlt (Nat.not_lt.2 h)
      · exact hnw h
  -- an entry that was not handed over stands where it stood
  have still : ∀ id e b, id ∉ ids → st.σ id = some e → e ≠ .gone → m id = some b → w'.heap[b]? = w.heap[b]? := by
    intro id e b hi he hg hmb
    refine hb.frame.block b (hR.place id e b he hg hmb).1 fun h => ?_
    obtain ⟨k, id', e', h1, h2, h3, h4⟩ := wr2 b h
    exact hi (hR.inj id' id e' e b h2 he h3 hg h4 hmb ▸ List.mem_of_getElem? h1)
  have hle : Env.Le (g.env m st w) (backEnv g m st ids views fr out m2 w') := by
    refine ⟨hK1, fun id a ha => ?_, fun id E s rows fz b cur ha hmb hc => ?_⟩
    · have ha' : st.σ id = some a := ha
      rcases which ids views fr out.length id with ⟨k, hk⟩ | ⟨j, hj, rfl⟩ | ⟨h1, h2⟩
      · obtain ⟨e, e', h3, h4, h5⟩ := hh.ents k id hk
        rw [ha'] at h3; cases h3
        obtain ⟨e0, h6, h7⟩ := (backσ hh hf hl id).1 k hk
        obtain ⟨e1, h8, h9, h10⟩ := hb.org k e' h4
        have h8' : out[k]? = some e1 := h8
        rw [h6] at h8'; cases h8'
        refine ⟨_, h7, entLe_back h5 h9, fun hg => ?_⟩
        show backM m m2 ids fr out.length id = m id
        rw [backM_handed hh.nodup hk]
        have := (h10 (fun h => hg (renEnt_gone.2 h))).1
        refine this.trans ?_
        show calleeM m ids k = m id
        simp [calleeM, hk]
      · rw [hf.free j hj] at ha'; cases ha'
      · obtain ⟨h3, h4⟩ := (backσ hh hf hl id).2.2 h1 h2
        have hm' : (backEnv g m st ids views fr out m2 w').m id = m id := backM_other h1 h2
        by_cases hv : id ∈ views
        · obtain ⟨E, s, rows, fz, h5, h6⟩ := h3 hv
          rw [ha'] at h5; cases h5
          exact ⟨_, h6, ⟨rfl, rfl, rfl⟩, fun _ => hm'⟩
        · exact ⟨a, (h4 hv).trans ha', EntLe.refl _, fun _ => hm'⟩
    · have ha' : st.σ id = some (.arr E s rows fz) := ha
      have hmb' : m id = some b := hmb
      have hc' : w.heap[b]? = some (.cells cur E (0, 0)) := hc
      by_cases hi : id ∈ ids
      · obtain ⟨k, hk⟩ := List.mem_iff_getElem?.1 hi
        obtain ⟨e, e', h3, h4, h5⟩ := hh.ents k id hk
        rw [ha'] at h3; cases h3
        obtain ⟨e0, h6, h7⟩ := (backσ hh hf hl id).1 k hk
        obtain ⟨e1, h8, h9, h10⟩ := hb.org k e' h4
        have h8' : out[k]? = some e1 := h8
        rw [h6] at h8'; cases h8'
        by_cases hg : e0 = .gone
        · subst hg; exact .inl h7
        · cases e' <;> first | (exact h5.elim; done) | skip
          rename_i E' s' rows' fz'
          obtain ⟨rfl, rfl, rfl, rfl, _⟩ := h5
          refine .inr ((h10 hg).2 E s rows fz b cur rfl ?_ hc')
          show calleeM m ids k = some b
          simp [calleeM, hk, hmb']
      · exact .inr ⟨cur, (still id _ b hi ha' (by simp) hmb').trans hc', rfl⟩
  have hrd : ∀ {c : C} {v : Value}, RD w'.heap ((groundOf (calleeOk g m st w ids views) (calleeM m ids) objs w).env m2 { sl := fun _ => .dead, σ := fun i => out[i]? } w').ok c v → RD w'.heap (backEnv g m st ids views fr out m2 w').ok c v := fun h => h.mono hK2 fun _ _ => rfl
  have hrc0 : ∀ {c : C} {v : Value}, RC0 ((groundOf (calleeOk g m st w ids views) (calleeM m ids) objs w).env m2 { sl := fun _ => .dead, σ := fun i => out[i]? } w') c v → RC0 (backEnv g m st ids views fr out m2 w') (renC0 ids fr c) v := by
    intro c v h
    cases c with
    | v x => exact hrd h
    | sl rows => exact hrd h
    | osl k =>
      obtain ⟨a, h1, h2⟩ := h
      obtain ⟨h3, h4⟩ := hK4 k a h1
      refine ⟨_, h3, ?_⟩
      cases a with
      | gone => exact h2
      | arr E s rows fz =>
        have h4' : (backEnv g m st ids views fr out m2 w').m (rn ids fr k) = m2 k := h4
        simp only [renEnt, h4']
        exact h2
      | _ => exact h2.elim
    | bp k o =>
      obtain ⟨cs, b, h1, h2, rfl⟩ := h
      obtain ⟨h3, h4⟩ := hK4 k _ h1
      exact ⟨_, b, h3, h4.trans h2, rfl⟩
    | ep k i o =>
      obtain ⟨a, h1, h2⟩ := h
      obtain ⟨h3, h4⟩ := hK4 k a h1
      refine ⟨_, h3, ?_⟩
      cases a with
      | gone => exact h2
      | arr E s rows fz =>
        have h4' : (backEnv g m st ids views fr out m2 w').m (rn ids fr k) = m2 k := h4
        simp only [renEnt, h4']
        exact h2
      | _ => exact h2.elim
    | ow k lo =>
      obtain ⟨a, h1, h2⟩ := h
      obtain ⟨h3, h4⟩ := hK4 k a h1
      refine ⟨_, h3, ?_⟩
      cases a with
      | gone => exact h2
      | arr E s rows fz =>
        have h4' : (backEnv g m st ids views fr out m2 w').m (rn ids fr k) = m2 k := h4
        simp only [renEnt, h4']
        exact h2
      | _ => exact h2.elim
    | rp cs =>
      obtain ⟨b, off, h1, h2, h3⟩ := h
      exact ⟨b, off, hK2 b h1, h2, fun j c hj => by obtain ⟨x, hx, hr⟩ := h3 j c hj; exact ⟨x, hx, hrd hr⟩⟩
    | fn f caps => exact h.elim
    | mp k =>
      obtain ⟨agg, kvs, b, h1, h2, rfl⟩ := h
      obtain ⟨h3, h4⟩ := hK4 k _ h1
      exact ⟨_, _, b, h3, h4.trans h2, rfl⟩
  have hrc : ∀ {c : C} {v : Value}, RC ((groundOf (calleeOk g m st w ids views) (calleeM m ids) objs w).env m2 { sl := fun _ => .dead, σ := fun i => out[i]? } w') c v → RC (backEnv g m st ids views fr out m2 w') (renC ids fr c) v := by
    intro c v h
    by_cases hc : ∀ f caps, c ≠ .fn f caps
    · have h1 := hrc0 ((RC_iff0 hc).1 h)
      cases c <;> first | exact (hc _ _ rfl).elim | exact h1
    · cases c with
      | fn f caps =>
        obtain ⟨vs, rfl, h⟩ := h
        refine ⟨vs, rfl, by simpa using h.1, fun j x y hx hy => ?_⟩
        simp only [List.getElem?_map] at hx
        cases hj : caps[j]? with
        | none => rw [hj] at hx; cases hx
        | some c0 => rw [hj] at hx; cases hx; exact hrc0 (h.2 j c0 y hj hy)
      | _ => exact absurd (by intro f caps; simp) hc
  have hrl : ∀ {cs : List C} {vs : List Value}, RL (RC ((groundOf (calleeOk g m st w ids views) (calleeM m ids) objs w).env m2 { sl := fun _ => .dead, σ := fun i => out[i]? } w')) cs vs → RL (RC (backEnv g m st ids views fr out m2 w')) (cs.map (renC ids fr)) vs := by
    intro cs vs h
    refine ⟨by simpa using h.1, fun j x y hx hy => ?_⟩
    simp only [List.getElem?_map] at hx
    cases hj : cs[j]? with
    | none => rw [hj] at hx; cases hx
    | some c0 => rw [hj] at hx; cases hx; exact hrc (h.2 j c0 y hj hy)
  have hent2 : ∀ k e0, out[k]? = some e0 → REnt (backEnv g m st ids views fr out m2 w') (m2 k) (renEnt ids fr e0) := by
    intro k e0 hk
    have h := hb.ent k e0 hk
    have hp := hpure e0 (List.mem_of_getElem? hk)
    cases e0 with
    | box cs =>
      obtain ⟨b, cur, T, h1, h2, h3⟩ := h
      exact ⟨b, cur, T, h1, h2, hrl h3⟩
    | arr E s rows fz =>
      obtain ⟨h0, h1, h⟩ := h
      refine ⟨h0, h1, h.imp id ?_⟩
      rintro ⟨b, cur, cap, g1, g2, g3, g4, g5, g6⟩
      exact ⟨b, cur, cap, g1, g2, g3, g4, g5, fun i r j c k1 k2 => by
        obtain ⟨x, hx, hr⟩ := g6 i r j c k1 k2
        exact ⟨x, hx, (hrd (isDRows_rd hp k1 k2 hr)).rc⟩⟩
    | mp agg kvs =>
      obtain ⟨b, es, clock, h1, h2, h3⟩ := h
      exact ⟨b, es, clock, h1, h2, h3.imp fun _ _ _ hh' => ⟨hh'.1, hh'.2.1, hh'.2.2.imp fun _ _ _ h => hrd h⟩⟩
    | gone => trivial
  have place2 : ∀ k e0 b, out[k]? = some e0 → e0 ≠ .gone → m2 k = some b → b < w'.heap.size ∧ (g.B ≤ b ∨ g.wr b) := by
    intro k e0 b hk hg hmb
    obtain ⟨h1, h2⟩ := hb.place k e0 b hk hg hmb
    refine ⟨h1, ?_⟩
    rcases h2 with h | h
    · exact .inl (Nat.le_trans hB h)
    · obtain ⟨_, id, e, _, h4, h5, h6⟩ := wr2 b h
      exact (hR.place id e b h4 (Ent.mut_ne_gone h5) h6).2
  -- each entry, told by whose it is
  have told : ∀ id e, updσ st.σ (backUps st.σ ids views fr out) id = some e → (∃ k e0, out[k]? = some e0 ∧ e = renEnt ids fr e0 ∧ backM m m2 ids fr out.length id = m2 k ∧ id = rn ids fr k) ∨
      (id ∉ ids ∧ backM m m2 ids fr out.length id = m id ∧ ∃ e1, st.σ id = some e1 ∧ (e = e1 ∨ ∃ E s rows fz, e1 = .arr E s rows fz ∧ e = .arr E s rows true)) := by
    intro id e he
    rcases which ids views fr out.length id with ⟨k, hk⟩ | ⟨j, hj, rfl⟩ | ⟨h1, h2⟩
    · obtain ⟨e0, h3, h4⟩ := (backσ hh hf hl id).1 k hk
      rw [h4] at he; cases he
      exact .inl ⟨k, e0, h3, rfl, backM_handed hh.nodup hk _, by simp [rn, hk]⟩
    · obtain ⟨e0, h3, h4⟩ := (backσ hh hf hl (fr + j)).2.1 j hj rfl
      rw [h4] at he; cases he
      exact .inl ⟨_, e0, h3, rfl, backM_made hj (hfi j hj), by simp [rn]⟩
    · obtain ⟨h3, h4⟩ := (backσ hh hf hl id).2.2 h1 h2
      refine .inr ⟨h1, backM_other h1 h2, ?_⟩
      by_cases hv : id ∈ views
      · obtain ⟨E, s, rows, fz, h5, h6⟩ := h3 hv
        rw [h6] at he; cases he
        exact ⟨_, h5, .inr ⟨E, s, rows, fz, rfl, rfl⟩⟩
      · rw [h4 hv] at he
        exact ⟨e, he, .inl rfl⟩
  have hR' : R g (backM m m2 ids fr out.length) { st with σ := updσ st.σ (backUps st.σ ids views fr out) } tmps w' := by
    refine hR.next (hR.frame.step hb.frame.os hb.frame.tape hb.frame.output hsz fun k hk hw => hb.frame.block k (Nat.lt_of_lt_of_le hk hB) fun h => ?_) hle ?_ ?_ ?_
    · obtain ⟨_, id, e, _, h4, h5, h6⟩ := wr2 k h
      rcases (hR.place id e k h4 (Ent.mut_ne_gone h5) h6).2 with h' | h'
      · exact absurd hk (Nat.not_lt.2 h')
      · exact hw h'
    · intro id e he
      rcases told id e he with ⟨k, e0, h1, rfl, h3, _⟩ | ⟨h1, h2, e1, h3, h4⟩
      · rw [h3]; exact hent2 k e0 h1
      · rw [h2]
        have hE := hR.ent id e1 h3
        rcases h4 with rfl | ⟨E, s, rows, fz, rfl, rfl⟩
        · exact REnt.le hle hE fun hg b hmb => still id e b h1 h3 hg hmb
        · have h0 : REnt (g.env m st w) (m id) (.arr E s rows true) := hE
          exact REnt.le hle h0 fun _ b hmb => still id _ b h1 h3 (by simp) hmb
    · intro id e b he hg hmb
      rcases told id e he with ⟨k, e0, h1, rfl, h3, _⟩ | ⟨h1, h2, e1, h3, h4⟩
      · rw [h3] at hmb
        exact place2 k e0 b h1 (fun h => hg (renEnt_gone.2 h)) hmb
      · rw [h2] at hmb
        have hg1 : e1 ≠ .gone := by
          rcases h4 with rfl | ⟨_, _, _, _, rfl, _⟩
          · exact hg
          · simp
        have := hR.place id e1 b h3 hg1 hmb
        exact ⟨Nat.lt_of_lt_of_le this.1 hsz, this.2⟩
    · intro id id' e e' b he he' hm hg hmb hmb'
      have cross : ∀ (k : Nat) (e0 : Ent) (i : Nat) (e1 : Ent), out[k]? = some e0 → e0 ≠ .gone → m2 k = some b → i ∉ ids → st.σ i = some e1 → e1 ≠ .gone → m i = some b → False := by
        intro k e0 i e1 h1 h2 h3 h4 h5 h6 h7
        have hlt := (hR.place i e1 b h5 h6 h7).1
        rcases (hb.place k e0 b h1 h2 h3).2 with h | h
        · exact absurd hlt (Nat.not_lt.2 h)
        · obtain ⟨k2, i2, e2, h8, h9, h10, h11⟩ := wr2 b h
          exact h4 (hR.inj i2 i e2 e1 b h9 h5 h10 h6 h11 h7 ▸ List.mem_of_getElem? h8)
      rcases told id e he with ⟨k, e0, h1, rfl, h3, h3'⟩ | ⟨h1, h2, e1, h3, h4⟩ <;> rcases told id' e' he' with ⟨k', e0', g1, rfl, g3, g3'⟩ | ⟨g1, g2, e1', g3, g4⟩
      · rw [renEnt_mut] at hm
        rw [h3] at hmb; rw [g3] at hmb'
        have := hb.inj k k' e0 e0' b h1 g1 hm (fun h => hg (renEnt_gone.2 h)) hmb hmb'
        rw [h3', g3', this]
      · rw [renEnt_mut] at hm
        rw [h3] at hmb; rw [g2] at hmb'
        have hg1 : e1' ≠ .gone := by
          rcases g4 with rfl | ⟨_, _, _, _, rfl, _⟩
          · exact hg
          · simp
        exact (cross k e0 id' e1' h1 (Ent.mut_ne_gone hm) hmb g1 g3 hg1 hmb').elim
      · rw [h2] at hmb; rw [g3] at hmb'
        have hg1 : e1 ≠ .gone := by
          rcases h4 with rfl | ⟨_, _, _, _, rfl, _⟩
          · exact Ent.mut_ne_gone hm
          · simp
        exact (cross k' e0' id e1 g1 (fun h => hg (renEnt_gone.2 h)) hmb' h1 h3 hg1 hmb).elim
      · rw [h2] at hmb; rw [g2] at hmb'
        have hm1 : e1.mut = true := by
          rcases h4 with rfl | ⟨_, _, _, _, _, rfl⟩
          · exact hm
          · cases hm
        have hg1 : e1' ≠ .gone := by
          rcases g4 with rfl | ⟨_, _, _, _, rfl, _⟩
          · exact hg
          · simp
        exact hR.inj id id' e1 e1' b h3 g3 hm1 hg1 hmb hmb'
  refine ⟨hR', fun res v hno h => ?_⟩
  cases res with
  | dead => trivial
  | c x => exact hrc h
  | agg cs =>
    obtain ⟨vs, rfl, h⟩ := h
    exact ⟨vs, rfl, hrl h⟩
  | tup vs =>
    obtain ⟨ws, rfl, h⟩ := h
    refine ⟨ws, rfl, by simpa using h.1, fun j x y hx hy => ?_⟩
    simp only [List.getElem?_map] at hx
    cases hj : vs[j]? with
    | none => rw [hj] at hx; cases hx
    | some s =>
      rw [hj] at hx; cases hx
      have := h.2 j s y hj hy
      cases s with
      | dead => trivial
      | c x => exact hrc this
      | agg cs =>
        obtain ⟨vs, rfl, h⟩ := this
        exact ⟨vs, rfl, hrl h⟩
      | tup => exact this.elim
      | opt => exact this.elim
  | opt b x => exact (hno b x rfl).elim

end
end Go.Abs
